/- Part 17 of the proof (its last part says what is proved). No condition. -/
import Derived.Test.YtgdlhckhpolnnaaGreatDoorK15
namespace Go.Proofs.YtgdlhckhpolnnaaGreatDoor
set_option maxRecDepth 100000
set_option maxHeartbeats 8000000
open Go.RowKit Go.Proofs.Tryz
section
theorem dR.made {α:Type}{n:Nat}{e:TypeId}{E:cO α}{B:Nat}(w:World)(cur:Array Value)(cap:Nat)(j:B≤w.heap.size)(hm:cap≤maxLen)(o:cur.size=cap*n):
 dR n e E B (w.alloc (.cells cur e)) (.slice (some ⟨w.heap.size,0,none⟩) 0 cap) ([]:List α):=
 ⟨[],fun _=>False,World.ownsRow_made w cur cap j hm o,rfl,(fun _ h=>by cases h),fun _ h=>h.elim,fun i x h=>by simp at h⟩
def eT {α:Type}(E:bT α):cO α:=fun S w cs x=>∃v,cs=[v]∧E S w v x
theorem aS {α:Type}{E:bT α}(g:bT.Good E):cO.Good (eT E):=by
 constructor
 ·rintro S w w' cs x k ⟨v,e,h⟩
  exact⟨v,e,g.keep k h⟩
 rintro S T w cs x k ⟨v,e,h⟩;exact⟨v,e,g.wide k h⟩
theorem jT {α:Type}{bw:Nat}{E:bT α}{S:Nat→Prop}{w:World}{v:Value}{l:List α}(h:rx 1 bw (eT E) S w v l):Sl bw E S w v l:=by obtain⟨a,cap,rfl,h1,j,o,h⟩:=h;refine⟨a,cap,rfl,h1,j,o,fun i x C=>?_⟩;obtain⟨b,off,cs,e,I,_,J,u,rfl,R⟩:=h i x C;exact⟨b,off,u,e,I,by have:=J 0 u rfl;rwa [Nat.mul_one,dj] at this,R⟩
theorem qz {l:List Nat}{x:Nat}(h:x∈l):x≤l.sum:=by
 induction l with
 |nil=>cases h
 |cons a l j=>
  rw[List.sum_cons];rcases fX.1 h with rfl|h;·omega
  have:=j h;omega
section
variable {p:aH} {q:dN} {f:cD} {b:eS} {x:cX}
theorem yr (j:fV q)(o:f∈q.Nf):gl f≤4096:=fR (qz (dr.2 ⟨f,o,rfl⟩)) j.2.2.2.2
theorem Fm (j:fV q)(o:f∈q.Nf)(C:b∈f.Ng):b.code.length≤4096:=fR (qz (dr.2 ⟨b,C,rfl⟩)) (yr j o)
theorem xu (j:fV q)(o:f∈q.Nf):(bh f).length≤5000:=by
 have h1:=yr j o;have C:=(j.2.2.2.1 f o).2.2.1;have I:(sx f).length≤gl f:=by unfold sx gl;refine fR (List.length_filter_le _ _) ?_;rw[List.length_flatMap];simp
 unfold bh;rw[iQ];omega
theorem pr (j:fV q)(o:f∈q.Nf):(cn f).length≤64∧f.Ng.length≤64:=by have:=(j.2.2.2.1 f o).2.2.2.2.1;unfold cn;rw[ce];exact⟨this,this⟩
theorem KU (j:b∈f.Ng)(o:x∈b.code):x.dst=gR∨x.dst∈bh f:=by
 by_cases h:x.dst=gR;·exact .inl h
 right;refine eD.2 (.inr (List.mem_filter.2 ⟨List.mem_flatMap.2 ⟨b,j,dr.2 ⟨x,o,rfl⟩⟩,?_⟩));simpa using h
theorem Ir (j:fV q)(o:f∈q.Nf)(C:b∈f.Ng)(I:x∈b.code):x.args.length≤64∧x.Nh.length≤64:=by
 obtain⟨_,_,_,_,_,J,R⟩:=((j.2.2.2.1 f o).2.2.2.2.2 b C).2 x I;by_cases h:x.kind=3
 ·obtain⟨_,_,_,e,Y,h6⟩:=J h
  omega
 obtain⟨s,_,e,_,Y,_⟩:=R h;rw[e];exact⟨by omega,by simp⟩
theorem mf {α:Type}(f:α→Bool)(l:List α)(h:l.length≤1048576):aV (gJ f l):=by have:=kT f l;unfold aV;omega
theorem GP (j:dD p)(o:fV q)(C:f∈q.Nf):aV (dv p q f x)∧aV (dy f x):=by
 have h1:=j.1;have R:=j.2.1.1.2.1;have Y:=j.2.2.2.2.2.1.1;have h4:=j.2.2.2.2.2.2.1;have h5:=o.1;have h6:=o.2.1;have h7:=(pr o C).1;have I:(dz q).length≤1048576:=by unfold dz;rw[ce];omega
 have J:(fh q).length≤1048576:=by unfold fh;rw[ce];omega
 have z:aV 0:=by unfold aV;omega
 constructor;·(
 unfold dv;split;·exact mf _ _ I
 split;·exact mf _ _ J
 split;·exact mf _ _ (by omega)
 split;·exact mf _ _ (by omega)
 split;·exact mf _ _ (by omega)
 split;·exact mf _ _ (by omega)
 exact z)
 unfold dy;split;·exact mf _ _ (by omega)
 exact z
end
def we:cO cD:=fun S w cs f=>∃j o,cs=[.map (some j),.map (some o)]∧S j∧S o∧wd w j o f
theorem nN:cO.Good we:=by
 constructor
 ·rintro S w w' cs x k ⟨o,C,e,h1,j,I,J⟩
  exact⟨o,C,e,h1,j,I.keep k h1,J.keep k j⟩
 rintro S T w cs x k ⟨o,C,e,h1,j,I⟩;exact⟨o,C,e,k _ h1,k _ j,I⟩
theorem vq:(prog.info? 131).map (fun i=>(i.zero,i.size,i.bytes))=some (some (.agg #[.map none,.map none]),2,16):=by kernel_rfl
theorem Dp (n:Nat)(I:n≤1048576)(w:World):(Instr.makeSlice 129 (.int .i64 0) (.int .i64 n)).run prog w=.ok (.slice (some ⟨w.heap.size,0,none⟩) 0 n) (w.alloc (.cells (madeCells #[.map none,.map none] (n*2)) 131)):=by obtain⟨i,hi,j,o,C⟩:=info_parts vq;rw[run_make (P:=prog) w 129 131 i _ underlying129 hi j .i64 .i64 0 n (by omega) (by omega) (by rw[C];omega) (by omega),o,dP];rfl
end
theorem kt:(prog.info? 3).map (fun i=>(i.zero,i.size,i.bytes))=some (some (.int .i64 0),1,8):=by kernel_rfl
theorem vm:(prog.info? 54).map (fun i=>(i.zero,i.size,i.bytes))=some (some (.slice none 0 0),1,24):=by kernel_rfl
def EN (b:aw)(w:World)(e:Ending)(w':World):Prop:=∃u,e=.returned (.tuple #[u,.bool true])∧Rows (fun g=>w.heap.size≤g∧g<w'.heap.size) w' u (bM b)∧aa All w w'
section
open Classical in
noncomputable def mH (b:aw)(i:Nat)(x:bz):Int:=if lZ b x i then(if∀(m:Nat) v f,x.args[m]? =some v→x.Nh[m]? =some f→jl b v f.toNat then 0 else 19) else 18
open Classical in
theorem Ck {b:aw}{i k:Nat}{x:bz}(h:x.kind=3):uo b i k x=mH b i x:=by unfold uo mH;rw[ap h]
theorem wZ {b:aw}{i:Nat}{x:bz}(h:¬lZ b x i):mH b i x=18:=by unfold mH;rw[ae h]
theorem Cl {b:aw}{i:Nat}{x:bz}(h:lZ b x i){m:Nat}{v f:Int}(h1:x.args[m]? =some v)(j:x.Nh[m]? =some f)(o:¬jl b v f.toNat):mH b i x=19:=by unfold mH;rw[ap h,ae fun h'=>o (h' m v f h1 j)]
theorem GC {b:aw}{i:Nat}{x:bz}(h:lZ b x i)(j:∀(m:Nat) v f,x.args[m]? =some v→x.Nh[m]? =some f→jl b v f.toNat):mH b i x=0:=by unfold mH;rw[ap h,ap j]
end
section
theorem yn {b:aw}{k:Nat}(h:cV (kO (bM b)) b.Ng.length=k):oh b=(fQ b k,16):=by unfold oh;rw[h,ap (by omega),dP]
theorem ve {b:aw}{k:Nat}(j:cV (kO (bM b)) b.Ng.length= -1)(h:cV (iN (bM b)) b.Ng.length=k):oh b=(fQ b k,17):=by unfold oh;rw[j,ae (by decide),h,ap (by omega),dP]
open Classical in
theorem yp {b:aw}(j:cV (kO (bM b)) b.Ng.length= -1)(h1:cV (iN (bM b)) b.Ng.length= -1){i:Nat}(h:dH (bM b) i 0):oh b=(fQ b 0,18):=by unfold oh;rw[j,ae (by decide),h1,ae (by decide),ap ⟨i,h⟩]
open Classical in
theorem BU {b:aw}(j:cV (kO (bM b)) b.Ng.length= -1)(h1:cV (iN (bM b)) b.Ng.length= -1)(h:∀i,¬dH (bM b) i 0):oh b=ls (uo b) b.Ng:=by unfold oh;rw[j,ae (by decide),h1,ae (by decide),ae fun⟨i,hi⟩=>h i hi]
open Classical in
theorem Gt {b:aw}{i k:Nat}{x:bz}(h:x.kind≠3){v:Int}(j:v∈x.args)(o:¬iP b v i k):uo b i k x=19:=by unfold uo;rw[ae h,ae fun h'=>o (h' v j)]
open Classical in
theorem Kq {b:aw}{i k:Nat}{x:bz}(h:x.kind≠3)(j:∀v∈x.args,iP b v i k):uo b i k x=0:=by unfold uo;rw[ae h,ap j]
def qk (b:aw)(w:World)(e:Ending)(w':World):Prop:=e=.returned (.tuple #[.int .i64 (oh b).1,.int .i64 (oh b).2])∧aa All w w'
theorem qk.of {b:aw}{w w':World}{x y:Int}(h:oh b=(x,y))(j:aa All w w'):qk b w (.returned (.tuple #[.int .i64 x,.int .i64 y])) w':=by refine⟨?_,j⟩;rw[h]
theorem yQ {b:aw}{k:Nat}{l:List bz}{x:bz}(h1:b.Ng[k]? =some l)(j:l[0]? =some x):fQ b k=x.Nj:=by
 unfold fQ;have e:b.Ng.getD k []=l:=by rw[iG,h1];rfl
 rw[e,iG,j];rfl
end
section
theorem Bf {x y:bz}:jD x y↔x.kind=y.kind∧x.op=y.op∧x.dst=y.dst∧x.ref=y.ref∧x.Ni=y.Ni∧x.num=y.num∧x.args=y.args∧x.Nh=y.Nh:=by
 obtain⟨k,o,d,r,a,l,f,n,p⟩:=x;obtain⟨k',o',d',r',a',l',f',n',p'⟩:=y;simp only[jD,iE,bz.mk.injEq,and_true];constructor;·rintro⟨h1,j,C,I,J,R,Y,h8⟩;exact⟨h1,j,C,I,J,h8,R,Y⟩
 rintro⟨h1,j,C,I,J,R,Y,h8⟩;exact⟨h1,j,C,I,J,Y,h8,R⟩
def qke (b:aw):Int×Int×List (List bz):=(b.params,b.vars,b.Ng.map fun l=>l.map iE)
theorem CG {x y:aw}:qke x=qke y↔x.params=y.params∧x.vars=y.vars∧x.Ng.map (fun l=>l.map iE)=y.Ng.map (fun l=>l.map iE):=by simp[qke]
namespace Q
section
variable {α β:Type} {g:α→β} {la lb:List α} {k:Nat} {x y:α}
theorem qjk (j:la[k]? =some x)(hy:lb[k]? =some y)(h:(la.take k).map g=(lb.take k).map g)(e:g x=g y):(la.take (k+1)).map g=(lb.take (k+1)).map g:=by rw[cU,cU,j,hy,ic,ic,h];simp[e]
theorem qjj (j:la[k]? =some x)(hy:lb[k]? =some y)(h:¬g x=g y):¬la.map g=lb.map g:=fun e=>h (by have:=congrArg (fun l=>l[k]?) e;simpa [j,hy] using this)
theorem qjo (h:¬(la.length:Int)=lb.length):¬la.map g=lb.map g:=fun e=>h (by have:=congrArg List.length e;simp at this;omega)
theorem qjn (h1:k≤la.length)(j:¬(k:Int)<la.length)(o:(la.length:Int)=lb.length)(h:(la.take k).map g=(lb.take k).map g):la.map g=lb.map g:=by rwa [oF (by omega),oF (by omega)] at h
end
theorem pbT {P:Prop}(h:pB P=true):P:=Classical.byContradiction fun n=>by rw[au n] at h;cases h
theorem pbF {P:Prop}(h:pB P=false):¬P:=fun n=>by rw[av n] at h;cases h
theorem qjs (la lb:List (Int))(hl:la.length≤9223372036854775806):VF prog 177 [qfd la,qfd lb] (·=.s (.bool (pB (la.map id=lb.map id)))):=by
 refine qaT [4] func177 rfl Tryz.results177 ntmps177 rfl fun g w=>?_;refine st ?_;refine qcg (fun h=>?_) fun h=>?_
 ·refine st ?_
  exact qar (ya rfl rfl (au (qjo (by simpa using h))).symm)
 have C:(la.length:Int)=lb.length:=by simpa using h
 refine st ?_;refine qbf (fun k=>k≤la.length∧(la.take k).map id=(lb.take k).map id) (fun k=>la.length-k) (fun k=>[(13,.s (.int .i64 k)),(12,.s (.int .i64 la.length)),(1,qfd lb),(0,qfd la)]) (fun _=>[]) 0 ⟨Nat.zero_le _,rfl⟩ ⟨rfl,rfl,rfl,rfl,trivial⟩ (.inl rfl) ?_;rintro k ⟨I,he⟩;refine st ?_;refine qbu (fun h1=>?_) fun h1=>?_
 case refine_2=>refine qbe (st ?_);exact qar (ya rfl rfl (av (qjn I (by omega) C he)).symm)
 obtain⟨x,o⟩:∃x,la[k]? =some x:=⟨_,lG (by omega)⟩;obtain⟨y,hy⟩:∃y,lb[k]? =some y:=⟨_,lG (by omega)⟩;refine st ?_;refine qaW 9 ?_;refine st ?_;refine qcg (fun j=>?_) fun j=>?_
 ·refine st ?_
  exact qar (ya rfl rfl (au (qjj o hy (by simpa using j))).symm)
 refine st ?_;exact⟨k+1,⟨by omega,qjk o hy he (by simpa using j)⟩,by omega,⟨rfl,rfl,rfl,rfl,trivial⟩,.inl rfl⟩
abbrev qjr (l:List (Int×Int)):V:=.row 2 16 (l.map qbI) none
theorem qjw (a b:Int×Int)(w:World):(binOp .neq 52 (.agg #[.int .i64 a.1,.int .i64 a.2]) (.agg #[.int .i64 b.1,.int .i64 b.2])).run prog w=.ok (.bool (!pB (a=b))) w:=by
 have h:prog.stoodInHeld 52=false:=by kernel_rfl
 by_cases e:a=b;·subst e;rw[av rfl];go_simp
 rw[au e];obtain⟨j,a2⟩:=a;obtain⟨o,C⟩:=b;simp only[Prod.mk.injEq] at e;go_simp;intros;omega
theorem qjH (la lb:List (Int×Int))(hl:la.length≤9223372036854775806):VF prog 159 [qjr la,qjr lb] (·=.s (.bool (pB (la.map id=lb.map id)))):=by
 refine qaT [4] func159 rfl Tryz.results159 ntmps159 rfl fun g w=>?_;refine st ?_;refine qcg (fun h=>?_) fun h=>?_
 ·refine st ?_
  exact qar (ya rfl rfl (au (qjo (by simpa using h))).symm)
 have C:(la.length:Int)=lb.length:=by simpa using h
 refine st ?_;refine qbf (fun k=>k≤la.length∧(la.take k).map id=(lb.take k).map id) (fun k=>la.length-k) (fun k=>[(13,.s (.int .i64 k)),(12,.s (.int .i64 la.length)),(1,qjr lb),(0,qjr la)]) (fun _=>[]) 0 ⟨Nat.zero_le _,rfl⟩ ⟨rfl,rfl,rfl,rfl,trivial⟩ (.inl rfl) ?_;rintro k ⟨I,he⟩;refine st ?_;refine qbu (fun h1=>?_) fun h1=>?_
 case refine_2=>refine qbe (st ?_);exact qar (ya rfl rfl (av (qjn I (by omega) C he)).symm)
 obtain⟨x,o⟩:∃x,la[k]? =some x:=⟨_,lG (by omega)⟩;obtain⟨y,hy⟩:∃y,lb[k]? =some y:=⟨_,lG (by omega)⟩;refine st ?_;refine qaW 9 ?_;refine st ?_;refine qgS ?_ (h:=qjw x y);refine st ?_;refine qcg (fun j=>?_) fun j=>?_
 ·refine st ?_
  exact qar (ya rfl rfl (au (qjj o hy (pbF (by simpa using j)))).symm)
 refine st ?_;exact⟨k+1,⟨by omega,qjk o hy he (pbT (by simpa using j))⟩,by omega,⟨rfl,rfl,rfl,rfl,trivial⟩,.inl rfl⟩
theorem qjA (x y:bz)(h1:x.args.length≤9223372036854775806)(j:x.Nh.length≤9223372036854775806):VF prog 165 [.agg (Oe x),.agg (Oe y)] (·=.s (.bool (pB (iE x=iE y)))):=by
 refine qaT [4] func165 rfl Tryz.results165 ntmps165 rfl fun g w=>?_;have no:∀ {b:Bool},(iE x=iE y→b=true)→b=false→false=pB (iE x=iE y):=fun h1 j=>(au fun e=>by rw[h1 e] at j;cases j).symm;refine st ?_;refine qcy (fun Y=>?_) fun k=>?_
 case refine_2=>refine st ?_;exact qar (ya rfl rfl (no (fun e=>by simp[(Bf.1 e).1]) k))
 refine st ?_;refine qcy (fun k1=>?_) fun k=>?_
 case refine_2=>refine st ?_;exact qar (ya rfl rfl (no (fun e=>by simp[(Bf.1 e).2.1]) k))
 refine st ?_;refine qcy (fun C=>?_) fun k=>?_
 case refine_2=>refine st ?_;exact qar (ya rfl rfl (no (fun e=>by simp[(Bf.1 e).2.2.1]) k))
 refine st ?_;refine qcy (fun I=>?_) fun k=>?_
 case refine_2=>refine st ?_;exact qar (ya rfl rfl (no (fun e=>by simp[(Bf.1 e).2.2.2.1]) k))
 refine st ?_;refine qcy (fun J=>?_) fun k=>?_
 case refine_2=>refine st ?_;exact qar (ya rfl rfl (no (fun e=>by simp[(Bf.1 e).2.2.2.2.1]) k))
 refine st ?_;refine qcy (fun R=>?_) fun k=>?_
 case refine_2=>refine st ?_;exact qar (ya rfl rfl (no (fun e=>by simp[(Bf.1 e).2.2.2.2.2.1]) k))
 refine st ?_;refine qbM (qjs x.args y.args h1) ?_ (hl:=xz (.row _ _ _ _ (by simp[LT]) nofun) (xz (.row _ _ _ _ (by simp[LT]) nofun) ik));refine st ?_;refine qcy (fun o=>?_) fun k=>?_
 case refine_2=>refine st ?_;exact qar (ya rfl rfl (no (fun e=>av (by rw[(Bf.1 e).2.2.2.2.2.2.1])) k))
 refine st ?_;refine qbM (qjs x.Nh y.Nh j) ?_ (hl:=xz (.row _ _ _ _ (by simp[LT]) nofun) (xz (.row _ _ _ _ (by simp[LT]) nofun) ik));refine st ?_;refine qar (ya rfl rfl (congrArg pB (propext ⟨fun e=>Bf.2 ?_,fun e=>by rw[(Bf.1 e).2.2.2.2.2.2.2]⟩)));have o:=pbT o;simp only[List.map_id,cy] at Y k1 C I J R o e;exact⟨by omega,by omega,C,I,J,R,o,e⟩
theorem qjC (la lb:List (bz))(hl:la.length≤9223372036854775806)(I:∀x∈la,x.args.length≤9223372036854775806∧x.Nh.length≤9223372036854775806):VF prog 164 [qcz la,qcz lb,.s (.func (.func 165) #[] #[])] (·=.s (.bool (pB (la.map (iE)=lb.map (iE))))):=by
 refine qaT [6] func164 rfl Tryz.results164 ntmps164 rfl fun g w=>?_;refine st ?_;refine qcg (fun h=>?_) fun h=>?_
 ·refine st ?_
  exact qar (ya rfl rfl (au (qjo (by simpa using h))).symm)
 have J:(la.length:Int)=lb.length:=by simpa using h
 refine st ?_;refine qbf (fun k=>k≤la.length∧(la.take k).map (iE)=(lb.take k).map (iE)) (fun k=>la.length-k) (fun k=>[(17,.s (.int .i64 k)),(16,.s (.int .i64 la.length)),(15,qcz la),(2,.s (.func (.func 165) #[] #[])),(1,qcz lb)]) (fun _=>[]) 0 ⟨Nat.zero_le _,rfl⟩ ⟨rfl,rfl,rfl,rfl,rfl,trivial⟩ (.inl rfl) ?_;rintro k ⟨R,he⟩;refine st ?_;refine qbu (fun h1=>?_) fun h1=>?_
 case refine_2=>refine qbe (st ?_);exact qar (ya rfl rfl (av (qjn R (by omega) J he)).symm)
 obtain⟨x,o⟩:∃x,la[k]? =some x:=⟨_,lG (by omega)⟩;obtain⟨y,hy⟩:∃y,lb[k]? =some y:=⟨_,lG (by omega)⟩;have j:=mG o;refine st ?_;refine qbM (qjA x y (I x j).1 (I x j).2) ?_ (hl:=xz (.agg _ (qia 0 x)) (xz (.agg _ (qia 0 y)) ik));refine st ?_;refine qcg (fun C=>?_) fun C=>?_
 ·refine st ?_
  exact qar (ya rfl rfl (au (qjj o hy (pbF (by simpa using C)))).symm)
 refine st ?_;exact⟨k+1,⟨by omega,qjk o hy he (pbT (by simpa using C))⟩,by omega,⟨rfl,rfl,rfl,rfl,rfl,trivial⟩,.inr ⟨_,rfl,Nat.zero_le _,xz (.s _) (xz (.s _) (xz (qjl _ la) (xz (.s _) (xz (qjl _ lb) ik)))),ik⟩⟩
def qjv (l:List bz):Prop:=l.length≤9223372036854775806∧∀x∈l,x.args.length≤9223372036854775806∧x.Nh.length≤9223372036854775806
theorem qjD (la lb:List bz)(h:qjv la):VF prog 163 [qcz la,qcz lb] (·=.s (.bool (pB (la.map iE=lb.map iE)))):=by refine qaT [4] func163 rfl Tryz.results163 ntmps163 rfl fun g w=>?_;refine st ?_;refine qbM (qjC la lb h.1 h.2) ?_ (hl:=xz (qjl _ la) (xz (qjl _ lb) (xz (.s _) ik)));refine st ?_;exact qar (ya rfl rfl rfl)
abbrev qjt (l:List (List bz)):V:=.row 1 24 (l.map fun l=>[qcz l]) none
theorem qju (N:Nat)(l:List (List bz)):Lt N (qjt l):=by simp[LT,Oe]
theorem qjy (la lb:List (List bz))(hl:la.length≤9223372036854775806)(I:∀x∈la,qjv x):VF prog 162 [qjt la,qjt lb,.s (.func (.func 163) #[] #[])] (·=.s (.bool (pB (la.map (fun l=>l.map iE)=lb.map (fun l=>l.map iE))))):=by
 refine qaT [6] func162 rfl Tryz.results162 ntmps162 rfl fun g w=>?_;refine st ?_;refine qcg (fun h=>?_) fun h=>?_
 ·refine st ?_
  exact qar (ya rfl rfl (au (qjo (by simpa using h))).symm)
 have J:(la.length:Int)=lb.length:=by simpa using h
 refine st ?_;refine qbf (fun k=>k≤la.length∧(la.take k).map (fun l=>l.map iE)=(lb.take k).map (fun l=>l.map iE)) (fun k=>la.length-k) (fun k=>[(17,.s (.int .i64 k)),(16,.s (.int .i64 la.length)),(15,qjt la),(2,.s (.func (.func 163) #[] #[])),(1,qjt lb)]) (fun _=>[]) 0 ⟨Nat.zero_le _,rfl⟩ ⟨rfl,rfl,rfl,rfl,rfl,trivial⟩ (.inl rfl) ?_;rintro k ⟨R,he⟩;refine st ?_;refine qbu (fun h1=>?_) fun h1=>?_
 case refine_2=>refine qbe (st ?_);exact qar (ya rfl rfl (av (qjn R (by omega) J he)).symm)
 obtain⟨x,j⟩:∃x,la[k]? =some x:=⟨_,lG (by omega)⟩;obtain⟨y,hy⟩:∃y,lb[k]? =some y:=⟨_,lG (by omega)⟩;have o:=mG j;refine st ?_;refine qbM (qjD x y (I x o)) ?_ (hl:=xz (qjl _ x) (xz (qjl _ y) ik));refine st ?_;refine qcg (fun C=>?_) fun C=>?_
 ·refine st ?_
  exact qar (ya rfl rfl (au (qjj j hy (pbF (by simpa using C)))).symm)
 refine st ?_;exact⟨k+1,⟨by omega,qjk j hy he (pbT (by simpa using C))⟩,by omega,⟨rfl,rfl,rfl,rfl,rfl,trivial⟩,.inl rfl⟩
theorem qjz (x y:aw)(h1:x.Ng.length≤9223372036854775806)(j:∀l∈x.Ng,qjv l):VF prog 161 [.agg (qaH x),.agg (qaH y)] (·=.s (.bool (pB (qke x=qke y)))):=by
 refine qaT [4] func161 rfl Tryz.results161 ntmps161 rfl fun g w=>?_;have no:∀ {b:Bool},(qke x=qke y→b=true)→b=false→false=pB (qke x=qke y):=fun h1 j=>(au fun e=>by rw[h1 e] at j;cases j).symm;refine st ?_;refine qcy (fun o=>?_) fun k=>?_
 case refine_2=>refine st ?_;exact qar (ya rfl rfl (no (fun e=>by simp[(CG.1 e).1]) k))
 refine st ?_;refine qcy (fun C=>?_) fun k=>?_
 case refine_2=>refine st ?_;exact qar (ya rfl rfl (no (fun e=>by simp[(CG.1 e).2.1]) k))
 refine st ?_;refine qbM (qjy x.Ng y.Ng h1 j) ?_ (hl:=xz (qju _ _) (xz (qju _ _) (xz (.s _) ik)));refine st ?_;refine qar (ya rfl rfl (congrArg pB (propext ⟨fun e=>CG.2 ?_,fun e=>(CG.1 e).2.2⟩)));simp only[cy] at o C;exact⟨o,C,e⟩
abbrev qjm (l:List aw):V:=.row 3 40 (l.map qaH) none
theorem qjp (N:Nat)(l:List aw):Lt N (qjm l):=by simp[LT,qaH,Oe]
def qjF (x:aw):Prop:=x.Ng.length≤9223372036854775806∧∀l∈x.Ng,qjv l
theorem qjG (la lb:List (aw))(hl:la.length≤9223372036854775806)(I:∀x∈la,qjF x):VF prog 160 [qjm la,qjm lb,.s (.func (.func 161) #[] #[])] (·=.s (.bool (pB (la.map (qke)=lb.map (qke))))):=by
 refine qaT [6] func160 rfl Tryz.results160 ntmps160 rfl fun g w=>?_;refine st ?_;refine qcg (fun h=>?_) fun h=>?_
 ·refine st ?_
  exact qar (ya rfl rfl (au (qjo (by simpa using h))).symm)
 have J:(la.length:Int)=lb.length:=by simpa using h
 refine st ?_;refine qbf (fun k=>k≤la.length∧(la.take k).map (qke)=(lb.take k).map (qke)) (fun k=>la.length-k) (fun k=>[(17,.s (.int .i64 k)),(16,.s (.int .i64 la.length)),(15,qjm la),(2,.s (.func (.func 161) #[] #[])),(1,qjm lb)]) (fun _=>[]) 0 ⟨Nat.zero_le _,rfl⟩ ⟨rfl,rfl,rfl,rfl,rfl,trivial⟩ (.inl rfl) ?_;rintro k ⟨R,he⟩;refine st ?_;refine qbu (fun h1=>?_) fun h1=>?_
 case refine_2=>refine qbe (st ?_);exact qar (ya rfl rfl (av (qjn R (by omega) J he)).symm)
 obtain⟨x,o⟩:∃x,la[k]? =some x:=⟨_,lG (by omega)⟩;obtain⟨y,hy⟩:∃y,lb[k]? =some y:=⟨_,lG (by omega)⟩;have j:=mG o;refine st ?_;refine qbM (qjz x y (I x j).1 (I x j).2) ?_ (hl:=xz (.agg _ (qbg 0 x)) (xz (.agg _ (qbg 0 y)) ik));refine st ?_;refine qcg (fun C=>?_) fun C=>?_
 ·refine st ?_
  exact qar (ya rfl rfl (au (qjj o hy (pbF (by simpa using C)))).symm)
 refine st ?_;exact⟨k+1,⟨by omega,qjk o hy he (pbT (by simpa using C))⟩,by omega,⟨rfl,rfl,rfl,rfl,rfl,trivial⟩,.inr ⟨_,rfl,Nat.zero_le _,xz (.s _) (xz (.s _) (xz (qjp _ la) (xz (.s _) (xz (qjp _ lb) ik)))),ik⟩⟩
theorem qjK {α:Type}{bw:Nat}{E:bT α}{S:Nat→Prop}{w:World}{v:Value}{l:List α}(h:Sl bw E S w v l)(j:0<bw:=by decide):l.length≤9223372036854775806:=by obtain⟨_,_,_,_,_,o,_⟩:=h;have:=Nat.le_mul_of_pos_right l.length j;omega
theorem qjI {α:Type}{n bw:Nat}{E:cO α}{S:Nat→Prop}{w:World}{v:Value}{l:List α}(h:rx n bw E S w v l)(j:0<bw:=by decide):l.length≤9223372036854775806:=by obtain⟨_,_,_,_,_,o,_⟩:=h;have:=Nat.le_mul_of_pos_right l.length j;omega
end Q
theorem oP (S T:Nat→Prop)(j vb:Value)(la lb:List Int)(w:World)(o:aK S w j la)(C:aK T w vb lb):
 Calls prog 177 #[j,vb] w fun e w'=>e=.returned (.bool (decide (la=lb)))∧aa All w w':=by
 have h:=Q.qjJ (vs:=[j,vb]) (Q.qjs la lb (Q.qjK o)) (Q.da.cons (Q.qgh .top o) (Q.da.cons (Q.qgh .top C) Q.da.nil));have e:pB (la.map id=lb.map id)=decide (la=lb):=by rw[List.map_id,List.map_id];by_cases h:la=lb<;>simp[pB,h]
 rwa [e] at h
end
theorem zN (op:Nat)(h:op<13)(w:World)(hl:gz w):Calls prog 199 #[.int .u8 op] w fun e w'=>e=.returned (.string (nt op))∧w=w':=by have j:=hl.2 op h;clear hl;go_enter func199,ntmps199;go_wp2;go_ret;exact⟨rfl,rfl⟩
theorem CC (op:Nat)(h:13≤op)(h1:op<256)(w:World):Calls prog 199 #[.int .u8 op] w fun e w'=>e=.returned (.string ⟨#[]⟩)∧w=w':=by go_enter func199,ntmps199;go_wp2;go_ret;exact⟨rfl,rfl⟩
theorem Dy (op:Nat)(h:op<13)(j:op≠0):(nt op).toList.isEmpty=false:=by rw[jY];refine cI fun e=>?_;have:=congrArg ByteArray.size e;rcases op with _|_|_|_|_|_|_|_|_|_|_|_|_|k;all_goals first|(exfalso;omega)|(revert this;decide)
def Cq (x:cX):Prop:=¬((x.op≠0↔x.kind=2)∧x.op≤12∧(x.num≠0→x.kind=1)∧cC x.args∧cC x.Nh)
theorem DT (S:Nat→Prop)(a f:Value)(x:cX)(w:World)(h1:gB S w a x.args)(h2:gB S w f x.Nh)(hx:uB x)(hl:gz w):
 Calls prog 153 #[.agg #[.int .u8 x.kind,.int .u8 x.op,.string x.dst,.string x.ref,.string x.Ni,a,f,.int .i64 x.num,.int .i64 x.Nj]] w fun e w'=>e=.returned (.bool (pB (fj x)))∧aa All w w':=by
 have hA:=fun wn (hk:aa All w wn)=>nw S a x.args wn (ax.keep hk.all h1);have hF:=fun wn (hk:aa All w wn)=>nw S f x.Nh wn (ax.keep hk.all h2);have hL:=fun wn (hk:aa All w wn)=>hl.keep hk;obtain⟨A1,c1,rfl,_⟩:=h1;obtain⟨A2,c2,rfl,_⟩:=h2;have c4:aa All w (w.alloc (.cells #[.int .u8 x.kind,.int .u8 x.op,.string x.dst,.string x.ref,.string x.Ni,.slice A1 x.args.length c1,.slice A2 x.Nh.length c2,.int .i64 x.num,.int .i64 x.Nj] 188)):=(aa.refl All w).alloc _;have c5:∀wn,aa All (w.alloc (.cells #[.int .u8 x.kind,.int .u8 x.op,.string x.dst,.string x.ref,.string x.Ni,.slice A1 x.args.length c1,.slice A2 x.Nh.length c2,.int .i64 x.num,.int .i64 x.Nj] 188)) wn→∀i,wn.cell? ⟨w.heap.size,i,none⟩=(#[.int .u8 x.kind,.int .u8 x.op,.string x.dst,.string x.ref,.string x.Ni,.slice A1 x.args.length c1,.slice A2 x.Nh.length c2,.int .i64 x.num,.int .i64 x.Nj]:Array Value)[i]?:=fun wn h i=>sh h i;have HC:=J5 hA hF hL c4 c5;clear hA hF hL c4 c5 hl;obtain⟨x1,x2,_⟩:=hx;go_enter func153,ntmps153;go_upto_region 1 with fail;go_cut [44] (fun d7 wx=>d7=.bool (pB (Cq x))∧aa All (w.alloc (.cells #[.int .u8 x.kind,.int .u8 x.op,.string x.dst,.string x.ref,.string x.Ni,.slice A1 x.args.length c1,.slice A2 x.Nh.length c2,.int .i64 x.num,.int .i64 x.Nj] 188)) wx)
 case first=>(
 have hE:Cq x↔¬((x.op≠0↔x.kind=2)∧x.op≤12∧(x.num≠0→x.kind=1)∧cC x.args∧cC x.Nh):=Iff.rfl;by_cases e1:x.op=0;·(
 have t1:=wK x.op 0 (by omega);by_cases e2:x.kind=2;·have t2:=yK x.kind 2 (by omega);have HR:=oH (av (hE.2 fun h=>h.1.2 e2 e1));clear e1 e2 hE;go_wp2_with fail;go_meet;exact⟨by rw[HR.out],kR⟩
 have t2:=nK x.kind 2 (by omega);by_cases e3:x.num=0
 ·have t3:(x.num !=0)=false:=by rw[gj];exact e3
  have HB:=oH (show cC x.args∧cC x.Nh↔¬Cq x by rw[hE,Classical.not_not];exact⟨fun h=>⟨⟨fun h'=>absurd e1 h',fun h'=>absurd h' e2⟩,by omega,fun h'=>absurd e3 h',h.1,h.2⟩,fun h=>⟨h.2.2.2.1,h.2.2.2.2⟩⟩);clear e1 e2 e3 hE;have C:=fun wn (hk:aa All (w.alloc (.cells #[.int .u8 x.kind,.int .u8 x.op,.string x.dst,.string x.ref,.string x.Ni,.slice A1 x.args.length c1,.slice A2 x.Nh.length c2,.int .i64 x.num,.int .i64 x.Nj] 188)) wn)=>HC.1 wn (HC.2.2.2.1.trans hk);have I:=fun wn (hk:aa All (w.alloc (.cells #[.int .u8 x.kind,.int .u8 x.op,.string x.dst,.string x.ref,.string x.Ni,.slice A1 x.args.length c1,.slice A2 x.Nh.length c2,.int .i64 x.num,.int .i64 x.Nj] 188)) wn)=>HC.2.1 wn (HC.2.2.2.1.trans hk);by_cases ea:cC x.args
  ·rw[av ea] at C;by_cases ef:cC x.Nh;·rw[av ef] at I;have HR:=oH (au (HB.1 ⟨ea,ef⟩));have HX:=J2 C I;clear C I ea ef;go_wp2_with fail;refine(HX.1 _ kR).mono ?_;rintro e w1 ⟨rfl,o⟩;have H1:=oH o;have g6:=HC.2.2.2.2 w1 o 6;simp only[gc] at g6;clear o;go_wp2_with fail;refine(HX.2 _ H1.out).mono ?_;rintro e w2 ⟨rfl,j⟩;have J:=oH (H1.out.trans j);clear j g6;go_wp2_with fail;go_meet;exact⟨by rw[HR.out],J.out⟩
   rw[au ef] at I;have HR:=oH (av (Classical.not_not.1 fun h=>ef (HB.2 h).2));have HX:=J2 C I;clear C I ea ef;go_wp2_with fail;refine(HX.1 _ kR).mono ?_;rintro e w1 ⟨rfl,o⟩;have H1:=oH o;have g6:=HC.2.2.2.2 w1 o 6;simp only[gc] at g6;clear o;go_wp2_with fail;refine(HX.2 _ H1.out).mono ?_;rintro e w2 ⟨rfl,j⟩;have J:=oH (H1.out.trans j);clear j g6;go_wp2_with fail;go_meet;exact⟨by rw[HR.out],J.out⟩
  rw[au ea] at C;have HR:=oH (av (Classical.not_not.1 fun h=>ea (HB.2 h).1));have HX:=J2 C I;clear C I ea;go_wp2_with fail;refine(HX.1 _ kR).mono ?_;rintro e w1 ⟨rfl,o⟩;have H1:=oH o;have g6:=HC.2.2.2.2 w1 o 6;simp only[gc] at g6;clear o;go_wp2_with fail;go_meet;exact⟨by rw[HR.out],H1.out⟩
 have t3:(x.num !=0)=true:=by rw[bne_iff_ne];exact e3
 by_cases e4:x.kind=1
 ·have t4:=wK x.kind 1 (by omega);have HB:=oH (show cC x.args∧cC x.Nh↔¬Cq x by rw[hE,Classical.not_not];exact⟨fun h=>⟨⟨fun h'=>absurd e1 h',fun h'=>absurd h' e2⟩,by omega,fun _=>e4,h.1,h.2⟩,fun h=>⟨h.2.2.2.1,h.2.2.2.2⟩⟩);clear e1 e2 e3 e4 hE;have C:=fun wn (hk:aa All (w.alloc (.cells #[.int .u8 x.kind,.int .u8 x.op,.string x.dst,.string x.ref,.string x.Ni,.slice A1 x.args.length c1,.slice A2 x.Nh.length c2,.int .i64 x.num,.int .i64 x.Nj] 188)) wn)=>HC.1 wn (HC.2.2.2.1.trans hk);have I:=fun wn (hk:aa All (w.alloc (.cells #[.int .u8 x.kind,.int .u8 x.op,.string x.dst,.string x.ref,.string x.Ni,.slice A1 x.args.length c1,.slice A2 x.Nh.length c2,.int .i64 x.num,.int .i64 x.Nj] 188)) wn)=>HC.2.1 wn (HC.2.2.2.1.trans hk);by_cases ea:cC x.args
  ·rw[av ea] at C;by_cases ef:cC x.Nh;·rw[av ef] at I;have HR:=oH (au (HB.1 ⟨ea,ef⟩));have HX:=J2 C I;clear C I ea ef;go_wp2_with fail;refine(HX.1 _ kR).mono ?_;rintro e w1 ⟨rfl,o⟩;have H1:=oH o;have g6:=HC.2.2.2.2 w1 o 6;simp only[gc] at g6;clear o;go_wp2_with fail;refine(HX.2 _ H1.out).mono ?_;rintro e w2 ⟨rfl,j⟩;have J:=oH (H1.out.trans j);clear j g6;go_wp2_with fail;go_meet;exact⟨by rw[HR.out],J.out⟩
   rw[au ef] at I;have HR:=oH (av (Classical.not_not.1 fun h=>ef (HB.2 h).2));have HX:=J2 C I;clear C I ea ef;go_wp2_with fail;refine(HX.1 _ kR).mono ?_;rintro e w1 ⟨rfl,o⟩;have H1:=oH o;have g6:=HC.2.2.2.2 w1 o 6;simp only[gc] at g6;clear o;go_wp2_with fail;refine(HX.2 _ H1.out).mono ?_;rintro e w2 ⟨rfl,j⟩;have J:=oH (H1.out.trans j);clear j g6;go_wp2_with fail;go_meet;exact⟨by rw[HR.out],J.out⟩
  rw[au ea] at C;have HR:=oH (av (Classical.not_not.1 fun h=>ea (HB.2 h).1));have HX:=J2 C I;clear C I ea;go_wp2_with fail;refine(HX.1 _ kR).mono ?_;rintro e w1 ⟨rfl,o⟩;have H1:=oH o;have g6:=HC.2.2.2.2 w1 o 6;simp only[gc] at g6;clear o;go_wp2_with fail;go_meet;exact⟨by rw[HR.out],H1.out⟩
 have t4:=mK x.kind 1 (by omega);have HR:=oH (av (hE.2 fun h=>e4 (h.2.2.1 e3)));clear e1 e2 e3 e4 hE;go_wp2_with fail;go_meet;exact⟨by rw[HR.out],kR⟩)
 have t1:=mK x.op 0 (by omega);by_cases e2:x.kind=2;·(
 have t2:=yK x.kind 2 (by omega);by_cases c6:x.op<13;·(
 have a6:=fun wn (hk:aa All (w.alloc (.cells #[.int .u8 x.kind,.int .u8 x.op,.string x.dst,.string x.ref,.string x.Ni,.slice A1 x.args.length c1,.slice A2 x.Nh.length c2,.int .i64 x.num,.int .i64 x.Nj] 188)) wn)=>zN x.op c6 wn (HC.2.2.1 wn (HC.2.2.2.1.trans hk));have d9:=Dy x.op c6 e1;by_cases e3:x.num=0
 ·have t3:(x.num !=0)=false:=by rw[gj];exact e3
  have HB:=oH (show cC x.args∧cC x.Nh↔¬Cq x by rw[hE,Classical.not_not];exact⟨fun h=>⟨⟨fun _=>e2,fun _=>e1⟩,by omega,fun h'=>absurd e3 h',h.1,h.2⟩,fun h=>⟨h.2.2.2.1,h.2.2.2.2⟩⟩);clear e1 e2 e3 hE;have HM:=oH a6;clear a6;have C:=fun wn (hk:aa All (w.alloc (.cells #[.int .u8 x.kind,.int .u8 x.op,.string x.dst,.string x.ref,.string x.Ni,.slice A1 x.args.length c1,.slice A2 x.Nh.length c2,.int .i64 x.num,.int .i64 x.Nj] 188)) wn)=>HC.1 wn (HC.2.2.2.1.trans hk);have I:=fun wn (hk:aa All (w.alloc (.cells #[.int .u8 x.kind,.int .u8 x.op,.string x.dst,.string x.ref,.string x.Ni,.slice A1 x.args.length c1,.slice A2 x.Nh.length c2,.int .i64 x.num,.int .i64 x.Nj] 188)) wn)=>HC.2.1 wn (HC.2.2.2.1.trans hk);by_cases ea:cC x.args
  ·rw[av ea] at C;by_cases ef:cC x.Nh;·rw[av ef] at I;have HR:=oH (au (HB.1 ⟨ea,ef⟩));have HX:=J2 C I;clear C I ea ef;go_wp2_with (go_at_call 199;refine(HM.out _ kR).mono ?_;rintro e w' ⟨rfl,rfl⟩);refine(HX.1 _ kR).mono ?_;rintro e w1 ⟨rfl,o⟩;have H1:=oH o;have g6:=HC.2.2.2.2 w1 o 6;simp only[gc] at g6;clear o;go_wp2_with fail;refine(HX.2 _ H1.out).mono ?_;rintro e w2 ⟨rfl,j⟩;have J:=oH (H1.out.trans j);clear j g6;go_wp2_with fail;go_meet;exact⟨by rw[HR.out],J.out⟩
   rw[au ef] at I;have HR:=oH (av (Classical.not_not.1 fun h=>ef (HB.2 h).2));have HX:=J2 C I;clear C I ea ef;go_wp2_with (go_at_call 199;refine(HM.out _ kR).mono ?_;rintro e w' ⟨rfl,rfl⟩);refine(HX.1 _ kR).mono ?_;rintro e w1 ⟨rfl,o⟩;have H1:=oH o;have g6:=HC.2.2.2.2 w1 o 6;simp only[gc] at g6;clear o;go_wp2_with fail;refine(HX.2 _ H1.out).mono ?_;rintro e w2 ⟨rfl,j⟩;have J:=oH (H1.out.trans j);clear j g6;go_wp2_with fail;go_meet;exact⟨by rw[HR.out],J.out⟩
  rw[au ea] at C;have HR:=oH (av (Classical.not_not.1 fun h=>ea (HB.2 h).1));have HX:=J2 C I;clear C I ea;go_wp2_with (go_at_call 199;refine(HM.out _ kR).mono ?_;rintro e w' ⟨rfl,rfl⟩);refine(HX.1 _ kR).mono ?_;rintro e w1 ⟨rfl,o⟩;have H1:=oH o;have g6:=HC.2.2.2.2 w1 o 6;simp only[gc] at g6;clear o;go_wp2_with fail;go_meet;exact⟨by rw[HR.out],H1.out⟩
 have t3:(x.num !=0)=true:=by rw[bne_iff_ne];exact e3
 have t4:=mK x.kind 1 (by omega);have HR:=oH (av (hE.2 fun h=>by have:=h.2.2.1 e3;omega));clear e1 e2 e3 hE;have HM:=oH a6;clear a6;go_wp2_with (go_at_call 199;refine(HM.out _ kR).mono ?_;rintro e w' ⟨rfl,rfl⟩);go_meet;exact⟨by rw[HR.out],kR⟩)
 have a6:=fun wn=>CC x.op (by omega) x2 wn;have HR:=oH (av (hE.2 fun h=>by have:=h.2.1;omega));clear e1 e2 hE;have HM:=oH a6;clear a6;go_wp2_with (go_at_call 199;refine(HM.out _).mono ?_;rintro e w' ⟨rfl,rfl⟩);go_meet;exact⟨by rw[HR.out],kR⟩)
 have t2:=nK x.kind 2 (by omega);have HR:=oH (av (hE.2 fun h=>e2 (h.1.1 e1)));clear e1 e2 hE;go_wp2_with fail;go_meet;exact⟨by rw[HR.out],kR⟩)
 obtain⟨rfl,o⟩:=hcut;have g:=HC.2.2.2.2 wc o;have g0:=g 0;have g2:=g 2;have g3:=g 3;have g4:=g 4;have g5:=g 5;have g6:=g 6;simp only[gc] at g0 g2 g3 g4 g5 g6;have H1:=J2 o (HC.2.2.2.1.trans o);clear o g;by_cases eb:Cq x;·rw[av eb];have HR:=oH (au (P:=fj x) fun h=>eb ⟨h.1,h.2.1,h.2.2.1,h.2.2.2.1,h.2.2.2.2.1⟩);clear eb;go_wp2_with fail;go_ret;exact⟨by rw[HR.out];rfl,H1.2⟩
 rw[au eb];have HN:=oH (Classical.not_not.1 eb);clear eb;by_cases e3:x.kind=3;·(
 have t3:=yK x.kind 3 (by omega);have HI:=oH (show fj x↔aB x.dst=true∧x.ref=gR∧x.Ni=gR∧x.Nh.length=x.args.length∧1≤x.Nh.length∧x.Nh.length≤64 from⟨fun h=>h.2.2.2.2.2.1 e3,fun h=>⟨HN.1,HN.2.1,HN.2.2.1,HN.2.2.2.1,HN.2.2.2.2,fun _=>h,fun h'=>absurd e3 h'⟩⟩);clear e3;have a6:=fun wn=>gT x.dst wn;have nr:=jY x.ref;have na:=jY x.Ni;by_cases d1:aB x.dst=true;·(
 rw[d1] at a6;by_cases d2:x.ref=gR;·(
 rw[bL d2] at nr;by_cases d3:x.Ni=gR;·(
 rw[bL d3] at na;by_cases d4:x.Nh.length=x.args.length;·(
 have t4:((x.Nh.length:Int)==(x.args.length:Int))=true:=by rw[cy];omega
 by_cases d5:1≤x.Nh.length;·(
 have t5:decide ((1:Int)≤(x.Nh.length:Int))=true:=by simp;omega
 by_cases d6:x.Nh.length≤64
 ·have t6:decide ((x.Nh.length:Int)≤64)=true:=by simp;omega
  have HR:=oH (av (HI.2 ⟨d1,d2,d3,d4,d5,d6⟩));clear d1 d2 d3 d4 d5 d6;go_wp2_with (go_at_call 88;refine(a6 _).mono ?_;rintro e w2 ⟨rfl,j⟩;have Y:=HC.2.2.2.2 w2 (H1.1.trans j);have q3:=Y 3;have q4:=Y 4;have q5:=Y 5;have q6:=Y 6;simp only[gc] at q3 q4 q5 q6;have J:=oH j;clear j Y);go_ret;exact⟨by rw[HR.out];rfl,H1.2.trans J.out⟩
 have t6:decide ((x.Nh.length:Int)≤64)=false:=by simp;omega
 have HR:=oH (au fun h=>d6 (HI.1 h).2.2.2.2.2);clear d1 d2 d3 d4 d5 d6;go_wp2_with (go_at_call 88;refine(a6 _).mono ?_;rintro e w2 ⟨rfl,j⟩;have Y:=HC.2.2.2.2 w2 (H1.1.trans j);have q3:=Y 3;have q4:=Y 4;have q5:=Y 5;have q6:=Y 6;simp only[gc] at q3 q4 q5 q6;have J:=oH j;clear j Y);go_ret;exact⟨by rw[HR.out];rfl,H1.2.trans J.out⟩)
 have t5:decide ((1:Int)≤(x.Nh.length:Int))=false:=by simp;omega
 have HR:=oH (au fun h=>d5 (HI.1 h).2.2.2.2.1);clear d1 d2 d3 d4 d5;go_wp2_with (go_at_call 88;refine(a6 _).mono ?_;rintro e w2 ⟨rfl,j⟩;have Y:=HC.2.2.2.2 w2 (H1.1.trans j);have q3:=Y 3;have q4:=Y 4;have q5:=Y 5;have q6:=Y 6;simp only[gc] at q3 q4 q5 q6;have J:=oH j;clear j Y);go_ret;exact⟨by rw[HR.out];rfl,H1.2.trans J.out⟩)
 have t4:((x.Nh.length:Int)==(x.args.length:Int))=false:=by rw[bE];omega
 have HR:=oH (au fun h=>d4 (HI.1 h).2.2.2.1);clear d1 d2 d3 d4;go_wp2_with (go_at_call 88;refine(a6 _).mono ?_;rintro e w2 ⟨rfl,j⟩;have Y:=HC.2.2.2.2 w2 (H1.1.trans j);have q3:=Y 3;have q4:=Y 4;have q5:=Y 5;have q6:=Y 6;simp only[gc] at q3 q4 q5 q6;have J:=oH j;clear j Y);go_ret;exact⟨by rw[HR.out];rfl,H1.2.trans J.out⟩)
 rw[cI d3] at na;have HR:=oH (au fun h=>d3 (HI.1 h).2.2.1);clear d1 d2 d3;go_wp2_with (go_at_call 88;refine(a6 _).mono ?_;rintro e w2 ⟨rfl,j⟩;have Y:=HC.2.2.2.2 w2 (H1.1.trans j);have q3:=Y 3;have q4:=Y 4;have q5:=Y 5;have q6:=Y 6;simp only[gc] at q3 q4 q5 q6;have J:=oH j;clear j Y);go_ret;exact⟨by rw[HR.out];rfl,H1.2.trans J.out⟩)
 rw[cI d2] at nr;have HR:=oH (au fun h=>d2 (HI.1 h).2.1);clear d1 d2;go_wp2_with (go_at_call 88;refine(a6 _).mono ?_;rintro e w2 ⟨rfl,j⟩;have Y:=HC.2.2.2.2 w2 (H1.1.trans j);have q3:=Y 3;have q4:=Y 4;have q5:=Y 5;have q6:=Y 6;simp only[gc] at q3 q4 q5 q6;have J:=oH j;clear j Y);go_ret;exact⟨by rw[HR.out];rfl,H1.2.trans J.out⟩)
 have c7:aB x.dst=false:=by simpa using d1
 rw[c7] at a6;have HR:=oH (au fun h=>d1 (HI.1 h).1);clear d1 c7;go_wp2_with (go_at_call 88;refine(a6 _).mono ?_;rintro e w2 ⟨rfl,j⟩;have Y:=HC.2.2.2.2 w2 (H1.1.trans j);have q3:=Y 3;have q4:=Y 4;have q5:=Y 5;have q6:=Y 6;simp only[gc] at q3 q4 q5 q6;have J:=oH j;clear j Y);go_ret;exact⟨by rw[HR.out];rfl,H1.2.trans J.out⟩)
 have t3:=nK x.kind 3 (by omega);have HI:=oH (show fj x↔∃s,cJ x.kind=some s∧x.Nh=[]∧(0≤s.args→(x.args.length:Int)=s.args)∧x.args.length≤6∧fS x.dst s.dst∧fS x.ref s.ref∧fS x.Ni s.Ni from⟨fun h=>h.2.2.2.2.2.2 e3,fun h=>⟨HN.1,HN.2.1,HN.2.2.1,HN.2.2.2.1,HN.2.2.2.2,fun h'=>absurd h' e3,fun _=>h⟩⟩);clear e3;go_upto_region 5 with fail;go_cut [3,4] (fun s3 s4 wx=>∃b,s3=.pointer (some ⟨b,0,none⟩)∧s4=.bool (cJ x.kind).isSome∧aa All (w.alloc (.cells #[.int .u8 x.kind,.int .u8 x.op,.string x.dst,.string x.ref,.string x.Ni,.slice A1 x.args.length c1,.slice A2 x.Nh.length c2,.int .i64 x.num,.int .i64 x.Nj] 188)) wx∧al wx b 277 #[.int .i64 ((cJ x.kind).getD ⟨0,false,false,false⟩).args,.bool ((cJ x.kind).getD ⟨0,false,false,false⟩).dst,.bool ((cJ x.kind).getD ⟨0,false,false,false⟩).ref,.bool ((cJ x.kind).getD ⟨0,false,false,false⟩).Ni])
 case first=>(have b8:∀(_:Unit),(Instr.lookup 279 (.map (some (wc.heap.size))) (.int .u8 x.kind) true).run prog (wc.alloc (.map (mI 12) 12)).drew=.ok (.tuple #[Ig ((cJ x.kind).getD ⟨0,false,false,false⟩),.bool (cJ x.kind).isSome]) (wc.alloc (.map (mI 12) 12)).drew:=fun _=>qG _ x.kind x1 _ (by show(wc.heap.push _)[wc.heap.size]? =_;simp);have c8:∀(O:Obj),(Instr.lookup 279 (.map (some (wc.heap.size))) (.int .u8 x.kind) true).run prog ((wc.alloc (.map (mI 12) 12)).alloc O).drew=.ok (.tuple #[Ig ((cJ x.kind).getD ⟨0,false,false,false⟩),.bool (cJ x.kind).isSome]) ((wc.alloc (.map (mI 12) 12)).alloc O).drew:=fun O=>qG _ x.kind x1 _ (by show((wc.heap.push _).push _)[wc.heap.size]? =_;rw[Array.getElem?_push,ae (by simp)];simp);have c9:∀(O:Obj),(Instr.lookup 279 (.map (some (wc.heap.size+1))) (.int .u8 x.kind) true).run prog ((wc.alloc O).alloc (.map (mI 12) 12)).drew=.ok (.tuple #[Ig ((cJ x.kind).getD ⟨0,false,false,false⟩),.bool (cJ x.kind).isSome]) ((wc.alloc O).alloc (.map (mI 12) 12)).drew:=fun O=>qG _ x.kind x1 _ (by show((wc.heap.push O).push _)[wc.heap.size+1]? =_;rw[Array.getElem?_push,ap (by simp)]);have b8:=b8 ();unfold Ig at b8 c8 c9;generalize (cJ x.kind).getD ⟨0,false,false,false⟩=s at*;generalize (cJ x.kind).isSome=so at*;have gs:w.heap.size<wc.heap.size:=jy wc _ g0;have gn:wc.heap.size≠w.heap.size:=Nat.ne_of_gt gs;clear g2 g3 g4 g5 g6;go_region_with (go_at_call 200;refine(Bm _).mono ?_;rintro e w' ⟨rfl,rfl⟩);all_goals(go_wp2_with fail;go_meet;exact⟨_,rfl,rfl,((H1.1.alloc _).alloc _).drew,by first|exact(ac (by simp)).drew|exact((al.new _ _ _).alloc _).drew⟩))
 obtain⟨b,rfl,rfl,j,hb⟩:=hcut;have g:=HC.2.2.2.2 wc j;have q2:=g 2;have q3:=g 3;have q4:=g 4;have q5:=g 5;have q6:=g 6;have c0:=hb.cell 0;have c1:=hb.cell 1;have c2:=hb.cell 2;have c3:=hb.cell 3;simp only[gc] at q2 q3 q4 q5 q6 c0 c1 c2 c3;have J:=J3 j (HC.2.2.2.1.trans j) hb;clear g0 g2 g3 g4 g5 g6 g j hb;generalize cJ x.kind=so at*;cases so with
 |none=>have HR:=oH (au fun h=>by obtain⟨s,e,_⟩:=HI.1 h;cases e);go_wp2_with fail;go_ret;exact⟨by rw[HR.out];rfl,J.2.1⟩
 |some s=>
  have HJ:=oH (show fj x↔x.Nh=[]∧(0≤s.args→(x.args.length:Int)=s.args)∧x.args.length≤6∧fS x.dst s.dst∧fS x.ref s.ref∧fS x.Ni s.Ni from HI.out.trans ⟨fun⟨s',e,h⟩=>by cases e;exact h,fun h=>⟨s,rfl,h⟩⟩);clear HI;simp only[Option.getD_some] at c0 c1 c2 c3;by_cases p1:x.Nh=[];·(
 have t4:decide ((0:Int)<(x.Nh.length:Int))=false:=by rw[p1];rfl
 have d8:¬0<x.Nh.length:=by rw[p1];simp
 by_cases p2:0≤s.args;·(
 have t5:decide (0≤s.args)=true:=by simpa using p2
 by_cases p3:(x.args.length:Int)=s.args;·(
 have t6:((x.args.length:Int) !=s.args)=false:=by rw[gj];exact p3
 by_cases p4:x.args.length≤6
 ·have t7:decide ((6:Int)<(x.args.length:Int))=false:=by simp;omega
  have HK:=oH (show fj x↔fS x.dst s.dst∧fS x.ref s.ref∧fS x.Ni s.Ni from HJ.out.trans ⟨fun h=>h.2.2.2,fun h=>⟨p1,fun _=>p3,p4,h⟩⟩);clear p1 p2 p3;have f1:=fun wn=>lE x.dst s.dst wn;have f2:=fun wn=>lE x.ref s.ref wn;have f3:=fun wn=>lE x.Ni s.Ni wn;by_cases d1:fS x.dst s.dst
  ·rw[av d1] at f1;by_cases d2:fS x.ref s.ref;·rw[av d2] at f2;have HR:=oH (show pB (fj x)=pB (fS x.Ni s.Ni) from kC (HK.out.trans ⟨fun h=>h.2.2,fun h=>⟨d1,d2,h⟩⟩));generalize pB (fS x.Ni s.Ni)=z at*;have HF:=J3 f1 f2 f3;clear d1 d2 f1 f2 f3;go_wp2_with fail;refine(HF.1 _).mono ?_;rintro e w3 ⟨rfl,R⟩;have a1:=J.2.2.kept R trivial;have a8:=HC.2.2.2.2 w3 (J.1.trans R);have b0:=a8 3;have b1:=a8 4;have b2:=a1.cell 2;have b3:=a1.cell 3;simp only[gc] at b0 b1 b2 b3;have H3:=J3 (J.1.trans R) a1 (J.2.1.trans R);clear R a1 a8;go_wp2_with fail;refine(HF.2.1 _).mono ?_;rintro e w4 ⟨rfl,b4⟩;have b5:=H3.2.1.kept b4 trivial;have b9:=HC.2.2.2.2 w4 (H3.1.trans b4);have b6:=b9 4;have b7:=b5.cell 3;simp only[gc] at b6 b7;have H4:=J3 (H3.1.trans b4) b5 (H3.2.2.trans b4);clear b4 b5 b9;go_wp2_with fail;refine(HF.2.2 _).mono ?_;rintro e w5 ⟨rfl,a7⟩;have H5:=oH (H4.2.2.trans a7);clear a7;go_wp2_with fail;go_ret;exact⟨by rw[HR.out];rfl,H5.out⟩
   rw[au d2] at f2;have HR:=oH (au fun h=>d2 (HK.1 h).2.1);have HF:=J2 f1 f2;clear d1 d2 f1 f2 f3;go_wp2_with fail;refine(HF.1 _).mono ?_;rintro e w3 ⟨rfl,R⟩;have a1:=J.2.2.kept R trivial;have a8:=HC.2.2.2.2 w3 (J.1.trans R);have b0:=a8 3;have b1:=a8 4;have b2:=a1.cell 2;have b3:=a1.cell 3;simp only[gc] at b0 b1 b2 b3;have H3:=J3 (J.1.trans R) a1 (J.2.1.trans R);clear R a1 a8;go_wp2_with fail;refine(HF.2 _).mono ?_;rintro e w5 ⟨rfl,a7⟩;have H5:=oH (H3.2.2.trans a7);clear a7;go_wp2_with fail;go_ret;exact⟨by rw[HR.out];rfl,H5.out⟩
  rw[au d1] at f1;have HR:=oH (au fun h=>d1 (HK.1 h).1);have HF:=oH f1;clear d1 f1 f2 f3;go_wp2_with fail;refine(HF.out _).mono ?_;rintro e w5 ⟨rfl,a7⟩;have H5:=oH (J.2.1.trans a7);clear a7;go_wp2_with fail;go_ret;exact⟨by rw[HR.out];rfl,H5.out⟩
 have t7:decide ((6:Int)<(x.args.length:Int))=true:=by simp;omega
 have HR:=oH (au fun h=>p4 (HJ.1 h).2.2.1);clear p1 p2 p3 p4;go_wp2_with fail;go_ret;exact⟨by rw[HR.out];rfl,J.2.1⟩)
 have t6:((x.args.length:Int) !=s.args)=true:=by rw[bne_iff_ne];exact p3
 have HR:=oH (au fun h=>p3 ((HJ.1 h).2.1 p2));clear p1 p2 p3;go_wp2_with fail;go_ret;exact⟨by rw[HR.out];rfl,J.2.1⟩)
 have t5:decide (0≤s.args)=false:=by simpa using p2
 have p3:0≤s.args→(x.args.length:Int)=s.args:=fun h=>absurd h p2;by_cases p4:x.args.length≤6
 ·have t7:decide ((6:Int)<(x.args.length:Int))=false:=by simp;omega
  have HK:=oH (show fj x↔fS x.dst s.dst∧fS x.ref s.ref∧fS x.Ni s.Ni from HJ.out.trans ⟨fun h=>h.2.2.2,fun h=>⟨p1,p3,p4,h⟩⟩);clear p1 p2 p3;have f1:=fun wn=>lE x.dst s.dst wn;have f2:=fun wn=>lE x.ref s.ref wn;have f3:=fun wn=>lE x.Ni s.Ni wn;by_cases d1:fS x.dst s.dst
  ·rw[av d1] at f1;by_cases d2:fS x.ref s.ref;·rw[av d2] at f2;have HR:=oH (show pB (fj x)=pB (fS x.Ni s.Ni) from kC (HK.out.trans ⟨fun h=>h.2.2,fun h=>⟨d1,d2,h⟩⟩));generalize pB (fS x.Ni s.Ni)=z at*;have HF:=J3 f1 f2 f3;clear d1 d2 f1 f2 f3;go_wp2_with fail;refine(HF.1 _).mono ?_;rintro e w3 ⟨rfl,R⟩;have a1:=J.2.2.kept R trivial;have a8:=HC.2.2.2.2 w3 (J.1.trans R);have b0:=a8 3;have b1:=a8 4;have b2:=a1.cell 2;have b3:=a1.cell 3;simp only[gc] at b0 b1 b2 b3;have H3:=J3 (J.1.trans R) a1 (J.2.1.trans R);clear R a1 a8;go_wp2_with fail;refine(HF.2.1 _).mono ?_;rintro e w4 ⟨rfl,b4⟩;have b5:=H3.2.1.kept b4 trivial;have b9:=HC.2.2.2.2 w4 (H3.1.trans b4);have b6:=b9 4;have b7:=b5.cell 3;simp only[gc] at b6 b7;have H4:=J3 (H3.1.trans b4) b5 (H3.2.2.trans b4);clear b4 b5 b9;go_wp2_with fail;refine(HF.2.2 _).mono ?_;rintro e w5 ⟨rfl,a7⟩;have H5:=oH (H4.2.2.trans a7);clear a7;go_wp2_with fail;go_ret;exact⟨by rw[HR.out];rfl,H5.out⟩
   rw[au d2] at f2;have HR:=oH (au fun h=>d2 (HK.1 h).2.1);have HF:=J2 f1 f2;clear d1 d2 f1 f2 f3;go_wp2_with fail;refine(HF.1 _).mono ?_;rintro e w3 ⟨rfl,R⟩;have a1:=J.2.2.kept R trivial;have a8:=HC.2.2.2.2 w3 (J.1.trans R);have b0:=a8 3;have b1:=a8 4;have b2:=a1.cell 2;have b3:=a1.cell 3;simp only[gc] at b0 b1 b2 b3;have H3:=J3 (J.1.trans R) a1 (J.2.1.trans R);clear R a1 a8;go_wp2_with fail;refine(HF.2 _).mono ?_;rintro e w5 ⟨rfl,a7⟩;have H5:=oH (H3.2.2.trans a7);clear a7;go_wp2_with fail;go_ret;exact⟨by rw[HR.out];rfl,H5.out⟩
  rw[au d1] at f1;have HR:=oH (au fun h=>d1 (HK.1 h).1);have HF:=oH f1;clear d1 f1 f2 f3;go_wp2_with fail;refine(HF.out _).mono ?_;rintro e w5 ⟨rfl,a7⟩;have H5:=oH (J.2.1.trans a7);clear a7;go_wp2_with fail;go_ret;exact⟨by rw[HR.out];rfl,H5.out⟩
 have t7:decide ((6:Int)<(x.args.length:Int))=true:=by simp;omega
 have HR:=oH (au fun h=>p4 (HJ.1 h).2.2.1);clear p1 p2 p3 p4;go_wp2_with fail;go_ret;exact⟨by rw[HR.out];rfl,J.2.1⟩)
  have t4:decide ((0:Int)<(x.Nh.length:Int))=true:=by have:0<x.Nh.length:=List.length_pos_iff.2 p1;simp;omega
  have d8:0<x.Nh.length:=List.length_pos_iff.2 p1;have HR:=oH (au fun h=>p1 (HJ.1 h).1);clear p1;go_wp2_with fail;go_ret;exact⟨by rw[HR.out];rfl,J.2.1⟩
end Go.Proofs.YtgdlhckhpolnnaaGreatDoor
