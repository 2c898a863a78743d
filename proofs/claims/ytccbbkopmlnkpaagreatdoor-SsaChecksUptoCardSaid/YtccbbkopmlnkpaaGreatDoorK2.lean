/- Part 3 of the proof (its last part says what is proved). No condition. -/
import Derived.Test.YtccbbkopmlnkpaaGreatDoorK1
namespace Go.Proofs.YtccbbkopmlnkpaaGreatDoor
set_option maxRecDepth 100000
set_option maxHeartbeats 8000000
open Go.RowKit Go.Proofs.Tryz
def mu:List (List UInt8):=[[97,114,114,97,121],
 [102,110],
 [99,111,110,115,116],
 [112,104,105],
 [108,111,97,100],
 [119,114,97,112],
 [115,116,111,114,101],
 [99,97,108,108],
 [105,110,112,117,116],
 [111,117,116,112,117,116],
 [114,101,108,101,97,115,101],
 [106,117,109,112],
 [98,114,97,110,99,104],
 [114,101,116,117,114,110],
 [97,100,100],
 [115,117,98],
 [109,117,108],
 [100,105,118],
 [109,111,100],
 [97,110,100],
 [111,114],
 [120,111,114],
 [115,104,108],
 [115,104,114],
 [101,113],
 [108,101,115,115]]
def jv (s:ByteArray):Bool:=mu.any fun l=>s.toList==l
theorem zC (s:ByteArray)(w:World):Calls prog 154 #[.string s] w fun e j=>e=.returned (.bool (jv s))∧w=j:=by
 cases h:jv s with
 |false=>simp only[jv,mu,List.any_cons,List.any_nil,Bool.or_false,Bool.or_eq_false_iff] at h;obtain⟨h0,h1,h2,h3,h4,h5,h6,h7,h8,h9,o,C,I,J,R,Y,a1,a6,a7,a8,b0,b1,b2,b3,b4,b5⟩:=h;go_enter func154,ntmps154;go_wp2;go_ret;exact⟨rfl,rfl⟩
 |true=>
  simp only[jv,mu,List.any_cons,List.any_nil,Bool.or_false,Bool.or_eq_true,cy] at h;rcases h with h|h|h|h|h|h|h|h|h|h|h|h|h|h|h|h|h|h|h|h|h|h|h|h|h|h
  all_goals
   go_enter func154,ntmps154;go_wp2;go_ret;exact⟨rfl,rfl⟩
def dM (N:Nat)(f:Nat→Value):Array Value:=((List.range N).map f).toArray
theorem cq {N:Nat}{f:Nat→Value}{i:Nat}(h:i<N):(dM N f)[i]? =some (f i):=by simp[dM,h]
theorem ew (N:Nat)(f:Nat→Value):(dM N f).size=N:=by simp[dM]
def qd (f:Nat→Value)(i:Nat)(v:Value):Nat→Value:=fun k=>if k=i then v else f k
theorem jd (f:Nat→Value)(i:Nat)(v:Value):qd f i v i=v:=by simp[qd]
theorem li {f:Nat→Value}{i k:Nat}{v:Value}(h:k≠i):qd f i v k=f k:=by simp[qd,h]
theorem jo {N:Nat}{f:Nat→Value}{i:Nat}{v:Value}:(dM N f).setIfInBounds i v=dM N (qd f i v):=by
 apply Array.ext_getElem?;intro j;rw[Array.getElem?_setIfInBounds];by_cases o:j<N
 ·rw[cq o,cq o,ew]
  by_cases e:i=j;·subst e;simp[o,jd]
  rw[ae e,li (fun x=>e x.symm)]
 have C:(dM N f)[j]? =none:=by rw[jK];rw[ew];omega
 have I:(dM N (qd f i v))[j]? =none:=by rw[jK];rw[ew];omega
 rw[C,I];split;·rw[ae (by rw[ew];omega)]
 rfl
abbrev cO (α:Type):=(Nat→Prop)→World→List Value→α→Prop
def rx {α:Type}(n bw:Nat)(E:cO α):bT (List α):=fun S w v l=>
 ∃a cap,v=.slice a l.length cap∧l.length≤cap∧cap≤maxLen∧l.length*bw≤140737488355328∧
  ∀(i:Nat) (x:α),l[i]? =some x→∃b off cs,a=some ⟨b,off,none⟩∧S b∧cs.length=n∧(∀(j:Nat) c,cs[j]? =some c→w.cell? ⟨b,off+i*n+j,none⟩=some c)∧E S w cs x
structure cO.Good {α:Type}(E:cO α):Prop where
 keep:∀ {S w w' c x},aa S w w'→E S w c x→E S w' c x
 wide:∀ {S T:Nat→Prop} {w c x},(∀k,S k→T k)→E S w c x→E T w c x
theorem cH {α:Type}{n bw:Nat}{E:cO α}(g:cO.Good E):bT.Good (rx n bw E):=by
 constructor;·intro S w w' v l k h;obtain⟨a,cap,C,I,J,R,h⟩:=h;refine⟨a,cap,C,I,J,R,fun i x Y=>?_⟩;obtain⟨b,off,cs,e,o,hl,hc,he⟩:=h i x Y;exact⟨b,off,cs,e,o,hl,fun j c hj=>k.cell (p:=⟨b,off+i*n+j,none⟩) o (hc j c hj),g.keep k he⟩
 intro S T w v l k h;obtain⟨a,cap,C,I,J,R,h⟩:=h;refine⟨a,cap,C,I,J,R,fun i x Y=>?_⟩;obtain⟨b,off,cs,e,o,hl,hc,he⟩:=h i x Y;exact⟨b,off,cs,e,k b o,hl,hc,g.wide k he⟩
theorem rx.nil {α:Type}{n bw:Nat}{E:cO α}{S:Nat→Prop}{w:World}:rx n bw E S w (.slice none 0 0) []:=
 ⟨none,0,rfl,cf _,Nat.zero_le _,by simp,fun i x j=>by simp at j⟩
def EQ:bT ByteArray:=fun _ _ c s=>c=.string s
theorem iu:bT.Good EQ:=⟨fun _ h=>h,fun _ h=>h⟩
abbrev gB:=Sl 16 EQ
theorem ax:bT.Good gB:=oR iu
def U (x:BitVec 64):Value:=.int .u64 x.toNat
def Cz:bT (BitVec 64):=fun _ _ c x=>c=U x
theorem jO:bT.Good Cz:=⟨fun _ h=>h,fun _ h=>h⟩
abbrev nZ:=Sl 8 Cz
theorem dU:bT.Good nZ:=oR jO
def uy:cO (ByteArray×Int):=fun _ _ cs x=>cs=[.string x.1,.int .i64 x.2]∧(Lit.int .i64 x.2).wf=true
theorem FM:cO.Good uy:=⟨fun _ h=>h,fun _ h=>h⟩
abbrev kh:=rx 2 24 uy
theorem aX:bT.Good kh:=cH FM
structure aH where
 MZ:List ByteArray
 up:List (BitVec 64)
 Nb:List (ByteArray×Int)
 Na:List (ByteArray×Int)
 Nc:Int
def dJ (S:Nat→Prop)(w:World)(v:Value)(p:aH):Prop:=
 ∃a b c d,v=.agg #[a,b,c,d,.int .i64 p.Nc]∧gB S w a p.MZ∧nZ S w b p.up∧kh S w c p.Nb∧kh S w d p.Na∧(Lit.int .i64 p.Nc).wf=true
theorem cB:bT.Good dJ:=by
 constructor
 ·rintro S w R v p k ⟨a,b,c,d,rfl,j,o,C,I,J⟩
  exact⟨a,b,c,d,rfl,ax.keep k j,dU.keep k o,aX.keep k C,aX.keep k I,J⟩
 rintro S T w v p k ⟨a,b,c,d,rfl,j,o,C,I,J⟩;exact⟨a,b,c,d,rfl,ax.wide k j,dU.wide k o,aX.wide k C,aX.wide k I,J⟩
def gJ {α:Type}(p:α→Bool)(l:List α):Int:=if l.any p then(l.findIdx p:Int) else-1
theorem lL {α:Type}{p:α→Bool}{l:List α}{k:Nat}{x:α}(C:l[k]? =some x)(h:p x=true)(o:∀y∈l.take k,p y=false):gJ p l=k:=by
 obtain⟨j,rfl⟩:=lS.1 C;have I:l.any p=true:=mW.2 ⟨_,eL j,h⟩;have J:l.findIdx p=k:=by rw[List.findIdx_eq j];exact⟨h,fun m hm=>o _ (List.mem_take_iff_getElem.2 ⟨m,by omega,rfl⟩)⟩
 unfold gJ;rw[ap I,J]
theorem lM {α:Type}{p:α→Bool}{l:List α}(j:∀y∈l,p y=false):gJ p l= -1:=by
 have o:l.any p=false:=List.any_eq_false.2 fun x C=>by rw[j x C];simp
 unfold gJ;rw[o];rfl
theorem kT {α:Type}(p:α→Bool)(l:List α): -1≤gJ p l∧gJ p l<(l.length:Int)+1:=by unfold gJ;have:=List.findIdx_le_length (xs:=l) (p:=p);split<;>omega
theorem pP {α:Type}{p:α→Bool}{l:List α}{k:Nat}{x:α}(C:l[k]? =some x)(h:p x=false)(o:∀y∈l.take k,p y=false):∀y∈l.take (k+1),p y=false:=by
 intro y j;rw[cU,C] at j;rcases eD.1 j with j|j;·exact o y j
 rw[show y=x by simpa using j];exact h
section
open Go
section
variable {P:Program} {ops:Array Oper} {md:Region.Mode} {S:World→Prop} {T:List Tmp} {F:Tmp→Value→World→Prop} {L:Nat→Option (Value→Prop)}
def ij (ops:Array Oper)(T:List Tmp)(F:Tmp→Value→World→Prop)(o:Oper)(a:Act)(w:World):Prop:=
 ∀t∈o.looksAt ops,t∈T→∀v,a.tmps[t]? =some v→F t v w
def om (S:World→Prop)(T:List Tmp)(F:Tmp→Value→World→Prop)(o:Oper)(w j:World)(u:Value):Prop:=
 S j∧(∀t∈T,∀v,F t v w→F t v j)∧∀d,o.dst=some d→d∈T→F d u j
def kl (P:Program)(S:World→Prop)(T:List Tmp)(F:Tmp→Value→World→Prop)(V:Value→Prop)(o:Oper)(w:World):Result Next→Prop
 |.ok (.value u) j=>V u∧om S T F o w j u
 |.ok (.enter f args) j=>Calls P f args j (fun e C=>∃u,e=.returned u∧V u∧om S T F o w C u)
 |_=>False
def Iq (P:Program)(ops:Array Oper)(S:World→Prop)(T:List Tmp)(F:Tmp→Value→World→Prop)(o:Oper)(a:Act)(v:Value):Prop:=
 ∀w,S w→ij ops T F o a w→(execOp a.eval o).run P w=.ok (.value v) w∧∀d,o.dst=some d→d∈T→F d v w
def fm (P:Program)(ops:Array Oper)(S:World→Prop)(T:List Tmp)(F:Tmp→Value→World→Prop)(o:Oper)(j:Option (Value→Prop))(a:Act)(V:Value→Prop):Prop:=
 (Region.wanted o (yielded ops a.tmps)=true∧j=none∧∃v,V=(·=v)∧Iq P ops S T F o a v)∨
 (Region.wanted o (yielded ops a.tmps)=true∧j=some V∧∀w,S w→ij ops T F o a w→kl P S T F V o w ((execOp a.eval o).run P w))∨
 (Region.wanted o (yielded ops a.tmps)=false∧V=(·=undef)∧∀d,o.dst=some d→d∉T)
theorem fm.unique {o:Oper}{J:Option (Value→Prop)}{a:Act}{V V':Value→Prop}(h:fm P ops S T F o J a V)(h':fm P ops S T F o J a V'){w:World}(hw:S w)(hp:ij ops T F o a w):V=V':=by
 rcases h with ⟨I,R,v,rfl,h3⟩|⟨I,R,_⟩|⟨I,rfl,_⟩
 ·rcases h' with ⟨j,C,v',rfl,k3⟩|⟨j,C,_⟩|⟨j,_⟩
  ·have Y:=(h3 w hw hp).1;rw[(k3 w hw hp).1] at Y;iterate 2 injection Y with Y
   subst Y;rfl
  ·rw[R] at C;cases C
  rw[I] at j;cases j
 ·rcases h' with ⟨j,C,_⟩|⟨j,C,_⟩|⟨j,_⟩
  ·rw[R] at C;cases C
  ·rw[R] at C;injection C
  rw[I] at j;cases j
 rcases h' with ⟨j,_⟩|⟨j,_⟩|⟨_,rfl,_⟩;·rw[I] at j;cases j
 ·rw[I] at j;cases j
 rfl
theorem fm.some_ {o:Oper}{I:Option (Value→Prop)}{a:Act}{V:Value→Prop}(h:fm P ops S T F o I a V){w:World}(hw:S w)(R:ij ops T F o a w):∃u C,V u∧om S T F o w C u:=by
 rcases h with ⟨_,_,v,rfl,j⟩|⟨_,_,j⟩|⟨_,rfl,j⟩;·exact⟨v,w,rfl,hw,fun _ _ _ h=>h,(j w hw R).2⟩
 ·(
 have h:=j w hw R;generalize (execOp a.eval o).run P w=r at h;cases r with
 |ok n C=>
  cases n<;>simp only[kl] at h
  case value u=>exact⟨u,C,h⟩
  case enter f args=>obtain⟨e,J,_,⟨u,_,Y,hg⟩,_⟩:=h [];exact⟨u,J,Y,hg⟩
 |halt x C=>simp only[kl] at h)
 exact⟨undef,w,rfl,hw,fun _ _ _ h=>h,fun d hd ht=>absurd ht (j d hd)⟩
theorem ij.put {o:Oper}{a:Act}{w:World}{dst:Option Tmp}{u:Value}(h:∀d,dst=some d→d∉o.looksAt ops):ij ops T F o (a.put dst u) w↔ij ops T F o a w:=by
 unfold ij;constructor
 ·intro J t C R v I;refine J t C R v ?_;cases dst with
  |none=>exact I
  |some d=>have j:d≠t:=fun e=>h d rfl (e▸C);simpa [Act.put,Array.getElem?_setIfInBounds_ne j] using I
 intro J t C R v I;refine J t C R v ?_;cases dst with
 |none=>exact I
 |some d=>have j:d≠t:=fun e=>h d rfl (e▸C);simpa [Act.put,Array.getElem?_setIfInBounds_ne j] using I
theorem fm.put {o:Oper}{j:Option (Value→Prop)}{a:Act}{V:Value→Prop}{dst:Option Tmp}{u:Value}(C:∀cs b,o.op≠.select cs b)(h:∀d,dst=some d→d∉o.looksAt ops):
 fm P ops S T F o j (a.put dst u) V↔fm P ops S T F o j a V:=by
 unfold fm Iq;rw[execOp_put o C a dst u h,wanted_put o a dst u h];simp only[ij.put h]
def eU (ops:Array Oper)(T:List Tmp)(F:Tmp→Value→World→Prop)(j:Array Bool)(a:Act)(w:World):Prop:=
 ∀k o d,j.getD k false=true→ops[k]? =some o→o.dst=some d→d∈T→∀v,a.tmps[d]? =some v→F d v w
def lk (md:Region.Mode)(ops:Array Oper)(T:List Tmp):Prop:=
 (∀(i j:Nat) (x y:Oper) (t:Tmp),ops[i]? =some x→ops[j]? =some y→x.dst=some t→y.dst=some t→t∈T→i=j)∧
 (∀(j:Nat) (y:Oper) (t:Tmp),ops[j]? =some y→t∈y.looksAt ops→t∈T→∃(k:Nat) (x:Oper),ops[k]? =some x∧x.dst=some t∧∃e∈y.after,Region.binds md e=true∧e.on=k)∧
 (∀t∈T,∃(k:Nat) (x:Oper),ops[k]? =some x∧x.dst=some t)
def ns (md:Region.Mode)(ops:Array Oper)(T:List Tmp):Bool:=
 (List.range ops.size).all (fun i=>(List.range ops.size).all fun j=>match ops[i]?,ops[j]? with
  |some x,some y=>(match x.dst,y.dst with|some t,some u=>!(t==u)||!T.contains t||i==j|_,_=>true)
  |_,_=>true)&&
 (List.range ops.size).all (fun j=>match ops[j]? with
  |some y=>(y.looksAt ops).all fun t=>!T.contains t||(List.range ops.size).any fun k=>match ops[k]? with
   |some x=>x.dst==some t&&y.after.any fun e=>Region.binds md e&&e.on==k
   |none=>false
  |none=>true)&&
 T.all fun t=>(List.range ops.size).any fun k=>match ops[k]? with|some x=>x.dst==some t|none=>false
theorem sU (h:ns md ops T=true):lk md ops T:=by
 unfold ns at h;simp only[gE,List.all_eq_true,fg] at h;obtain⟨⟨R,Y⟩,h3⟩:=h;refine⟨fun i j x y t hi C o hy I=>?_,fun j y t C hl I=>?_,fun t I=>?_⟩
 ·have:=R i (mV.1 hi).1 j (mV.1 C).1
  simp only[hi,C,o,hy] at this;simpa [I] using this
 ·have:=Y j (mV.1 C).1;simp only[C,List.all_eq_true] at this;have:=this t hl;simp only[Bool.or_eq_true,Bool.not_eq_true',List.contains_eq_mem,decide_eq_false_iff_not,I,not_true_eq_false,false_or,mW,fg] at this;obtain⟨k,hk,h⟩:=this;cases o:ops[k]? with
  |none=>simp[o] at h
  |some x=>simp only[o,gE,cy] at h;obtain⟨hd,he⟩:=h;obtain⟨e,he,J⟩:=Array.any_eq_true'.1 he;simp only[gE,cy] at J;exact⟨k,x,o,hd,e,he,J.1,J.2⟩
 have:=h3 t I;simp only[mW,fg] at this;obtain⟨k,_,h⟩:=this;cases o:ops[k]? with
 |none=>simp[o] at h
 |some x=>simp only[o,cy] at h;exact⟨k,x,o,h⟩
theorem eU.pre {C:Array Bool}{a:Act}{w:World}(hm:lk md ops T)(h:eU ops T F C a w){j:Nat}{y:Oper}(hj:j∈Region.ready md ops C)(J:ops[j]? =some y):ij ops T F y a w:=by intro t ht R v hv;obtain⟨k,x,hx,hd,e,he,hb,hk⟩:=hm.2.1 j y t J ht R;obtain⟨_,o,Y,I⟩:=mem_ready.1 hj;rw[J] at Y;cases Y;have:=I e he hb;rw[hk] at this;exact h k x t this hx hd R v hv
theorem Az {j:Array Bool}{i k:Nat}(h:(j.setIfInBounds i true).getD k false=true):k=i∨j.getD k false=true:=by
 by_cases e:i=k;·exact .inl e.symm
 rw[getD_set_ne false e] at h;exact .inr h
theorem eU.next {j:Array Bool}{a:Act}{w w':World}{i:Nat}{o:Oper}{u:Value}(h:eU ops T F j a w)(hi:ops[i]? =some o)(g:om S T F o w w' u):eU ops T F (j.setIfInBounds i true) (a.put o.dst u) w':=by
 intro k x d R Y hd hT v C;by_cases e:o.dst=some d
 ·have I:v=u:=by(
 rw[e] at C;simp only[Act.put,Array.getElem?_setIfInBounds] at C;split at C
 ·split at C
  ·exact(kJ C).symm
  cases C
 rename_i h;exact absurd trivial h)
  subst I;exact g.2.2 d e hT
 have I:a.tmps[d]? =some v:=by(
 cases J:o.dst with
 |none=>rw[J] at C;exact C
 |some d'=>rw[J] at C e;have a1:d'≠d:=fun x=>e (by rw[x]);simpa [Act.put,Array.getElem?_setIfInBounds_ne a1] using C)
 rcases Az R with rfl|R;·rw[hi] at Y;cases Y;exact absurd hd e
 exact g.2.1 d hT v (h k x d R Y hd hT v I)
theorem eU.less {o:Array Bool}{a:Act}{w:World}{j:Nat}{y:Oper}{u:Value}(hm:lk md ops T)(hj:ops[j]? =some y)(C:o.getD j true=false)(h:eU ops T F (o.setIfInBounds j true) (a.put y.dst u) w):eU ops T F o a w:=by
 intro k x d J hx hd hT v hv;have R:k≠j:=by
  rintro rfl;rcases Nat.lt_or_ge k o.size with h'|h';·simp[h'] at J C;rw[J] at C;cases C
  simp[jK h'] at J
 have I:y.dst≠some d:=fun e=>R (hm.1 k j x y d hx hj hd e hT);refine h k x d (getD_set_true J) hx hd hT v ?_;cases Y:y.dst with
 |none=>exact hv
 |some d'=>rw[Y] at I;have:d'≠d:=fun x=>I (by rw[x]);simpa [Act.put,Array.getElem?_setIfInBounds_ne this] using hv
def oZ (P:Program)(md:Region.Mode)(ops:Array Oper)(S:World→Prop)(T:List Tmp)(F:Tmp→Value→World→Prop)(L:Nat→Option (Value→Prop))(Q:Act→Prop):Nat→Array Bool→Act→Prop
 |0,j,a=>(∃w,S w∧eU ops T F j a w)→Region.ready md ops j=[]∧Q a
 |C+1,j,a=>(∃w,S w∧eU ops T F j a w)→(Region.ready md ops j=[]→Q a)∧
  ∀i∈Region.ready md ops j,∀o,ops[i]? =some o→∃V,fm P ops S T F o (L i) a V∧∀v,V v→oZ P md ops S T F L Q C (j.setIfInBounds i true) (a.put o.dst v)
theorem iD {Q:Act→Prop}{Q':Exit→Act→World→Prop}(hm:lk md ops T)
 (hQ:∀j a w,j.size=ops.size→Region.ready md ops j=[]→S w→eU ops T F j a w→Q a→Q' .normal a w):∀(C:Nat) (j:Array Bool) (a:Act) (w:World),j.size=ops.size→S w→eU ops T F j a w→
 oZ P md ops S T F L Q C j a→wpAny P md ops Q' C j a w
 |0,j,a,w,hz,hw,I,h=>⟨(h ⟨w,hw,I⟩).1,hQ _ _ _ hz (h ⟨w,hw,I⟩).1 hw I (h ⟨w,hw,I⟩).2⟩
 |C+1,j,a,w,hz,hw,I,h=>by(
 refine⟨fun h0=>hQ _ _ _ hz h0 hw I ((h ⟨w,hw,I⟩).1 h0),fun i hi=>?_⟩;have J:(j.setIfInBounds i true).size=ops.size:=by rw[Array.size_setIfInBounds];exact hz
 obtain⟨_,o,Y,_⟩:=mem_ready.1 hi;obtain⟨V,hy,hn⟩:=(h ⟨w,hw,I⟩).2 i hi o Y;have hp:=I.pre hm hi Y;unfold wpOp;simp only[Y];rcases hy with ⟨h1,_,v,rfl,h3⟩|⟨h1,_,h3⟩|⟨h1,rfl,h3⟩;·rw[ap h1];left;obtain⟨R,hd⟩:=h3 w hw hp;unfold Oper.wp;rw[R];exact iD hm hQ C _ _ w J hw (I.next Y ⟨hw,fun _ _ _ h=>h,hd⟩) (hn v rfl)
 ·(
 rw[ap h1];left;have R:=h3 w hw hp;unfold Oper.wp;generalize (execOp a.eval o).run P w=r at R;cases r with
 |ok n w'=>
  cases n<;>simp only[kl] at R<;>simp only[Oper.upon]
  case value u=>exact iD hm hQ C _ _ w' J R.2.1 (I.next Y R.2) (hn u R.1)
  case enter f args=>(refine R.mono ?_;rintro e a1 ⟨u,rfl,hv,hg⟩;exact iD hm hQ C _ _ a1 J hg.1 (I.next Y hg) (hn u hv))
 |halt x w'=>simp only[kl] at R)
 rw[ae (by rw[h1];exact oG)];exact iD hm hQ C _ _ w J hw (I.next Y ⟨hw,fun _ _ _ h=>h,fun d hd ht=>absurd ht (h3 d hd)⟩) (hn undef rfl))
theorem xw {Q:Act→Prop}{i:Nat}{oi:Oper}{V:Value→Prop}(hm:lk md ops T)(hi:ops[i]? =some oi)(a7:∀(j:Nat) (o:Oper) cs b,ops[j]? =some o→o.op≠.select cs b):
 ∀(I:Nat) (C:Array Bool) (a:Act),
  (∀j oj,ops[j]? =some oj→j≠i→C.getD j true=false→(∀e∈oj.after,Region.binds md e=true→e.on≠i)→oi.apart ops oj=true)→
  i∈Region.ready md ops C→fm P ops S T F oi (L i) a V→
  (∀v,V v→oZ P md ops S T F L Q I (C.setIfInBounds i true) (a.put oi.dst v))→oZ P md ops S T F L Q (I+1) C a:=by
 intro I;induction I with
 |zero=>
  intro C a _ hr hy H Y;obtain⟨w0,b1,a6⟩:=Y;obtain⟨v0,w1,b5,hg⟩:=hy.some_ b1 (a6.pre hm hr hi);have h1:=H v0 b5 ⟨w1,hg.1,a6.next hi hg⟩;refine⟨fun h=>(by rw[h] at hr;cases hr),fun j hj o ho=>?_⟩;by_cases J:j=i;·subst J;rw[hi] at ho;cases ho;exact⟨V,hy,H⟩
  have:=ready_mono hj J;rw[h1.1] at this;cases this
 |succ I ih=>
  intro C a a8 hr hy H Y;obtain⟨w0,b1,a6⟩:=Y;obtain⟨v0,w1,b5,hg⟩:=hy.some_ b1 (a6.pre hm hr hi);have h1:=H v0 b5 ⟨w1,hg.1,a6.next hi hg⟩;refine⟨fun h=>(by rw[h] at hr;cases hr),fun j hj oj R=>?_⟩;by_cases J:j=i;·subst J;rw[hi] at R;cases R;exact⟨V,hy,H⟩
  obtain⟨b0,d8,b3,b7⟩:=mem_ready.1 hj;rw[R] at b3;cases b3;have b8:∀e∈oj.after,Region.binds md e=true→e.on≠i:=fun e he hb heq=>by(
 have h1:=b7 e he hb;have h0:=(mem_ready.1 hr).1;rw[heq] at h1;rcases Nat.lt_or_ge i C.size with h'|h';·simp[h'] at h0 h1;rw[h0] at h1;cases h1
 simp[jK h'] at h1)
  obtain⟨a1,a2,a3⟩:=Oper.apart_spec (a8 j oj R J b0 b8);obtain⟨Vj,c3,_⟩:=h1.2 j (ready_mono hj J) oj R;have b4:=(fm.put (fun cs b=>a7 j oj cs b R) a1).1 c3;have c4:=a6.pre hm hj R
  have b2:∀k ok,ops[k]? =some ok→k≠i→(C.setIfInBounds j true).getD k true=false→
   (∀e∈ok.after,Region.binds md e=true→e.on≠i)→oi.apart ops ok=true:=fun k ok hk c5 b9 c6=>by
   refine a8 k ok hk c5 ?_ c6;by_cases c0:j=k;·subst c0;exact b0
   rw[getD_set_ne true c0] at b9;exact b9
  refine⟨Vj,b4,fun u hu=>ih (C.setIfInBounds j true) (a.put oj.dst u) b2 (ready_mono hr (Ne.symm J)) ((fm.put (fun cs b=>a7 i oi cs b hi) a3).2 hy) fun v hv=>?_⟩;have comm:=Act.put_comm a v u a2;have key:(∃w,S w∧eU ops T F ((C.setIfInBounds j true).setIfInBounds i true) ((a.put oj.dst u).put oi.dst v) w)→oZ P md ops S T F L Q I ((C.setIfInBounds j true).setIfInBounds i true) ((a.put oj.dst u).put oi.dst v):=by(
 rintro⟨w2,c7,c1⟩;rw[←comm,Array.setIfInBounds_comm _ _ J] at c1⊢;have b6:(C.setIfInBounds i true).getD j true=false:=by rw[getD_set_ne true (Ne.symm J)];exact b0
 have c8:=c1.less hm R b6;obtain⟨V2,c9,d7⟩:=(H v hv ⟨w2,c7,c8⟩).2 j (ready_mono hj J) oj R;have c2:=(fm.put (fun cs b=>a7 j oj cs b R) a1).1 c9;have:=b4.unique c2 b1 c4;subst this;exact d7 u hu)
  cases I with
  |zero=>exact fun Y=>key Y Y
  |succ I=>exact fun Y=>key Y Y
def nG (P:Program)(ops:Array Oper)(S:World→Prop)(T:List Tmp)(F:Tmp→Value→World→Prop)(L:Nat→Option (Value→Prop))(Q:Act→Prop):List Oper→Nat→Act→Prop
 | [],_,a=>Q a
 |o::rest,k,a=>∃V,fm P ops S T F o (L k) a V∧∀v,V v→nG P ops S T F L Q rest (k+1) (a.put o.dst v)
theorem pd {Q:Act→Prop}(hm:lk md ops T)(R:Region.noSelect ops=true):∀(l:List Oper) (k:Nat) (C:Array Bool) (a:Act),(∀j,l[j]? =ops[k+j]?)→
 Region.lexFrom md ops l.length k C=true→nG P ops S T F L Q l k a→oZ P md ops S T F L Q l.length C a
 | [],_,_,_,_,I,h=>fun _=>⟨by simpa [Region.lexFrom] using I,h⟩
 |o::l,k,C,a,Y,I,h=>by(
 have h0:ops[k]? =some o:=by simpa using(Y 0).symm
 simp only[kI,Region.lexFrom,gE] at I;obtain⟨⟨hr,hf⟩,J⟩:=I;obtain⟨V,hy,hK⟩:=h
 exact xw hm h0 (Region.noSelect_spec R) l.length C a (Region.free_spec h0 hf) (by simpa using hr) hy
  fun v hv=>pd hm R l (k+1) _ _ (fun j=>by have:=Y (j+1);simpa [Nat.add_assoc,Nat.add_comm 1 j] using this) J (hK v hv))
theorem vO {j:Array Bool}(R:j.size=ops.size)(h:Region.ready md ops j=[])(Y:∀(k:Nat) o,ops[k]? =some o→∀e∈o.after,Region.binds md e=true→e.on<k):∀n k,k≤n→k<ops.size→j.getD k false=true:=by
 intro n;induction n with
 |zero=>
  intro k hk C;obtain rfl:k=0:=by omega
  cases I:j.getD 0 true with
  |true=>simpa [R,C] using I
  |false=>have:0∈Region.ready md ops j:=mem_ready.2 ⟨I,_,Array.getElem?_eq_getElem C,fun e he J=>by have:=Y 0 _ (Array.getElem?_eq_getElem C) e he J;omega⟩;rw[h] at this;cases this
 |succ n ih=>
  intro k hk C;cases I:j.getD k true with
  |true=>simpa [R,C] using I
  |false=>have:k∈Region.ready md ops j:=mem_ready.2 ⟨I,_,Array.getElem?_eq_getElem C,fun e he J=>by have a1:=Y k _ (Array.getElem?_eq_getElem C) e he J;exact ih e.on (by omega) (by omega)⟩;rw[h] at this;cases this
def BH (md:Region.Mode)(ops:Array Oper):Bool:=(List.range ops.size).all fun k=>match ops[k]? with|some o=>o.after.all fun e=>!Region.binds md e||decide (e.on<k)|none=>true
theorem BI (h:BH md ops=true):∀(k:Nat) o,ops[k]? =some o→∀e∈o.after,Region.binds md e=true→e.on<k:=by intro k o j e he C;unfold BH at h;simp only[List.all_eq_true,fg] at h;have:=h k (mV.1 j).1;simp only[j] at this;have:=Array.all_eq_true_iff_forall_mem.1 this e he;simpa [C] using this
theorem eK {id:Nat}{Q:Exit→Act→World→Prop}{a:Act}{w:World}{l:List Oper}(S:World→Prop)(T:List Tmp)(F:Tmp→Value→World→Prop)(L:Nat→Option (Value→Prop))(hm:P.follows .mixedOrders=true)(R:Region.lexB .any l.toArray=true)(hT:ns .any l.toArray T=true)(hA:BH .any l.toArray=true)
 (hS:S w.drew) (h:nG P l.toArray S T F L (fun I=>∀j,S j→(∀t∈T,∀v,I.tmps[t]? =some v→F t v j)→Q .normal I j) l 0 a):(Code.region id l.toArray true).wp P Q a w:=by
 simp only[Region.lexB,gE] at R;have C:=sU hT;refine wp_region_any hm (iD (S:=S) (T:=T) (F:=F) (L:=L) (Q:=fun I=>∀j,S j→(∀t∈T,∀v,I.tmps[t]? =some v→F t v j)→Q .normal I j) C (fun J I j hz hr Y hf h=>h j Y fun t ht v hv=>?_) _ _ _ _ (by simp) hS (fun k o d hk=>by exfalso;simp only[Array.getD_eq_getD_getElem?,Array.getElem?_replicate] at hk;split at hk<;>simp at hk) ?_)
 ·obtain⟨k,x,hx,hd⟩:=C.2.2 t ht
  exact hf k x t (vO hz hr (BI hA) _ k (cf _) (mV.1 hx).1) hx hd ht v hv
 have:=pd (P:=P) (S:=S) (F:=F) (L:=L) C R.1 l 0 (Array.replicate l.toArray.size false) a (by simp) (by simpa using R.2) h;simpa using this
section steps
variable {Q:Act→Prop} {o:Oper} {rest:List Oper} {k:Nat} {a:Act}
theorem dQ (h:Q a):nG P ops S T F L Q [] k a:=h
theorem bG {v:Value}(hw:Region.wanted o (yielded ops a.tmps)=true)(j:L k=none)(C:∀d,o.dst=some d→d∉T)(h:∀w,S w→ij ops T F o a w→(execOp a.eval o).run P w=.ok (.value v) w)(I:nG P ops S T F L Q rest (k+1) (a.put o.dst v)):nG P ops S T F L Q (o::rest) k a:=
 ⟨_,.inl ⟨hw,j,v,rfl,fun w J R=>⟨h w J R,fun d Y hT=>absurd hT (C d Y)⟩⟩,fun _ e=>by subst e;exact I⟩
theorem gi {V:Value→Prop}(hw:Region.wanted o (yielded ops a.tmps)=true)(j:L k=some V)(h:∀w,S w→ij ops T F o a w→kl P S T F V o w ((execOp a.eval o).run P w))(C:∀v,V v→nG P ops S T F L Q rest (k+1) (a.put o.dst v)):nG P ops S T F L Q (o::rest) k a:=
 ⟨V,.inr (.inl ⟨hw,j,h⟩),C⟩
theorem jf (hw:Region.wanted o (yielded ops a.tmps)=false)(j:∀d,o.dst=some d→d∉T)(C:nG P ops S T F L Q rest (k+1) (a.put o.dst undef)):nG P ops S T F L Q (o::rest) k a:=
 ⟨_,.inr (.inr ⟨hw,rfl,j⟩),fun _ e=>by subst e;exact C⟩
theorem OR {v:Value}{j:Act}(h:∀w,S w→ij ops T F o a w→(execOp a.eval o).run P w=.ok (.value v) w)(C:nG P ops S T F L Q rest (k+1) j)(hw:Region.wanted o (yielded ops a.tmps)=true:=by rfl)(I:L k=none:=by rfl)(J:∀d,o.dst=some d→d∉T:=by intro d R;cases R;decide)(Y:a.put o.dst v=j:=by conv=>lhs;simp only[Act.put,List.setIfInBounds_toArray,List.set_cons_zero,List.set_cons_succ]):nG P ops S T F L Q (o::rest) k a:=bG hw I J h (by rw[Y];exact C)
end steps
end
end
theorem At (s:ByteArray)(w:World):Calls prog 133 #[.string s] w fun e j=>e=.returned (.string s)∧w=j:=by go_enter func133,ntmps133;go_wp2;go_ret;exact⟨rfl,rfl⟩
theorem zO (s:ByteArray)(n:Int)(w:World):Calls prog 156 #[.agg #[.string s,.int .i64 n]] w fun e C=>e=.returned (.string s)∧aa All w C:=by have j:=fun o=>(aa.refl All w).alloc o;have I:=oH j;clear j;go_enter func156,ntmps156;go_wp2;go_ret;exact⟨rfl,I.out _⟩
theorem Eb (x s:ByteArray)(g1 g2:Nat)(w:World)(j:al w g1 220 #[.func (.func 133) #[] #[]])(o:al w g2 9 #[.string s]):
 Calls prog 199 #[.string x,.pointer (some ⟨g1,0,none⟩),.pointer (some ⟨g2,0,none⟩)] w fun e C=>e=.returned (.bool (x.toList==s.toList))∧aa All w C:=by
 have I:=j.cl 0;have J:=o.cl 0;clear j o;go_enter func199,ntmps199;go_wp2_with fail;go_quiet ((go_at_call 133;exact Calls.quiet_of_same ((At _ _).mono fun _ _ h=>⟨h.1,h.2.symm⟩)));go_wp2;go_ret;exact⟨rfl,kR.drewN _⟩
theorem Ea (x:ByteArray×Int)(s:ByteArray)(g1 g2:Nat)(w:World)(C:al w g1 235 #[.func (.func 156) #[] #[]])(I:al w g2 9 #[.string s]):
 Calls prog 213 #[.agg #[.string x.1,.int .i64 x.2],.pointer (some ⟨g1,0,none⟩),.pointer (some ⟨g2,0,none⟩)] w fun e w'=>e=.returned (.bool (x.1.toList==s.toList))∧aa All w w':=by
 have J:∀wn,aa All (w.alloc (.cells #[.string x.1,.int .i64 x.2] 228)) wn→wn.cell? ⟨g1,0,none⟩=some (.func (.func 156) #[] #[])∧wn.cell? ⟨g2,0,none⟩=some (.string s)∧
  wn.cell? ⟨w.heap.size,0,none⟩=some (.string x.1)∧wn.cell? ⟨w.heap.size,1,none⟩=some (.int .i64 x.2):=fun wn j=>
  ⟨((C.alloc _).kept j trivial).cell 0,((I.alloc _).kept j trivial).cell 0,((al.new _ _ _).kept j trivial).cell 0,((al.new _ _ _).kept j trivial).cell 1⟩
 have R:=oH J;clear J C I;go_enter func213,ntmps213;go_wp2_with fail;refine eK (aa All (w.alloc (.cells #[.string x.1,.int .i64 x.2] 228))) [] (fun _ _ _=>True) (fun k=>if k=2 then some (fun v=>v=.string x.1) else none) (by kernel_rfl) (by kernel_rfl) (by kernel_rfl) (by kernel_rfl) kR.drew ?_;iterate 2 (refine OR (fun wn j Y=>by(obtain⟨e1,e2,e3,e4⟩:=R.out wn j);go_simp;with_reducible rfl) ?_)
 refine gi (by rfl) (by rfl) (fun wn j Y=>?_) ?_;·go_simp;simp only[kl];refine(zO _ _ _).mono ?_;rintro e2 wq ⟨rfl,o⟩;exact⟨_,rfl,rfl,j.trans o,fun _ _ _ _=>trivial,fun _ _ _=>trivial⟩
 rintro v rfl;simp only[PS];iterate 3 (refine OR (fun wn j Y=>by(obtain⟨e1,e2,e3,e4⟩:=R.out wn j);go_simp;with_reducible rfl) ?_)
 refine dQ fun wn j _=>?_;have HK:=oH ((kR.alloc _).trans j);clear j;go_wp2;go_ret;exact⟨rfl,HK.out⟩
theorem FQ (S:Nat→Prop)(v:Value)(l:List ByteArray)(p:ByteArray→Bool)(p1 p2:Value)(w:World)(hv:gB S w v l)
 (hp:∀x wn,aa All w wn→Calls prog 199 #[.string x,p1,p2] wn fun e Y=>e=.returned (.bool (p x))∧aa All wn Y):
 Calls prog 198 #[v,.func (.func 199) #[] #[p1,p2]] w fun e Y=>e=.returned (.int .i64 (gJ p l))∧aa All w Y:=by
 obtain⟨a,cap,rfl,h1,h2,_,h⟩:=hv;unfold maxLen at h2;have H:=J2 h hp;clear h hp;go_enter func198,ntmps198;go_wp2;go_loopg [8] l.length (fun g i wr=>∃k:Nat,k≤l.length∧g=l.length-k∧i=.int .i64 k∧aa All w wr∧∀y∈l.take k,p y=false);·exact⟨0,by omega,by omega,rfl,kR,by simp⟩
 obtain⟨k,hk,rfl,rfl,o,J⟩:=hrel;have R:=J2 o J;by_cases a1:k<l.length
 ·obtain⟨x,hx⟩:=eG a1;obtain⟨b,off,c,rfl,hs,hc,rfl⟩:=H.1 k x hx;have hd:=o.cell (p:=⟨b,off+k,none⟩) trivial hc;have j:=H.2 x wr o;have HX:=oH hx;clear hc o J hx;cases C:p x with
  |true=>rw[C] at j;have HC:=J2 j C;clear j C;go_wp2_with fail;refine HC.1.mono ?_;rintro e Y ⟨rfl,I⟩;have HK:=oH I;clear I;go_wp2_with fail;go_ret;exact⟨by rw[lL HX.out HC.2 R.2];rfl,R.1.trans HK.out⟩
  |false=>
   rw[C] at j;have HC:=J2 j C;clear j C;go_wp2_with fail;refine HC.1.mono ?_;rintro e Y ⟨rfl,I⟩;have HK:=oH I;clear I;go_wp2_with fail;go_roundg (l.length-(k+1));·exact⟨k+1,by omega,rfl,by go_num,R.1.trans HK.out,pP HX.out HC.2 R.2⟩
   omega
 obtain rfl:k=l.length:=by omega
 clear o J;go_wp2_with fail;go_ret;exact⟨by rw[lM (by have:=R.2;rwa [dZ] at this)];rfl,R.1⟩
theorem FP (S:Nat→Prop)(v:Value)(l:List (ByteArray×Int))(p:ByteArray×Int→Bool)(p1 p2:Value)(w:World)(hv:kh S w v l)
 (hp:∀x wn,aa All w wn→Calls prog 213 #[.agg #[.string x.1,.int .i64 x.2],p1,p2] wn fun e Y=>e=.returned (.bool (p x))∧aa All wn Y):
 Calls prog 212 #[v,.func (.func 213) #[] #[p1,p2]] w fun e Y=>e=.returned (.int .i64 (gJ p l))∧aa All w Y:=by
 obtain⟨a,cap,rfl,h1,h2,_,h⟩:=hv;unfold maxLen at h2;have H:=J2 h hp;clear h hp;go_enter func212,ntmps212;go_wp2;go_loopg [8] l.length (fun g i wr=>∃k:Nat,k≤l.length∧g=l.length-k∧i=.int .i64 k∧aa All w wr∧∀y∈l.take k,p y=false);·exact⟨0,by omega,by omega,rfl,kR,by simp⟩
 obtain⟨k,hk,rfl,rfl,j,J⟩:=hrel;have R:=J2 j J;by_cases a1:k<l.length
 ·obtain⟨x,hx⟩:=eG a1;obtain⟨b,off,cs,rfl,hs,_,hc,rfl,_⟩:=H.1 k x hx;have hd:=j.cell (p:=⟨b,off+k*2,none⟩) trivial (hc 0 _ rfl);have a6:=j.cell (p:=⟨b,off+k*2+1,none⟩) trivial (hc 1 _ rfl);have o:=H.2 x wr j;have HX:=oH hx;clear hc j J hx;cases C:p x with
  |true=>rw[C] at o;have HC:=J2 o C;clear o C;go_wp2_with fail;refine HC.1.mono ?_;rintro e Y ⟨rfl,I⟩;have HK:=oH I;clear I;go_wp2_with fail;go_ret;exact⟨by rw[lL HX.out HC.2 R.2];rfl,R.1.trans HK.out⟩
  |false=>
   rw[C] at o;have HC:=J2 o C;clear o C;go_wp2_with fail;refine HC.1.mono ?_;rintro e Y ⟨rfl,I⟩;have HK:=oH I;clear I;go_wp2_with fail;go_roundg (l.length-(k+1));·exact⟨k+1,by omega,rfl,by go_num,R.1.trans HK.out,pP HX.out HC.2 R.2⟩
   omega
 obtain rfl:k=l.length:=by omega
 clear j J;go_wp2_with fail;go_ret;exact⟨by rw[lM (by have:=R.2;rwa [dZ] at this)];rfl,R.1⟩
theorem CV (S:Nat→Prop)(v:Value)(l:List ByteArray)(s:ByteArray)(w:World)(C:gB S w v l):
 Calls prog 132 #[v,.func (.func 133) #[] #[],.string s] w fun e I=>e=.returned (.tuple #[.int .i64 (max (gJ (fun x=>x.toList==s.toList) l) 0),.bool (decide (0≤gJ (fun x=>x.toList==s.toList) l))])∧aa All w I:=by
 have j:=FQ S v l (fun x=>x.toList==s.toList) (.pointer (some ⟨w.heap.size,0,none⟩)) (.pointer (some ⟨w.heap.size+1,0,none⟩)) ((w.alloc (.cells #[.func (.func 133) #[] #[]] 220)).alloc (.cells #[.string s] 9))
  (ax.keep (((aa.refl All w).alloc _).alloc _).all C) (fun x wn o=>Eb x s w.heap.size (w.heap.size+1) wn (((al.new _ _ _).alloc _).kept o trivial) ((ac (by simp)).kept o trivial))
 have R:=kT (fun x:ByteArray=>x.toList==s.toList) l;have J:l.length≤140737488355328:=by obtain⟨a,cap,_,_,_,h,_⟩:=C;omega
 have Y:=oH j;clear j C;generalize gJ (fun x:ByteArray=>x.toList==s.toList) l=r at*;go_enter func132,ntmps132;go_wp2_with fail;refine Y.out.mono ?_;rintro e I ⟨rfl,o⟩;have HK:=oH ((((aa.refl All w).alloc _).alloc _).trans o);clear o;go_wp2_with fail
 all_goals
  go_ret2;exact⟨by first|(rw[Int.max_eq_right (by omega)];rfl)|(rw[Int.max_eq_left (by omega)];rfl),HK.out⟩
theorem qt (S:Nat→Prop)(v:Value)(l:List (ByteArray×Int))(s:ByteArray)(w:World)(C:kh S w v l):
 Calls prog 155 #[v,.func (.func 156) #[] #[],.string s] w fun e I=>e=.returned (.tuple #[.int .i64 (max (gJ (fun x=>x.1.toList==s.toList) l) 0),.bool (decide (0≤gJ (fun x=>x.1.toList==s.toList) l))])∧aa All w I:=by
 have j:=FP S v l (fun x=>x.1.toList==s.toList) (.pointer (some ⟨w.heap.size,0,none⟩)) (.pointer (some ⟨w.heap.size+1,0,none⟩)) ((w.alloc (.cells #[.func (.func 156) #[] #[]] 235)).alloc (.cells #[.string s] 9))
  (aX.keep (((aa.refl All w).alloc _).alloc _).all C) (fun x wn o=>Ea x s w.heap.size (w.heap.size+1) wn (((al.new _ _ _).alloc _).kept o trivial) ((ac (by simp)).kept o trivial))
 have R:=kT (fun x:ByteArray×Int=>x.1.toList==s.toList) l;have J:l.length≤140737488355328:=by obtain⟨a,cap,_,_,_,h,_⟩:=C;omega
 have Y:=oH j;clear j C;generalize gJ (fun x:ByteArray×Int=>x.1.toList==s.toList) l=r at*;go_enter func155,ntmps155;go_wp2_with fail;refine Y.out.mono ?_;rintro e I ⟨rfl,o⟩;have HK:=oH ((((aa.refl All w).alloc _).alloc _).trans o);clear o;go_wp2_with fail
 all_goals
  go_ret2;exact⟨by first|(rw[Int.max_eq_right (by omega)];rfl)|(rw[Int.max_eq_left (by omega)];rfl),HK.out⟩
def eZ (p:aH)(s:ByteArray):Int:=gJ (fun x=>x.toList==s.toList) p.MZ
def fD (l:List (ByteArray×Int))(s:ByteArray):Int:=gJ (fun x=>x.1.toList==s.toList) l
abbrev lH (r:Int):Value:=.tuple #[.int .i64 (max r 0),.bool (decide (0≤r))]
theorem qB (S:Nat→Prop)(v:Value)(p:aH)(s:ByteArray)(w:World)(R:dJ S w v p):
 Calls prog 84 #[v,.string s] w fun e C=>e=.returned (lH (eZ p s))∧aa All w C:=by
 obtain⟨a,b,c,d,rfl,I,_⟩:=R;have j:=fun o=>CV S a p.MZ s (w.alloc o) (ax.keep ((aa.refl All w).alloc _).all I);have Y:=oH j;have HK:=oH fun o=>(aa.refl All w).alloc o;clear j I;unfold eZ;generalize gJ (fun x:ByteArray=>x.toList==s.toList) p.MZ=r at*;go_enter func84,ntmps84;go_wp2_with (go_at_call 132;refine(Y.out _).mono ?_;rintro e C ⟨rfl,J⟩;have HQ:=oH J;clear J);go_ret2;exact⟨rfl,(HK.out _).trans HQ.out⟩
theorem Dh (S:Nat→Prop)(v:Value)(p:aH)(s:ByteArray)(w:World)(R:dJ S w v p):
 Calls prog 234 #[v,.string s] w fun e C=>e=.returned (lH (fD p.Nb s))∧aa All w C:=by
 obtain⟨a,b,c,d,rfl,_,_,I,_⟩:=R;have j:=fun o=>qt S c p.Nb s (w.alloc o) (aX.keep ((aa.refl All w).alloc _).all I);have Y:=oH j;have HK:=oH fun o=>(aa.refl All w).alloc o;clear j I;unfold fD;generalize gJ (fun x:ByteArray×Int=>x.1.toList==s.toList) p.Nb=r at*;go_enter func234,ntmps234;go_wp2_with (go_at_call 155;refine(Y.out _).mono ?_;rintro e C ⟨rfl,J⟩;have HQ:=oH J;clear J);go_ret2;exact⟨rfl,(HK.out _).trans HQ.out⟩
theorem AJ (S:Nat→Prop)(v:Value)(p:aH)(s:ByteArray)(w:World)(R:dJ S w v p):
 Calls prog 235 #[v,.string s] w fun e C=>e=.returned (lH (fD p.Na s))∧aa All w C:=by
 obtain⟨a,b,c,d,rfl,_,_,_,I,_⟩:=R;have j:=fun o=>qt S d p.Na s (w.alloc o) (aX.keep ((aa.refl All w).alloc _).all I);have Y:=oH j;have HK:=oH fun o=>(aa.refl All w).alloc o;clear j I;unfold fD;generalize gJ (fun x:ByteArray×Int=>x.1.toList==s.toList) p.Na=r at*;go_enter func235,ntmps235;go_wp2_with (go_at_call 155;refine(Y.out _).mono ?_;rintro e C ⟨rfl,J⟩;have HQ:=oH J;clear J);go_ret2;exact⟨rfl,(HK.out _).trans HQ.out⟩
def aB (s:ByteArray):Bool:=dW s&&!jv s
theorem vK (s:ByteArray)(w:World):Calls prog 104 #[.string s] w fun e J=>e=.returned (.bool (aB s))∧aa All w J:=by
 have j:=yL s w;have hw:=fun w=>zC s w;unfold aB;cases h:dW s with
 |true=>rw[h] at j;have C:=J2 j hw;clear j hw h;generalize jv s=b at*;go_enter func104,ntmps104;go_wp2_with (first|(go_at_call 153;refine C.1.mono ?_;rintro e R ⟨rfl,o⟩;have I:=oH o;clear o)|(go_at_call 154;refine(C.2 _).mono ?_;rintro e J ⟨rfl,rfl⟩));go_ret;exact⟨by simp,I.out⟩
 |false=>rw[h] at j;have C:=oH j;clear j hw h;go_enter func104,ntmps104;go_wp2_with (go_at_call 153;refine C.out.mono ?_;rintro e R ⟨rfl,o⟩;have I:=oH o;clear o);go_ret;exact⟨rfl,I.out⟩
end Go.Proofs.YtccbbkopmlnkpaaGreatDoor
