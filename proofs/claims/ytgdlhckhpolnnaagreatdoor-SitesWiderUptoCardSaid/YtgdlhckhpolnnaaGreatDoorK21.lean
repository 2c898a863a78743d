/- Part 22 of the proof (its last part says what is proved). No condition. -/
import Derived.Test.YtgdlhckhpolnnaaGreatDoorK20
namespace Go.Proofs.YtgdlhckhpolnnaaGreatDoor
set_option maxRecDepth 100000
set_option maxHeartbeats 8000000
open Go.RowKit Go.Proofs.Tryz
theorem bQ {a b:aE}:Mc a b↔a.main=b.main∧a.Nd=b.Nd∧a.Nf.map qke=b.Nf.map qke:=Iff.rfl
namespace Q
def qkm (d:aE):Prop:=d.Nd.length≤9223372036854775806∧d.Nf.length≤9223372036854775806∧∀b∈d.Nf,qjF b
theorem qkk {S:Nat→Prop}{w:World}{v:Value}{d:aE}(h:cQ S w v d):qkm d:=by obtain⟨a,f,rfl,h1,j,_⟩:=h;refine⟨qjI h1,qjI j,fun b I=>?_⟩;obtain⟨_,r,rfl,o,_⟩:=qaV j I;refine⟨qjK o,fun l hl=>?_⟩;obtain⟨_,C⟩:=qeQ o hl;refine⟨qjI C,fun x J=>?_⟩;obtain⟨_,_,_,rfl,R,Y,_⟩:=qaV C J;exact⟨qjK R,qjK Y⟩
def qko (p:aH)(q:dN)(x:V):Prop:=ot p q∧qkm (qV p q)∧x=.tup [.agg (qax (qV p q)),.any,.s (.int .i64 0)]∨¬ot p q∧∃j o C a2 I c2 m n,n≠0∧x=.tup [.agg [.s (.slice j o C),.s (.slice a2 I c2),.s (.int .i64 m)],.any,.s (.int .i64 n)]
theorem qkl {p:aH}{q:dN}(J:qdE p)(R:qdg q){g:Gh}{w:World}{H:List HO}{vs:List Value}(Y:gz w)(j:HR g w H)(hv:da g w [.agg (qaY p),.agg (qej q)] vs):Calls prog 22 vs.toArray w fun e w'=>∃v x,e=.returned v∧qko p q x∧aa All w w'∧VR (g.frz w.heap.size w') w' x v:=by
 obtain⟨_,_,rfl,h1,_,_,rfl,h2,rfl⟩:=hv.inv;refine(zc (fun b=>b<w.heap.size) _ _ p q w (qfl j.lt J h1) (qgy j.lt R h2) Y fun b h=>h).mono ?_;rintro e w' ⟨C,a1,n1,c1,a2,n2,c2,m,a,n,rfl,hn,hy⟩;by_cases hr:ot p q
 ·obtain⟨rfl,I⟩:=hy hr
  exact⟨_,_,rfl,.inl ⟨hr,qkk I,rfl⟩,C,qgJ (da.cons (qhW (.of fun b hb o=>.inr hb) I) (da.cons (.any _) (da.cons (.s _) da.nil)))⟩
 exact⟨_,_,rfl,.inr ⟨hr,a1,n1,c1,a2,n2,c2,m,n,hn hr,rfl⟩,C,qgJ (da.cons (qdG (da.cons (.s _) (da.cons (.s _) (da.cons (.s _) da.nil)))) (da.cons (.any _) (da.cons (.s _) da.nil)))⟩
def qki (p:aH)(c:aE)(q:V):Prop:=∃a b n,q=.tup [.agg [a,b],.s (.int .i64 n)]∧qbd a=true∧qbd b=true∧(n=0↔eM p c)
theorem qkn (p:aH)(c:aE)(hp:qdE p)(hc:qcq c)(a8:kj p)(hz:lY c):VFL gz prog 100 [.agg (qaY p),.agg (qax c)] (qki p c):=by
 refine qjV (m:=2) 4 [5] func100 rfl Tryz.results100 ntmps100 (by intro w;go_simp<;>with_reducible rfl) (by intro w;go_simp<;>with_reducible rfl) rfl fun g w hL hk=>?_;have fin:∀ {e:Exit} {T:VT} {H:List HO} {a b:V} {n:Int},e=.ret→Oo T 4=some (.ptr 2 0)→H[2]? =some (.cells 69 [a,b])→Oo T 5=some (.s (.int .i64 n))→Lt 0 a→Lt 0 b→qbd a=true→qbd b=true→(n=0↔eM p c)→qjQ 2 4 [5] (qki p c) e T H:=fun {e T H a b n} he h1 h2 C h4 h5 h6 h7 h8=>
  ⟨.inl he,2,_,_,[.s (.int .i64 n)],_,h1,h2,rfl,by simp[C],yc.cons (.lt _ (.agg _ (xz h4 (xz h5 ik)))) (yc.cons (.lt _ (.s _)) yc.nil),a,b,n,by simp[qeU],h6,h7,h8⟩
 have no:∀ {e:Exit} {T:VT} {H:List HO},e=.ret→Oo T 4=some (.ptr 2 0)→H[2]? =some (.cells 69 [.s (.slice none 0 0),.s (.slice none 0 0)])→Oo T 5=some (.s (.int .i64 1))→¬eM p c→qjQ 2 4 [5] (qki p c) e T H:=fun he h1 h2 C h4=>fin he h1 h2 C (.s _) (.s _) rfl rfl ⟨fun h=>by omega,fun h=>absurd h h4⟩;refine st ?_;have Y:∀ {o w' vs},Le g w o w'→HR o w' _→da o w' [.agg (qaY p)] vs→Calls prog 45 vs.toArray w' fun e b1=>e=.returned (.bool (pB (dD p)))∧aa All w' b1:=fun {o w' vs} hl (I:HR o w' [.cells 26 (qaY p),.cells 30 (qax c),.cells 69 [.s (.slice none 0 0),.s (.slice none 0 0)]]) J=>by obtain⟨_,_,rfl,h1,rfl⟩:=J.inv;exact mo (fun b=>b<w'.heap.size) _ p w' (qfl I.lt hp h1) (hL.keep (hk o w' hl))
 by_cases hP:dD p
 case neg=>refine qiT (r:=.bool false) (fun o w' vs hl I J=>by rw[←au hP];exact Y hl I J) ?_;refine st ?_;exact qar (no rfl rfl rfl rfl fun h=>hP h.1)
 refine qiT (r:=.bool true) (fun o w' vs hl I J=>by rw[←av hP];exact Y hl I J) ?_;refine st ?_;refine qaF (fun h1=>?_) fun h1=>?_
 ·refine st ?_
  exact qar (no rfl rfl rfl rfl fun h=>by have:=h.2.1;omega)
 refine st ?_;refine qbu (fun h2=>?_) fun h2=>?_
 ·refine st ?_
  exact qar (no rfl rfl rfl rfl fun h=>by have:=h.2.2.1;omega)
 refine st ?_;refine qjZ (qjM p c) (fun o w' vs hl I J=>(qkc p c hp hc a8 hz w' trivial).pure (xz (.agg _ (qaN 0 p)) (xz (.agg _ (qaA 0 c)) ik)) I J) ?_;rintro _ ⟨A,F,rfl,hY⟩;by_cases j:pi p c
 case neg=>rw[au j];refine st ?_;exact qar (no rfl rfl rfl rfl fun h=>j h.2.2.2.1)
 rw[av j];obtain⟨rfl,rfl⟩:=hY j;refine st ?_;refine qjZ (qko p (cP p c)) (fun o w' vs hl I J=>qkl hp (qkb hc a8) (hL.keep (hk o w' hl)) I J) ?_;rintro _ (⟨hr,R,rfl⟩|⟨hr,a1,n1,c1,a2,n2,c2,m,n,hn,rfl⟩)
 case inr=>(
 refine st ?_;refine qcy (fun C=>?_) fun C=>?_
 ·refine st ?_
  exact qar (no rfl rfl rfl rfl fun h=>hr ⟨hP,h.2.2.2.2.1,h.2.2.2.2.2.1⟩)
 exact absurd C (by simpa using hn))
 obtain⟨d,hd⟩:=eQ (qV p (cP p c));rw[←hd] at R⊢;have a6:¬Mc d c→¬eM p c:=fun h h'=>h (by rw[hd];exact h'.2.2.2.2.2.2);have b0:Mc d c→Mc (qV p (cP p c)) c:=fun h=>by rw[←hd];exact h
 clear hd;refine st ?_;refine qcy (fun C=>?_) fun C=>?_
 ·refine st ?_
  exact qar (no rfl rfl rfl rfl (a6 fun h=>by simp[(bQ.1 h).1] at C))
 refine st ?_;refine qbM (qjH d.Nd c.Nd R.1) ?_ (hl:=xz (qaA 0 d _ (by simp)) (xz (qaA 0 c _ (by simp)) ik));refine st ?_;refine qcg (fun h4=>?_) fun h4=>?_
 ·refine st ?_
  exact qar (no rfl rfl rfl rfl (a6 fun h=>pbF (P:=d.Nd=c.Nd) (by simpa using h4) (bQ.1 h).2.1))
 refine st ?_;refine qbM (qjG d.Nf c.Nf R.2.1 R.2.2) ?_ (hl:=xz (qjp _ _) (xz (qjp _ _) (xz (.s _) ik)));refine st ?_;refine qcg (fun h5=>?_) fun h5=>?_
 ·refine st ?_
  exact qar (no rfl rfl rfl rfl (a6 fun h=>pbF (by simpa using h5) (bQ.1 h).2.2))
 refine st ?_;have a7:Mc d c:=bQ.2 ⟨by simpa using C,pbT (P:=d.Nd=c.Nd) (by simpa using h4),pbT (by simpa using h5)⟩;exact qar (fin rfl rfl rfl rfl (.row _ _ _ _ (by simp[LT,qiF]) nofun) (.row _ _ _ _ (by simp[LT,qhK,qgc,qiG]) nofun) rfl rfl ⟨fun _=>⟨hP,by omega,by omega,j,hr.2.1,hr.2.2,b0 a7⟩,fun _=>rfl⟩)
theorem qkp (p:aH)(c:aE)(C:qdE p)(I:qcq c)(j:kj p)(J:lY c):VFL gz prog 58 [.agg (qaY p),.agg (qax c)] (·=.s (.bool (pB (eM p c)))):=by
 refine qbW [4] func58 rfl Tryz.results58 ntmps58 rfl fun g w R Y=>?_;refine st ?_;refine qjZ (qki p c) (fun g' w' vs hl hh hv=>(qkn p c C I j J w' (R.keep (Y g' w' hl))).pure (xz (.agg _ (qaN 0 p)) (xz (.agg _ (qaA 0 c)) ik)) hh hv) ?_;rintro _ ⟨a,b,n,rfl,h1,h2,o⟩;refine st ?_;refine qeq ?_ (h1:=by simp only[qaq,List.all_cons,List.all_nil,h1,h2];rfl);refine st ?_;refine qar (ya rfl rfl ?_);by_cases h:eM p c;·rw[av h,o.2 h];rfl
 rw[au h];simpa using fun e=>h (o.1 e)
end Q
theorem AI (S:Nat→Prop)(j o:Value)(p:aH)(c:aE)(w:World)(I:dJ S w j p)(J:cQ S w o c)(hl:gz w)(C:kj p)(R:lY c):
 Calls prog 58 #[j,o] w fun e w'=>e=.returned (.bool (pB (eM p c)))∧aa All w w':=by
 refine(Q.qkp p c (Q.qgv I) (Q.qfx J) C R w hl (Q.Gh.top w) [j,o] (Q.HR.top w) (Q.da.cons (Q.qiM .top I) (Q.da.cons (Q.qhW .top J) Q.da.nil))).mono ?_;rintro e w' ⟨v,x,g',H',rfl,⟨rfl,rfl⟩,Y,hle,_⟩;cases Y.of_s;exact⟨rfl,hle.all (Q.HR.top w).none⟩


theorem qad {E:Bool}{P:Prop}(h:E=true↔¬P):E=!pB P:=by
 by_cases j:P
 ·rw[av j];cases E
  ·rfl
  exact absurd j (h.1 rfl)
 rw[au j];exact h.2 j
theorem vd {α:Type}{L:List (List α)}{i k:Nat}{l:List α}(hi:L[i]? =some l)(j:k≤l.length):L.flatten.take ((L.take i).flatten.length+k)=(L.take i).flatten++l.take k:=by
 have e:L.flatten=(L.take i).flatten++(l++(L.drop (i+1)).flatten):=by rw[←List.flatten_cons,←List.flatten_append,←kE hi]
 rw[e,List.take_length_add_append,List.take_append_of_le_length j]
theorem IN {L:List (List bz)}{m:Nat}(h:∀l∈L,l.length≤m):L.flatten.length≤L.length*m:=by
 induction L with
 |nil=>simp
 |cons a L j=>have:=j fun l hl=>h l (List.mem_cons_of_mem _ hl);have:=h a (List.mem_cons_self ..);rw[List.flatten_cons,iQ,kI,Nat.succ_mul];omega

section
open Classical in
noncomputable def oK (p:aH)(c:aE):Int×Int×Int:=if bJ p c then ov c.Nf 0 else(0,0,1)
theorem wy {p:aH}{c:aE}(h:¬bJ p c):oK p c=(0,0,1):=by unfold oK;rw[ae h]
theorem nc {p:aH}{c:aE}(h:bJ p c):oK p c=ov c.Nf 0:=by unfold oK;rw[ap h]
theorem zS {l:List aw}{i:Nat}:(ov l i).2.2=0↔∀b∈l,(oh b).2=0:=by
 constructor;·(
 intro h;induction l generalizing i with
 |nil=>intro b j;cases j
 |cons a l C=>
  intro b j;rw[ov] at h;by_cases o:(oh a).2≠0;·rw[ap o] at h;exact absurd h o
  rw[ae o] at h;rcases fX.1 j with rfl|j;·exact Decidable.not_not.1 o
  exact C h b j)
 intro h;rw[mc h]
theorem uN {p:aH}{c:aE}:(oK p c).2.2=0↔bJ p c∧jH c:=by
 by_cases h:bJ p c;·rw[nc h,zS];exact⟨fun h'=>⟨h,h'⟩,fun h'=>h'.2⟩
 rw[wy h];exact⟨fun h'=>absurd h' (by decide),fun h'=>absurd h'.1 h⟩
def nH (p:aH)(c:aE)(w:World)(e:Ending)(w':World):Prop:=e=.returned (.tuple #[.int .i64 (oK p c).1,.int .i64 (oK p c).2.1,.int .i64 (oK p c).2.2])∧aa All w w'
theorem nH.of {p:aH}{c:aE}{w w':World}{x y z:Int}(h:oK p c=(x,y,z))(j:aa All w w'):nH p c w (.returned (.tuple #[.int .i64 x,.int .i64 y,.int .i64 z])) w':=⟨by rw[h],j⟩
end

def qbH (b:aw)(v:Int):bz:=(b.Ng.flatten.reverse.find? fun x=>decide (0≤x.dst∧x.dst=v)).getD Mv
def qbv (c:aE)(r:Int):Int:=(c.Nd.getD r.toNat (0,0)).1
def qaQ (c:aE)(b:aw)(v size:Int):Prop:=((qbH b v).kind=1∧0≤(qbH b v).num∧(qbH b v).num<size)∨((qbH b v).kind=5∧qbv c (qbH b v).ref≤size)
instance (c:aE) (b:aw) (v size:Int):Decidable (qaQ c b v size):=by unfold qaQ;infer_instance
def qau (c:aE)(b:aw)(x:bz):Int×Int:=
    if x.kind=2 then if(x.op=4∨x.op=5)∧((qbH b (x.args.getD 1 0)).kind≠1∨(qbH b (x.args.getD 1 0)).num=0) then(20,x.args.getD 1 0) else(0,0)
    else if x.kind=4∨x.kind=6 then if qaQ c b (x.args.getD 0 0) (qbv c x.ref) then(0,0) else(21,x.args.getD 0 0)
    else(0,0)
structure qaI where
 fn:Nat
 block:Nat
 Nj:Nat
 kind:Int
 value:Int
def qbC (c:aE)(b:aw)(fn k i:Nat)(x:bz):List qaI:=if(qau c b x).1=0 then [] else [⟨fn,k,i,(qau c b x).1,(qau c b x).2⟩]
def qaE (c:aE)(b:aw)(fn k:Nat)(l:List bz):List (List qaI):=l.mapIdx (qbC c b fn k)
def qav (c:aE)(fn:Nat)(b:aw):List (List qaI):=b.Ng.mapIdx fun k l=>(qaE c b fn k l).flatten
def qas (c:aE):List (List qaI):=c.Nf.mapIdx fun fn b=>(qav c fn b).flatten
def qaw (c:aE):List qaI:=(qas c).flatten
theorem qcu {c:aE}{b:aw}{fn k i:Nat}{x:bz}{s:qaI}:s∈qbC c b fn k i x↔(qau c b x).1≠0∧s=⟨fn,k,i,(qau c b x).1,(qau c b x).2⟩:=by
 unfold qbC;split;·rename_i h;simp[h]
 rename_i h;simp[h]
theorem qaJ {α β:Type}{l:List α}{g:Nat→α→β}{y:β}:y∈l.mapIdx g↔∃i x,l[i]? =some x∧y=g i x:=by
 rw[cY];constructor
 ·rintro⟨i,hi⟩
  rw[jA] at hi;obtain⟨x,j,rfl⟩:=oE.1 hi;exact⟨i,x,j,rfl⟩
 rintro⟨i,x,j,rfl⟩;exact⟨i,by rw[jA,j];rfl⟩
theorem qcW {c:aE}{s:qaI}:s∈qaw c↔∃b l x,c.Nf[s.fn]? =some b∧b.Ng[s.block]? =some l∧l[s.Nj]? =some x∧(qau c b x).1≠0∧s.kind=(qau c b x).1∧s.value=(qau c b x).2:=by
 unfold qaw qas;rw[List.mem_flatten];constructor;·rintro⟨L,hL,j⟩;obtain⟨fn,b,o,rfl⟩:=qaJ.1 hL;obtain⟨L2,C,j⟩:=List.mem_flatten.1 j;obtain⟨k,l,hl,rfl⟩:=qaJ.1 C;obtain⟨L3,I,j⟩:=List.mem_flatten.1 j;obtain⟨i,x,J,rfl⟩:=qaJ.1 I;obtain⟨R,rfl⟩:=qcu.1 j;exact⟨b,l,x,o,hl,J,R,rfl,rfl⟩
 rintro⟨b,l,x,o,hl,J,R,h1,Y⟩;refine⟨_,qaJ.2 ⟨s.fn,b,o,rfl⟩,List.mem_flatten.2 ⟨_,qaJ.2 ⟨s.block,l,hl,rfl⟩,List.mem_flatten.2 ⟨_,qaJ.2 ⟨s.Nj,x,J,rfl⟩,qcu.2 ⟨R,?_⟩⟩⟩⟩;cases s;simp only at h1 Y;rw[h1,Y]
theorem qeP {c d:aE}{b:aw}{x:bz}{j:Int}(hw:∀r,qbv d r=qbv c r+j∨(qbv d r=0∧qbv c r=0))(h0:0≤j)(hr:x.kind=4∨x.kind=6→qbv d x.ref=qbv c x.ref+j)(h:(qau d b x).1≠0):qau c b x=qau d b x:=by
 unfold qau at h⊢;split;·rfl
 rename_i R;rw[ae R] at h;split
 ·rename_i I;rw[ap I] at h;by_cases C:qaQ d b (x.args.getD 0 0) (qbv d x.ref)
  ·rw[ap C] at h
   exact absurd rfl h
  rw[ae C];refine ae fun o=>C ?_;have:=hr I;rcases o with ⟨o,J,h7⟩|⟨o,J⟩;·exact .inl ⟨o,J,by omega⟩
  refine .inr ⟨o,?_⟩;rcases hw (qbH b (x.args.getD 0 0)).ref with Y|⟨Y,h9⟩<;>omega
 rfl
namespace Q
theorem qfp (op:Nat):VF prog 28 [.s (.int .u8 op)] (·=.s (.bool (decide (op=4∨op=5)))):=by
 refine qaT [2] func28 rfl Tryz.results28 ntmps28 rfl fun g w=>?_;refine st ?_;refine qaF (fun h=>?_) fun h=>?_
 all_goals
  refine st ?_;exact qar ⟨.inl rfl,_,_,rfl,yc.cons (.lt _ (.s _)) yc.nil,vb (by simp;omega)⟩
theorem qgm (es:List (MK×V))(k j:MK)(x:V):qbn (qbt es k x) j=if k=j then some x else qbn es j:=by
 induction es with
 |nil=>by_cases h:k=j<;>simp[qbt,qbn,h]
 |cons e es C=>
  simp only[qbt];split;·rename_i h;subst h;by_cases o:e.1=j<;>simp[qbn,o]
  rename_i h;by_cases o:e.1=j
  ·have:¬k=j:=fun I=>h (o.trans I.symm)
   simp[qbn,o,this]
  simpa [qbn,o] using C
theorem qfg (l:List bz)(v:Int):qbn (qaM l) (.i .i64 v)=(l.reverse.find? fun x=>decide (0≤x.dst∧x.dst=v)).map fun x=>.agg (Oe x):=by
 have key:∀(r:List bz),qbn (qaM r.reverse) (.i .i64 v)=(r.find? fun x=>decide (0≤x.dst∧x.dst=v)).map fun x=>.agg (Oe x):=by(
 intro r;induction r with
 |nil=>rfl
 |cons x r j=>
  have e:qaM (x::r).reverse=qck (qaM r.reverse) x:=by simp[qaM,List.foldl_append]
  rw[e,List.find?_cons];unfold qck;by_cases h:0≤x.dst
  ·rw[ap h,qgm];by_cases o:x.dst=v;·subst o;simp[h]
   simp[o,j]
  rw[ae h];simp[h,j])
 simpa using key l.reverse
theorem qer (c:aE)(b:aw)(v size:Int)(hr:∀x∈b.Ng.flatten,x.kind=5→0≤x.ref∧x.ref<c.Nd.length):
 VF prog 27 [.s (.int .i64 v),.s (.int .i64 size),.rp [.rmap (.int .i64) (qaM b.Ng.flatten)] 0,.rp (qax c) 0] (·=.s (.bool (decide (qaQ c b v size)))):=by
 refine qaT [6] func27 rfl Tryz.results27 ntmps27 rfl fun g w=>?_;have hm:=qfg b.Ng.flatten v;rcases j:b.Ng.flatten.reverse.find? (fun x=>decide (0≤x.dst∧x.dst=v)) with _|x
 ·have hw:qbH b v=Mv:=by unfold qbH;rw[j];rfl
  rw[j] at hm;simp only[Option.map_none] at hm;refine st ?_;exact qar ⟨.inl rfl,_,_,rfl,yc.cons (.lt _ (.s _)) yc.nil,vb (by simp[qaQ,hw,Mv])⟩
 have hw:qbH b v=x:=by unfold qbH;rw[j];rfl
 rw[j] at hm;simp only[Option.map_some] at hm;have I:=hr x (by simpa using List.mem_of_find?_eq_some j);refine st ?_;refine qaF (fun h=>?_) fun h=>?_;all_goals refine st ?_
 ·refine qaF (fun o=>?_) fun o=>?_
  all_goals refine st ?_
  ·refine qcy (fun C=>?_) fun C=>?_
   all_goals
    refine st ?_;exact qar ⟨.inl rfl,_,_,rfl,yc.cons (.lt _ (.s _)) yc.nil,vb (by simp at C;simp[qaQ,hw];omega)⟩
  exact qar ⟨.inl rfl,_,_,rfl,yc.cons (.lt _ (.s _)) yc.nil,vb (by simp[qaQ,hw];omega)⟩
 refine qaF (fun o=>?_) fun o=>?_;·obtain⟨C,R⟩:=I (by omega);obtain⟨a,J⟩:∃a,c.Nd[x.ref.toNat]? =some a:=⟨_,lG (by omega)⟩;refine st ?_;refine qar ⟨.inl rfl,_,_,rfl,yc.cons (.lt _ (.s _)) yc.nil,vb ?_⟩;simp[qaQ,hw,qbv,J];omega
 refine st ?_;exact qar ⟨.inl rfl,_,_,rfl,yc.cons (.lt _ (.s _)) yc.nil,vb (by simp[qaQ,hw];omega)⟩
theorem qhd {α:Type}{l:List α}(h:l.length=2):∃a b,l=[a,b]:=by
 match l,h with
 | [a,b],_=>exact⟨a,b,rfl⟩
theorem qio (c:aE)(b:aw)(x:bz)(hr:∀x∈b.Ng.flatten,x.kind=5→0≤x.ref∧x.ref<c.Nd.length)(h2:x.kind=2→x.args.length=2)(h4:x.kind=4∨x.kind=6→0<x.args.length∧0≤x.ref∧x.ref<c.Nd.length):
 VF prog 17 [.agg (qax c),.rmap (.int .i64) (qaM b.Ng.flatten),.agg (Oe x)] (·=.tup [.s (.int .i64 (qau c b x).1),.s (.int .i64 (qau c b x).2)]):=by
 refine qaT [6,7] func17 rfl Tryz.results17 ntmps17 rfl fun g w=>?_;have fin:∀ {e:Exit} {T:VT} {H:List HO} (r1 r2:Int),(e=.ret∨e=.normal)→Oo T 6=some (.s (.int .i64 r1))→Oo T 7=some (.s (.int .i64 r2))→qau c b x=(r1,r2)→qcM [6,7] (·=.tup [.s (.int .i64 (qau c b x).1),.s (.int .i64 (qau c b x).2)]) e T H:=fun r1 r2 he C e2 e3=>⟨he,[.s (.int .i64 r1),.s (.int .i64 r2)],_,by simp[C,e2],yc.cons (.lt _ (.s _)) (yc.cons (.lt _ (.s _)) yc.nil),by rw[e3];rfl⟩;refine st ?_;refine qbu (fun k2=>?_) fun k2=>?_;·(
 obtain⟨a0,J,ha⟩:=qhd (h2 (by omega));have o:x.args[1]? =some J:=by rw[ha];rfl
 have hm:=qfg b.Ng.flatten J;rcases hf:b.Ng.flatten.reverse.find? (fun x=>decide (0≤x.dst∧x.dst=J)) with _|y
 ·have hw:qbH b J=Mv:=by unfold qbH;rw[hf];rfl
  rw[hf] at hm;simp only[Option.map_none] at hm;refine st ?_;refine qaW 7 ?_;refine st ?_;refine qbM (qfp x.op) ?_;refine st ?_;refine qaF (fun I=>?_) fun I=>?_
  ·refine st ?_
   refine qaW 6 ?_;refine st ?_;exact qar (fin 20 J (.inl rfl) rfl rfl (by simp[qau,show x.kind=2 by omega,o,hw,I,Mv]))
  refine st ?_;exact qar (fin 0 0 (.inl rfl) rfl rfl (by simp[qau,show x.kind=2 by omega,o,hw,I,Mv]))
 have hw:qbH b J=y:=by unfold qbH;rw[hf];rfl
 rw[hf] at hm;simp only[Option.map_some] at hm;refine st ?_;refine qaW 7 ?_;refine st ?_;refine qbM (qfp x.op) ?_;refine st ?_;refine qaF (fun I=>?_) fun I=>?_;·(
 refine st ?_;refine qcy (fun j=>?_) fun j=>?_
 ·refine st ?_
  refine qaW 6 ?_;refine st ?_;exact qar (fin 20 J (.inl rfl) rfl rfl (by simp at j;simp[qau,show x.kind=2 by omega,o,hw,I];omega))
 refine st ?_;refine qcg (fun h6=>?_) fun h6=>?_
 ·refine st ?_
  refine qaW 6 ?_;refine st ?_;exact qar (fin 20 J (.inl rfl) rfl rfl (by simp at j h6;simp[qau,show x.kind=2 by omega,o,hw,I];omega))
 refine st ?_;exact qar (fin 0 0 (.inl rfl) rfl rfl (by simp at j h6;simp[qau,show x.kind=2 by omega,o,hw,I];omega)))
 refine st ?_;exact qar (fin 0 0 (.inl rfl) rfl rfl (by simp[qau,show x.kind=2 by omega,o,hw,I])))
 have main:x.kind=4∨x.kind=6→∃a0 aq R,x.args=a0::aq∧c.Nd[x.ref.toNat]? =some R∧0≤x.ref∧qbv c x.ref=R.1:=fun h=>by obtain⟨k1,k2,k3⟩:=h4 h;have e:c.Nd[x.ref.toNat]? =some (c.Nd[x.ref.toNat]'(by omega)):=lG (by omega);exact⟨_,_,_,(List.cons_head_tail (List.ne_nil_of_length_pos k1)).symm,e,k2,by simp[qbv,e]⟩
 have lend:∀ {H:List HO} (a0 sz:Int),H[1]? =some (.cells 57 [.rmap (.int .i64) (qaM b.Ng.flatten)])→H[0]? =some (.cells 30 (qax c))→yc H [.s (.int .i64 a0),.s (.int .i64 sz),.ptr 1 0,.ptr 0 0] [.s (.int .i64 a0),.s (.int .i64 sz),.rp [.rmap (.int .i64) (qaM b.Ng.flatten)] 0,.rp (qax c) 0]:=fun a0 sz C e0=>
  yc.cons (.lt _ (.s _)) (yc.cons (.lt _ (.s _)) (yc.cons (Ro.ptr' (yc.lt (xz (.rmap _ _ (qbA 0 _)) ik)) C) (yc.cons (Ro.ptr' (yc.lt (qaA 0 c)) e0) yc.nil)))
 refine st ?_;refine qbu (fun k4=>?_) fun k4=>?_;all_goals refine st ?_
 ·obtain⟨a0,aq,R,C,e2,e3,Y⟩:=main (.inl (by omega));refine qbu (fun _=>?_) fun k=>absurd k4 k;refine st ?_;refine qaW 14 ?_;refine st ?_;refine qeV (qer c b a0 R.1 hr) (lend a0 R.1 rfl rfl) ?_;refine st ?_;refine qcg (fun j=>?_) fun j=>?_
  ·refine st ?_
   refine qaW 6 ?_;refine st ?_;exact qar (fin 21 a0 (.inl rfl) rfl rfl (by simp at j;simp[qau,show x.kind=4 by omega,C,Y,j]))
  refine st ?_;exact qar (fin 0 0 (.inl rfl) rfl rfl (by simp at j;simp[qau,show x.kind=4 by omega,C,Y,j]))
 refine qbu (fun k6=>?_) fun k6=>?_
 ·obtain⟨a0,aq,R,C,e2,e3,Y⟩:=main (.inr (by omega));refine st ?_;refine qaW 14 ?_;refine st ?_;refine qeV (qer c b a0 R.1 hr) (lend a0 R.1 rfl rfl) ?_;refine st ?_;refine qcg (fun j=>?_) fun j=>?_
  ·refine st ?_
   refine qaW 6 ?_;refine st ?_;exact qar (fin 21 a0 (.inl rfl) rfl rfl (by simp at j;simp[qau,show x.kind=6 by omega,C,Y,j]))
  refine st ?_;exact qar (fin 0 0 (.inl rfl) rfl rfl (by simp at j;simp[qau,show x.kind=6 by omega,C,Y,j]))
 refine st ?_;exact qar (fin 0 0 (.inl rfl) rfl rfl (by simp[qau,show¬x.kind=2 by omega];omega))
end Q
section
namespace Q
section
variable {C:Cx} {T:VT} {H H':List HO} {dst:Option Tmp} {ty:TypeId} {pos:String} {af:Array Edge} {gd:Option (Nat×Bool)} {x y z:Operand} {p q r:V}
theorem qhj {t e:TypeId}{n k bw:Nat}{es:List (List V)}{tok:Option Nat}{ln mx:Operand}(I:ev T x=some (.row k bw es tok))(hl:ev T ln=some (.s (.int .i64 es.length)))(hm:ev T mx=some (.s (.int .i64 es.length)))(hu:∀w,(underlying t).run C.P w=.ok (.slice e) w)(J:∀w,(Go.sizeOf e).run C.P w=.ok n w):za C ⟨dst,.slice t x none (some ln) (some mx),ty,pos,af,gd⟩ T H (.row k bw es none):=fun g a w o=>by
 have h:=o.ev I;generalize R:a.eval x=v at h;cases h with
 |row _ _ _ _ j c f h1 h2 Y hk ha hr ht=>
  have e2:=(o.ev hl).of_s;have e3:=(o.ev hm).of_s;refine⟨.slice (if es.length=0 then j else j.map (·.add (0*n))) (es.length-0) (es.length-0),by simp[execOp,R,Instr.sliceAt,Instr.slice,hu,Instr.sliceBounds,Instr.sliceBound,e2,e3,asIntOf,h1,J],?_⟩;have e:(if es.length=0 then j else j.map (·.add (0*n)))=j:=by(
 split;·rfl
 cases j<;>simp[Addr.add])
  rw[e];exact .row k bw es none j es.length f (cf _) (by omega) Y hk ha hr nofun
variable {m:Option KT} {Q:VQ} {ops:Array Oper} {l:List Oper} {t:Nat} {f:Bool}
theorem qix {a e:TypeId}{n k bw nl:Nat}{es:List (List V)}{tok:Option Nat}{ln mx:Operand}(o:VO (md f m t) C ops Q l ((t,.row k bw es none)::T) H)(I:ev (rt m ⟨some t,.slice a x none (some ln) (some mx),ty,pos,af,none⟩ T) x=some (.row k bw es tok):=by rfl)(hl:ev (rt m ⟨some t,.slice a x none (some ln) (some mx),ty,pos,af,none⟩ T) ln=some (.s (.int .i64 nl)):=by rfl)(hm:ev (rt m ⟨some t,.slice a x none (some ln) (some mx),ty,pos,af,none⟩ T) mx=some (.s (.int .i64 nl)):=by rfl)(hu:∀w,(underlying a).run C.P w=.ok (.slice e) w:=by intro w;go_simp<;>first|with_reducible rfl|exact⟨rfl,rfl⟩)(J:∀w,(Go.sizeOf e).run C.P w=.ok n w:=by intro w;go_simp<;>with_reducible rfl)(hle:es.length=nl:=by simp)(R:Nat.blt t C.n=true:=by rfl)(j:FF m ⟨some t,.slice a x none (some ln) (some mx),ty,pos,af,none⟩ f:=by first|exact qbc rfl|exact qbb rfl):VO m C ops Q (⟨some t,.slice a x none (some ln) (some mx),ty,pos,af,none⟩::l) T H:=zl (by subst hle;exact qhj I hl hm hu J) o rfl rfl (bl R) j
end
abbrev qaB (s:qaI):List V:=[.s (.int .i64 s.fn),.s (.int .i64 s.block),.s (.int .i64 s.Nj),.s (.int .i64 s.kind),.s (.int .i64 s.value)]
theorem qhV (l:List qaI):VF prog 18 [.row 5 40 (l.map qaB) none] (·=.row 5 40 (l.map qaB) none):=by refine qaT [2] func18 rfl Tryz.results18 ntmps18 rfl fun g w=>?_;refine st ?_;refine qix ?_;refine st ?_;exact qar ⟨.inl rfl,_,_,rfl,yc.cons (.row _ _ _ _ (by simp[LT,qaB])) yc.nil,rfl⟩
theorem qhw (s:qaI)(a b c:Int):VF prog 25 [.agg (qaB s),.rp [.s (.int .i64 a)] 0,.rp [.s (.int .i64 b)] 0,.rp [.s (.int .i64 c)] 0] (·=.s (.bool (decide (s.fn=a∧s.block=b∧s.Nj=c)))):=by
 refine qaT [5] func25 rfl Tryz.results25 ntmps25 rfl fun g w=>?_;refine st ?_;refine qaF (fun h1=>?_) fun h1=>?_;all_goals refine st ?_
 ·refine qaF (fun j=>?_) fun j=>?_
  all_goals
   refine st ?_;exact qar ⟨.inl rfl,_,_,rfl,yc.cons (.lt _ (.s _)) yc.nil,vb (by simp;omega)⟩
 exact qar ⟨.inl rfl,_,_,rfl,yc.cons (.lt _ (.s _)) yc.nil,vb (by simp;omega)⟩
def qcK (a b c:Int)(s:qaI):Bool:=decide (s.fn=a∧s.block=b∧s.Nj=c)
abbrev qhU (a b c:Int):V:=.fn (.func 25) [.rp [.s (.int .i64 a)] 0,.rp [.s (.int .i64 b)] 0,.rp [.s (.int .i64 c)] 0]
def vj:Option Nat→Int
 |some i=>i
 |none=> -1
theorem qhc (l:List qaI)(a b c:Int)(hl:l.length≤9223372036854775807):VF prog 57 [.row 5 40 (l.map qaB) none,qhU a b c] (·=.s (.int .i64 (vj (l.findIdx? (qcK a b c))))):=by
 refine qaT [4] func57 rfl Tryz.results57 ntmps57 rfl fun g w=>?_;refine st ?_;refine qbf (fun k=>k≤l.length∧∀j<k,∀x,l[j]? =some x→qcK a b c x=false) (fun k=>l.length-k) (fun k=>[(8,.s (.int .i64 k)),(7,.s (.int .i64 l.length)),(1,qhU a b c),(0,.row 5 40 (l.map qaB) none)]) (fun _=>[]) 0 ⟨Nat.zero_le _,nofun⟩ ⟨rfl,rfl,rfl,rfl,trivial⟩ (.inl rfl) ?_;intro k J;refine st ?_;refine qbu (fun h=>?_) fun h=>?_
 case refine_2=>
  refine qbe (st ?_);refine qar ⟨.inl rfl,_,_,rfl,yc.cons (.lt _ (.s _)) yc.nil,?_⟩;have e:l.findIdx? (qcK a b c)=none:=List.findIdx?_eq_none_iff.2 fun x I=>by obtain⟨j,o⟩:=List.getElem?_of_mem I;have:=(lS.1 o).1;exact J.2 j (by omega) x o
  rw[e];rfl
 obtain⟨x,I⟩:=eG h;refine st ?_;refine qbM (qhw x a b c) ?_;refine st ?_;refine qbu (fun R=>?_) fun R=>?_
 ·refine st ?_
  refine qar ⟨.inl rfl,_,_,rfl,yc.cons (.lt _ (.s _)) yc.nil,?_⟩;have e:l.findIdx? (qcK a b c)=some k:=List.findIdx?_eq_some_iff_getElem.2 ⟨by omega,by rw[(lS.1 I).2];simpa [qcK] using R,fun j o=>by simp[J.2 j o _ (lG (by omega))]⟩;rw[e];rfl
 refine st ?_;refine⟨k+1,⟨by omega,fun j o y hy=>?_⟩,by omega,⟨rfl,rfl,rfl,rfl,trivial⟩,.inl rfl⟩;by_cases e:j=k;·subst e;rw[I] at hy;cases hy;simpa [qcK] using R
 exact J.2 j (by omega) y hy
theorem qeC (l:List qaI)(a b c:Int)(hl:l.length≤9223372036854775807):VF prog 24 [.row 5 40 (l.map qaB) none,qhU a b c] (·=.s (.bool (l.any (qcK a b c)))):=by refine qaT [4] func24 rfl Tryz.results24 ntmps24 rfl fun g w=>?_;refine st ?_;refine qbM (qhc l a b c hl) ?_;refine st ?_;refine qar ⟨.inl rfl,_,_,rfl,yc.cons (.lt _ (.s _)) yc.nil,?_⟩;rw[←List.findIdx?_isSome];cases l.findIdx? (qcK a b c)<;>simp[vj,qeU]
end Q
end
theorem qy {w:World}{g:Nat}{e:TypeId}{l:List Int}{B:Nat}(h:al w g e (aI l).toArray)(hB:B≤g)(hw:∀x∈l,(Lit.int .i64 x).wf=true)(o:l.length≤1000):aK (fun g=>B≤g∧g<w.heap.size) w (.slice (some ⟨g,0,none⟩) l.length l.length) l:=
 Sl.of_blk h ⟨hB,h.lt⟩ (cf _) (by unfold maxLen;omega) (by omega) fun i x j=>⟨.int .i64 x,by simp[aI,j],rfl,hw x (mG j)⟩
theorem Je (S:Nat→Prop)(bv:Value)(b:aw)(w:World)(hb:bW S w bv b.Ng)(hG:gY b):
 Calls prog 101 #[.agg #[.int .i64 b.params,.int .i64 b.vars,bv]] w (EN b w):=by
 obtain⟨iI,II⟩:=iH kt;obtain⟨iR,IR⟩:=iH vm;have h2:=bg.la hb;obtain⟨B1,d1,rfl,m5,m6,m7,_⟩:=hb;unfold maxLen at*;obtain⟨W0,d9⟩:=eQ (w.alloc (.cells #[.int .i64 b.params,.int .i64 b.vars,.slice B1 b.Ng.length d1] 42));have e4:=yf d9;have bB:=yv d9;obtain⟨b0,b1,b2⟩:=bB.c3;have j8:=e4.size;have j9:=hG.blk.2;have HG:=oH hG;have HW:=J4 d9 e4 bB h2;clear d9 e4 bB h2 hG;go_enter func101,ntmps101;go_upto_region 1 with fail;rw[←HW.1];go_wp2_with fail;go_loopg [4,12] b.Ng.length (fun g s4 s5 wr=>∃j:Nat,j≤b.Ng.length∧g=b.Ng.length-j∧s5=.int .i64 j∧aa All W0 wr∧dR 1 54 (eT aK) W0.heap.size wr s4 ((bM b).take j));·exact⟨0,by omega,by omega,rfl,kR,by rw[List.take_zero];exact dR.nil⟩
 obtain⟨j,hj,rfl,rfl,c6,a7⟩:=hrel;have e0:=HW.2.1.trans c6;obtain⟨E,ep,rfl⟩:=a7.form;have b9:((bM b).take j).length=j:=by rw[fN,cS];omega
 rw[b9] at a7⊢;have h4:=HW.2.2.1.kept c6 trivial;clear b0 b1 b2;obtain⟨b0,b1,b2⟩:=h4.c3;clear h4;have j6:=c6.size;by_cases j1:j<b.Ng.length;·(
 obtain⟨l,hl⟩:=eG j1;have e1:=mG hl;obtain⟨rb,ro,rv,rfl,j2,k0,e5⟩:=bn (HW.2.2.2 wr e0) hl;obtain⟨q1,q2,q3⟩:=HG.out.some_ l e1;have d7:=(lC q1).2;have hrefs:=HG.out.ref l e1;have c1:=HG.out.Ni l e1;have h5:(bM b).take (j+1)=(bM b).take j++[eJ (iW l)]:=by rw[cU,Cn hl];rfl
 generalize iW l=x at*;obtain⟨LA,lc,rfl,l1,l2,l3,_⟩:=id e5;unfold maxLen at l2;obtain⟨m,hm⟩:∃m:Nat,l.length=m+1:=⟨l.length-1,by omega⟩;rw[show l.length-1=m by omega] at d7;obtain⟨xb,xo,k1,rfl,j3,h6,b8,xa,xf,rfl,j4,j5,h7⟩:=aZ e5 d7;obtain⟨ua,uc,rfl,_⟩:=j4;obtain⟨va,vc,rfl,_⟩:=j5;have z0:=b8 0 _ rfl;rw[dj] at z0;have z1:=b8 1 _ rfl;have z2:=b8 2 _ rfl;have z3:=b8 3 _ rfl;have z4:=b8 4 _ rfl;have z5:=b8 5 _ rfl;have z6:=b8 6 _ rfl;have z7:=b8 7 _ rfl;have z8:=b8 8 _ rfl;have tl:((l.length:Int)==0)=false:=by rw[bE];omega
 have tm:(l.length:Int)-1=(m:Int):=by omega
 have k2:m<l.length:=by omega
 obtain⟨Y,e2⟩:=eQ (wr.alloc (.cells #[.int .u8 x.kind,.int .u8 x.op,.int .i64 x.dst,.int .i64 x.ref,.int .i64 x.Ni,.slice ua x.args.length uc,.slice va x.Nh.length vc,.int .i64 x.num,.int .i64 x.Nj] 56));have e6:=yf e2;have b5:=yv e2;have k3:=e6.size;have HX:=oH (show∀wn,aa All Y wn→wn.cell? ⟨wr.heap.size,0,none⟩=some (.int .u8 x.kind)∧wn.cell? ⟨wr.heap.size,3,none⟩=some (.int .i64 x.ref)∧wn.cell? ⟨wr.heap.size,4,none⟩=some (.int .i64 x.Ni) from fun wn hk=>⟨(b5.kept hk trivial).cell 0,(b5.kept hk trivial).cell 3,(b5.kept hk trivial).cell 4⟩);have HA:=J6 c6 a7 e2 e6 h5 h7;obtain⟨_,h8⟩:=a7.own;have HO:=oH h8;clear c6 a7 e2 e6 b5 h5 hl e1 e5 d7 b8 h7 e0 j2 j3 h6 h8;go_upto_region 9 with fail;rw[←HA.2.2.1];clear z0 z1 z2 z3 z4 z5 z6 z7 z8;obtain⟨c0,c3,c4⟩:=HX.out Y kR;by_cases e3:x.kind=13;·(
 have t12:=nK x.kind 12 (by omega);have t11:=nK x.kind 11 (by omega);have t13:=wK x.kind 13 (by omega);have c7:=oH (show eJ x=[] by unfold eJ;rw[ae (by omega),ae (by omega)]);clear hrefs c1 e3;obtain⟨X9,C⟩:∃X,X=Y.alloc (.cells #[.slice none 0 0] 54):=⟨_,rfl⟩;have I:=yf C;have a8:=yv C;have J:=aD1 C;have c8:=eE J;have c9:=eE J.symm;have R:aa All wr X9:=HA.2.2.2.1.trans ((aa.refl All Y).trans I);have o:=HA.2.1.keep (aS ah) R fun _ _ _=>trivial;have b3:aK (fun g=>Y.heap.size≤g∧g<Y.heap.size) X9 (.slice none 0 0) (([]:List Int)):=ah.keep I.all (Sl.nil);have e7:=R.size;have H9:=J5 C a8 o b3 R;clear C I a8 J o b3 R;go_wp2_with (
  at_builtin;go_loud (
  rw[←H9.1];refine bN (E:=eT aK) _ (aS ah) rfl (.tmp 57) (.tmp 59) 142 rfl iR _ 24 underlying142 IR.1 IR.2.1 IR.2.2.1 IR.2.2.2 rfl (by decide) _ _ rfl H9.2.2.1 Y.heap.size 0 1 rfl [.slice none 0 0] (([]:List Int)) rfl ?_ ?_ (by rw[b9];omega) (by omega) (by omega) (fun g=>Y.heap.size≤g∧g<Y.heap.size) ?_ ⟨_,rfl,H9.2.2.2.1⟩ ?_;·intro j u hu;rw[cN,H9.2.1.cell,List.getElem?_toArray];exact hu
  ·intro u hu
   rw[cx.1 hu];rfl
  ·intro g hg;have e8:Y.heap.size≤g∧g<Y.heap.size:=hg;exact⟨by omega,by omega,fun e=>by have:=(aD HO.out e).2;omega⟩
  intro D2 e9 w9 o b4 b6;have HZ:=J3 o b4 b6;clear o b4 b6))
 go_roundg (b.Ng.length-(j+1));·refine⟨j+1,by omega,rfl,by go_num,(HA.1.trans H9.2.2.2.2).grown HZ.2.1 fun b hb=>.inr (HZ.2.2 b hb),?_⟩;rw[HA.2.2.2.2.1,c7.out];have h3:=HZ.1;rw[b9] at h3;exact h3
 omega)
 by_cases d8:x.kind=12;·(
 by_cases ea:x.Ni=x.ref;·(
 have t12:=yK x.kind 12 (by omega);have t11:=nK x.kind 11 (by omega);have t13:=mK x.kind 13 (by omega);have t5:(x.Ni !=x.ref)=false:=by rw[gj];exact ea
 have c7:=oH (show eJ x=[x.ref] by unfold eJ;rw[ae (fun h=>h.2 ea),ap (.inl d8)]);clear hrefs c1 e3 d8 ea;obtain⟨X1,a6⟩:∃X,X=Y.alloc (.cells #[.int .i64 x.ref] 3):=⟨_,rfl⟩;have a1:=yf a6;have c5:al X1 Y.heap.size 3 (aI [x.ref]).toArray:=by rw[a6];exact ac rfl
 have h9:=a1.size;have b7:=J3 a6 a1 c5;clear a6 a1 c5;go_upto_region 15 with fail;rw[←b7.1];obtain⟨X9,C⟩:∃X,X=X1.alloc (.cells #[.slice (some ⟨Y.heap.size,0,none⟩) 1 1] 54):=⟨_,rfl⟩;have I:=yf C;have a8:=yv C;have J:=aD1 C;have c8:=eE J;have c9:=eE J.symm;have R:aa All wr X9:=HA.2.2.2.1.trans (b7.2.1.trans I);have o:=HA.2.1.keep (aS ah) R fun _ _ _=>trivial;have b3:aK (fun g=>Y.heap.size≤g∧g<X1.heap.size) X9 (.slice (some ⟨Y.heap.size,0,none⟩) 1 1) ([x.ref]):=ah.keep I.all (qy (l:=[x.ref]) b7.2.2 (cf _) (fun y hy=>by rcases fX.1 hy with rfl|hy<;>first|exact iw HA.2.2.2.2.2.ref|(rw[cx.1 hy];exact iw HA.2.2.2.2.2.Ni)|cases hy) (by simp));have e7:=R.size;have H9:=J5 C a8 o b3 R;clear C I a8 J o b3 R;go_wp2_with (
  at_builtin;go_loud (
  rw[←H9.1];refine bN (E:=eT aK) _ (aS ah) rfl (.tmp 57) (.tmp 59) 142 rfl iR _ 24 underlying142 IR.1 IR.2.1 IR.2.2.1 IR.2.2.2 rfl (by decide) _ _ rfl H9.2.2.1 X1.heap.size 0 1 rfl [.slice (some ⟨Y.heap.size,0,none⟩) 1 1] ([x.ref]) rfl ?_ ?_ (by rw[b9];omega) (by omega) (by omega) (fun g=>Y.heap.size≤g∧g<X1.heap.size) ?_ ⟨_,rfl,H9.2.2.2.1⟩ ?_;·intro j u hu;rw[cN,H9.2.1.cell,List.getElem?_toArray];exact hu
  ·intro u hu
   rw[cx.1 hu];rfl
  ·intro g hg;have e8:Y.heap.size≤g∧g<X1.heap.size:=hg;exact⟨by omega,by omega,fun e=>by have:=(aD HO.out e).2;omega⟩
  intro D2 e9 w9 o b4 b6;have HZ:=J3 o b4 b6;clear o b4 b6))
 go_roundg (b.Ng.length-(j+1));·refine⟨j+1,by omega,rfl,by go_num,(HA.1.trans H9.2.2.2.2).grown HZ.2.1 fun b hb=>.inr (HZ.2.2 b hb),?_⟩;rw[HA.2.2.2.2.1,c7.out];have h3:=HZ.1;rw[b9] at h3;exact h3
 omega)
 have t12:=yK x.kind 12 (by omega);have t11:=nK x.kind 11 (by omega);have t13:=mK x.kind 13 (by omega);have t5:(x.Ni !=x.ref)=true:=by rw[bne_iff_ne];exact ea
 have c7:=oH (show eJ x=[x.ref,x.Ni] by unfold eJ;rw[ap ⟨d8,ea⟩]);clear hrefs c1 e3 d8 ea;obtain⟨X1,a6⟩:∃X,X=Y.alloc (.cells #[.int .i64 x.ref,.int .i64 x.Ni] 3):=⟨_,rfl⟩;have a1:=yf a6;have c5:al X1 Y.heap.size 3 (aI [x.ref,x.Ni]).toArray:=by rw[a6];exact ac rfl
 have h9:=a1.size;have b7:=J3 a6 a1 c5;clear a6 a1 c5;go_upto_region 15 with fail;rw[←b7.1];obtain⟨X9,C⟩:∃X,X=X1.alloc (.cells #[.slice (some ⟨Y.heap.size,0,none⟩) 2 2] 54):=⟨_,rfl⟩;have I:=yf C;have a8:=yv C;have J:=aD1 C;have c8:=eE J;have c9:=eE J.symm;have R:aa All wr X9:=HA.2.2.2.1.trans (b7.2.1.trans I);have o:=HA.2.1.keep (aS ah) R fun _ _ _=>trivial;have b3:aK (fun g=>Y.heap.size≤g∧g<X1.heap.size) X9 (.slice (some ⟨Y.heap.size,0,none⟩) 2 2) ([x.ref,x.Ni]):=ah.keep I.all (qy (l:=[x.ref,x.Ni]) b7.2.2 (cf _) (fun y hy=>by rcases fX.1 hy with rfl|hy<;>first|exact iw HA.2.2.2.2.2.ref|(rw[cx.1 hy];exact iw HA.2.2.2.2.2.Ni)|cases hy) (by simp));have e7:=R.size;have H9:=J5 C a8 o b3 R;clear C I a8 J o b3 R;go_wp2_with (
  at_builtin;go_loud (
  rw[←H9.1];refine bN (E:=eT aK) _ (aS ah) rfl (.tmp 57) (.tmp 59) 142 rfl iR _ 24 underlying142 IR.1 IR.2.1 IR.2.2.1 IR.2.2.2 rfl (by decide) _ _ rfl H9.2.2.1 X1.heap.size 0 1 rfl [.slice (some ⟨Y.heap.size,0,none⟩) 2 2] ([x.ref,x.Ni]) rfl ?_ ?_ (by rw[b9];omega) (by omega) (by omega) (fun g=>Y.heap.size≤g∧g<X1.heap.size) ?_ ⟨_,rfl,H9.2.2.2.1⟩ ?_;·intro j u hu;rw[cN,H9.2.1.cell,List.getElem?_toArray];exact hu
  ·intro u hu
   rw[cx.1 hu];rfl
  ·intro g hg;have e8:Y.heap.size≤g∧g<X1.heap.size:=hg;exact⟨by omega,by omega,fun e=>by have:=(aD HO.out e).2;omega⟩
  intro D2 e9 w9 o b4 b6;have HZ:=J3 o b4 b6;clear o b4 b6))
 go_roundg (b.Ng.length-(j+1));·refine⟨j+1,by omega,rfl,by go_num,(HA.1.trans H9.2.2.2.2).grown HZ.2.1 fun b hb=>.inr (HZ.2.2 b hb),?_⟩;rw[HA.2.2.2.2.1,c7.out];have h3:=HZ.1;rw[b9] at h3;exact h3
 omega)
 have t12:=nK x.kind 12 (by omega);have t11:=yK x.kind 11 (by omega);have t13:=mK x.kind 13 (by omega);have c7:=oH (show eJ x=[x.ref] by unfold eJ;rw[ae (by omega),ap (by omega)]);clear hrefs c1 e3 d8;obtain⟨X1,a6⟩:∃X,X=Y.alloc (.cells #[.int .i64 x.ref] 3):=⟨_,rfl⟩;have a1:=yf a6;have c5:al X1 Y.heap.size 3 (aI [x.ref]).toArray:=by rw[a6];exact ac rfl
 have h9:=a1.size;have b7:=J3 a6 a1 c5;clear a6 a1 c5;go_upto_region 15 with fail;rw[←b7.1];obtain⟨X9,C⟩:∃X,X=X1.alloc (.cells #[.slice (some ⟨Y.heap.size,0,none⟩) 1 1] 54):=⟨_,rfl⟩;have I:=yf C;have a8:=yv C;have J:=aD1 C;have c8:=eE J;have c9:=eE J.symm;have R:aa All wr X9:=HA.2.2.2.1.trans (b7.2.1.trans I);have o:=HA.2.1.keep (aS ah) R fun _ _ _=>trivial;have b3:aK (fun g=>Y.heap.size≤g∧g<X1.heap.size) X9 (.slice (some ⟨Y.heap.size,0,none⟩) 1 1) ([x.ref]):=ah.keep I.all (qy (l:=[x.ref]) b7.2.2 (cf _) (fun y hy=>by rcases fX.1 hy with rfl|hy<;>first|exact iw HA.2.2.2.2.2.ref|(rw[cx.1 hy];exact iw HA.2.2.2.2.2.Ni)|cases hy) (by simp));have e7:=R.size;have H9:=J5 C a8 o b3 R;clear C I a8 J o b3 R;go_wp2_with (
  at_builtin;go_loud (
  rw[←H9.1];refine bN (E:=eT aK) _ (aS ah) rfl (.tmp 57) (.tmp 59) 142 rfl iR _ 24 underlying142 IR.1 IR.2.1 IR.2.2.1 IR.2.2.2 rfl (by decide) _ _ rfl H9.2.2.1 X1.heap.size 0 1 rfl [.slice (some ⟨Y.heap.size,0,none⟩) 1 1] ([x.ref]) rfl ?_ ?_ (by rw[b9];omega) (by omega) (by omega) (fun g=>Y.heap.size≤g∧g<X1.heap.size) ?_ ⟨_,rfl,H9.2.2.2.1⟩ ?_;·intro j u hu;rw[cN,H9.2.1.cell,List.getElem?_toArray];exact hu
  ·intro u hu
   rw[cx.1 hu];rfl
  ·intro g hg;have e8:Y.heap.size≤g∧g<X1.heap.size:=hg;exact⟨by omega,by omega,fun e=>by have:=(aD HO.out e).2;omega⟩
  intro D2 e9 w9 o b4 b6;have HZ:=J3 o b4 b6;clear o b4 b6))
 go_roundg (b.Ng.length-(j+1));·refine⟨j+1,by omega,rfl,by go_num,(HA.1.trans H9.2.2.2.2).grown HZ.2.1 fun b hb=>.inr (HZ.2.2 b hb),?_⟩;rw[HA.2.2.2.2.1,c7.out];have h3:=HZ.1;rw[b9] at h3;exact h3
 omega)
 obtain rfl:j=b.Ng.length:=by omega
 rw[oF (by rw[cS];omega)] at a7;have h0:=jT (a7.read (bw:=24) (aS ah) (by rw[cS];omega));have HQ:=J3 c6 e0 (aq.wide (fun g (hg:W0.heap.size≤g∧g<wr.heap.size)=>show w.heap.size≤g∧g<wr.heap.size by omega) h0);have HC:=oH (gt _ _ (bM b) wr h0);clear c6 e0 a7 h0;skip;go_wp2_with fail;refine HC.out.mono ?_;rintro e w2 ⟨rfl,h1⟩;rw[bL (qam HG.out)];have j0:=oH h1;have j7:=h1.size;clear h1;go_wp2_with fail;go_ret2;exact⟨_,rfl,aq.wide (fun g (hg:w.heap.size≤g∧g<wr.heap.size)=>show w.heap.size≤g∧g<w2.heap.size by omega) (aq.keep j0.out.all HQ.2.2),HQ.2.1.trans j0.out⟩
section
open Classical in
theorem pL {P Q:Nat→Prop}{n:Nat}(h:∀k,k<n→(P k↔Q k)):cV P n=cV Q n:=by
 rcases jX P n with ⟨e,g⟩|⟨k,e,o,I,hm⟩;·rw[e,hZ fun k o C=>g k o ((h k o).2 C)]
 rw[e,lO o (fun j J C=>hm j J ((h j (by omega)).2 C)) ((h k o).1 I)]
noncomputable def qx (l:List Bool):Int:=cV (fun k=>l[k]? =some false) l.length
theorem Jk (l:List Bool): -1≤qx l∧qx l<l.length:=by rcases jX (fun k=>l[k]? =some false) l.length with ⟨e,_⟩|⟨k,e,j,_⟩<;>unfold qx<;>rw[e]<;>omega
theorem Ao (S:Nat→Prop)(va:Value)(o:List Bool)(w:World)(ha:gD S w va o):
 Calls prog 206 #[va,.bool false] w fun e w'=>e=.returned (.int .i64 (qx o))∧w'=w:=by
 obtain⟨a,cap,rfl,h1,h2,_,h⟩:=ha;unfold maxLen at h2;have hl:o.length≤9223372036854775807:=by omega
 have H:=oH h;clear h;go_enter func206,ntmps206;go_wp2_with fail;go_loopg [5,8] o.length (fun g s5 s8 wr=>∃k:Nat,k≤o.length∧g=o.length-k∧s8=.int .i64 k∧wr=w∧∀j,j<k→o[j]?≠some false);·exact⟨0,by omega,by omega,rfl,rfl,fun j hj=>by omega⟩
 obtain⟨k,hk,rfl,rfl,hw,J⟩:=hrel;have R:=hw.symm;subst R;have C:=oH J;clear J;by_cases I:k<o.length;·(
 obtain⟨b,off,c,rfl,hs,hc,Y⟩:=H.out k o[k] (lG I);have hg:o[k]? =some o[k]:=lG I;have Hg:=oH hg;clear hg;generalize o[k]=y at*;obtain rfl:c=.bool y:=Y;cases y with
 |false=>have HV:=oH (lO I C.out Hg.out);go_wp2_with fail;go_ret;exact⟨by unfold qx;rw[HV.out];rfl,rfl⟩
 |true=>
  go_wp2_with fail;go_roundg (o.length-(k+1))
  ·refine⟨k+1,by omega,rfl,by go_num,rfl,fun j hj=>?_⟩;by_cases e:j=k;·subst e;rw[Hg.out];simp
   exact C.out j (by omega)
  omega)
 obtain rfl:k=o.length:=by omega
 have HV:=oH (hZ C.out);go_wp2_with fail;go_ret;exact⟨by unfold qx;rw[HV.out];rfl,rfl⟩
theorem uZ (S:Nat→Prop)(C:Value)(o:List Bool)(w:World)(I:gD S w C o):
 Calls prog 167 #[C] w fun e w'=>e=.returned (.tuple #[.int .i64 (max (qx o) 0),.bool (decide (0≤qx o))])∧w'=w:=by
 have J:=oH (Ao S C o w I);have R:=Jk o;obtain⟨a,cap,rfl,h1,Y,_,h⟩:=I;unfold maxLen at Y;clear h;generalize qx o=x at*;by_cases hx:0≤x
 ·have t1:decide (x<0)=false:=by simp;omega
  have t2:decide (x≥0)=true:=by simp;omega
  have t3:decide (0≤x)=true:=by simp;omega
  have t4:max x 0=x:=by omega
  rw[t3,t4];clear t3 t4;go_enter func167,ntmps167;go_wp2_with fail;refine J.out.mono ?_;rintro e w2 ⟨rfl,hw⟩;have j:=hw.symm;subst j;go_wp2_with fail;go_ret2;exact⟨rfl,rfl⟩
 obtain rfl:x= -1:=by omega
 go_enter func167,ntmps167;go_wp2_with fail;refine J.out.mono ?_;rintro e w2 ⟨rfl,hw⟩;have j:=hw.symm;subst j;go_wp2_with fail;go_ret2;exact⟨rfl,rfl⟩
theorem An {ll:List (List Int)}:qx (en ll 0)=cV (kO ll) ll.length:=by
 have hlen:(en ll 0).length=ll.length:=by simp[en]
 unfold qx;rw[hlen];refine pL fun k j=>?_;have:(en ll 0)[k]? =some (ay ll 0 k):=by simp[en,j]
 rw[this];unfold kO;by_cases hr:aQ ll 0 k;·simp[ay,hr]
 simp[ay,hr,j]
def uz (x:Int)(w:World):Ending→World→Prop:=fun e w'=>e=.returned (.tuple #[.int .i64 (max x 0),.bool (decide (0≤x))])∧aa All w w'
theorem yC (S:Nat→Prop)(v:Value)(ll:List (List Int))(w:World)(R:Rows S w v ll)(J:aP ll):
 Calls prog 103 #[v] w (uz (cV (kO ll) ll.length) w):=by
 have j:=gt S v ll w R;rw[bL J] at j;have o:=fun Y (hk:aa All w Y)=>ri S v ll 0 Y (aq.keep hk.all R) J J.1;obtain⟨a,cap,rfl,h1,h2,a1,h⟩:=R;have hl:ll.length≤256:=J.2.1;have HR:=J2 j o;clear h h1 h2 a1 j o;go_enter func103,ntmps103;go_wp2_with fail;refine HR.1.mono ?_;rintro e Y ⟨rfl,C⟩;have HK:=oH C;clear C;go_wp2_with fail;refine(HR.2 _ HK.out).mono ?_;rintro e w2 ⟨u,rfl,I,hb⟩;have HF:=oH (uZ _ u _ w2 hb);have HB:=oH (HK.out.trans I);clear I hb;go_wp2_with fail;refine HF.out.mono ?_;rintro e w3 ⟨rfl,hw⟩;have a6:=hw.symm;subst a6;rw[An];go_wp2_with fail;go_ret2;exact⟨rfl,HB.out⟩
end
end Go.Proofs.YtgdlhckhpolnnaaGreatDoor
