/- Part 7 of the proof (its last part says what is proved). No condition. -/
import Derived.Test.YtccbbkopmlnkpaaGreatDoorK5
namespace Go.Proofs.YtccbbkopmlnkpaaGreatDoor
set_option maxRecDepth 100000
set_option maxHeartbeats 8000000
open Go.RowKit Go.Proofs.Tryz
section
open Go
section
variable {P:Program} {ops:Array Oper} {md:Region.Mode} {S:Bool→World→Prop} {c:Nat} {T:List Tmp} {F:Tmp→Value→World→Prop} {L:Nat→Option (Value→Prop)} {D:Nat→Bool} {X:List PanicEntry→World→Prop}
def dz (P:Program)(ops:Array Oper)(S:Bool→World→Prop)(c:Nat)(T:List Tmp)(F:Tmp→Value→World→Prop)(X:List PanicEntry→World→Prop)(k:Nat)(o:Oper)(lab:Option (Value→Prop))(d:Bool)(a:Act)(V:Value→Prop):Prop:=
 (Region.wanted o (yielded ops a.tmps)=true∧lab=none∧d=false∧k≠c∧∃v,V=(·=v)∧∀b,Cr P ops (S b) T F o a v)∨
 (Region.wanted o (yielded ops a.tmps)=true∧lab=some V∧(∀w,S (k !=c) w→dL ops T F o a w→pq P (S true) T F X d V o w ((execOp a.eval o).run P w))∧∀w,S (k !=c) w→dL ops T F o a w→∃u w',V u∧gw (S true) T F o w w' u)∨
 (Region.wanted o (yielded ops a.tmps)=false∧d=false∧k≠c∧V=(·=undef)∧∀d,o.dst=some d→d∉T)
theorem dz.unique {k:Nat}{o:Oper}{J:Option (Value→Prop)}{d b:Bool}{a:Act}{V V':Value→Prop}(h:dz P ops S c T F X k o J d a V)(h':dz P ops S c T F X k o J d a V'){w:World}(hw:S b w)(hp:dL ops T F o a w):V=V':=by
 rcases h with ⟨I,R,_,_,v,rfl,h3⟩|⟨I,R,_⟩|⟨I,_,_,rfl,_⟩
 ·rcases h' with ⟨j,C,_,_,v',rfl,k3⟩|⟨j,C,_⟩|⟨j,_⟩
  ·have Y:=(h3 b w hw hp).1;rw[(k3 b w hw hp).1] at Y;iterate 2 injection Y with Y
   subst Y;rfl
  ·rw[R] at C;cases C
  rw[I] at j;cases j
 ·rcases h' with ⟨j,C,_⟩|⟨j,C,_⟩|⟨j,_⟩
  ·rw[R] at C;cases C
  ·rw[R] at C;injection C
  rw[I] at j;cases j
 rcases h' with ⟨j,_⟩|⟨j,_⟩|⟨_,_,_,rfl,_⟩;·rw[I] at j;cases j
 ·rw[I] at j;cases j
 rfl
theorem dz.some_ {k:Nat}{o:Oper}{j:Option (Value→Prop)}{d b:Bool}{a:Act}{V:Value→Prop}(h:dz P ops S c T F X k o j d a V)(R:j≠none→b=(k !=c)){w:World}(hw:S b w)(J:dL ops T F o a w):∃u Y,V u∧gw (S (b||k==c)) T F o w Y u:=by
 rcases h with ⟨_,_,_,I,v,rfl,C⟩|⟨_,h2,_,C⟩|⟨_,_,I,rfl,C⟩
 ·rw[bE.2 I,Bool.or_false]
  exact⟨v,w,rfl,hw,fun _ _ _ h=>h,(C b w hw J).2⟩
 ·have e:=R (by rw[h2];simp)
  subst e;rw[show((k !=c)||k==c)=true by unfold bne;cases (k==c)<;>rfl];exact C w hw J
 rw[bE.2 I,Bool.or_false];exact⟨undef,w,rfl,hw,fun _ _ _ h=>h,fun d hd ht=>absurd ht (C d hd)⟩
theorem dz.put {k:Nat}{o:Oper}{j:Option (Value→Prop)}{b:Bool}{a:Act}{V:Value→Prop}{dst:Option Tmp}{u:Value}(C:∀cs b,o.op≠.select cs b)(h:∀d,dst=some d→d∉o.looksAt ops):
 dz P ops S c T F X k o j b (a.put dst u) V↔dz P ops S c T F X k o j b a V:=by
 unfold dz Cr;rw[execOp_put o C a dst u h,wanted_put o a dst u h];simp only[dL.put h]
theorem dz.single {k:Nat}{o:Oper}{C:Option (Value→Prop)}{d:Bool}{a:Act}{V:Value→Prop}(h:dz P ops S c T F X k o C d a V)(j:C=none∨Region.wanted o (yielded ops a.tmps)=false){u J:Value}(hu:V u)(I:V J):u=J:=by
 rcases h with ⟨_,_,_,_,v,rfl,_⟩|⟨Y,R,_⟩|⟨_,_,_,rfl,_⟩;·exact hu.trans I.symm
 ·rcases j with j|j
  ·rw[j] at R;cases R
  rw[Y] at j;cases j
 exact hu.trans I.symm
def ph (c:Nat)(listed:Array Bool):Bool:=listed.getD c false
theorem tx {listed:Array Bool}{i:Nat}(h:listed.getD i true=false):ph c (listed.setIfInBounds i true)=(ph c listed||i==c):=by
 unfold ph;by_cases e:i=c
 ·subst e
  have hi:i<listed.size:=by(
 rcases Nat.lt_or_ge i listed.size with h'|h';·exact h'
 simp[gT h'] at h)
  simp[hi]
 rw[getD_set_ne false e,bE.2 e,Bool.or_false]
def By (md:Region.Mode)(ops:Array Oper)(c n:Nat)(L:Nat→Option (Value→Prop)):Prop:=∀listed,HeadInv md ops n listed→∀k,k<n→k∈Region.ready md ops listed→L k≠none→ph c listed=(k !=c)
def qL (P:Program)(md:Region.Mode)(ops:Array Oper)(S:Bool→World→Prop)(c:Nat)(T:List Tmp)(F:Tmp→Value→World→Prop)(L:Nat→Option (Value→Prop))(D:Nat→Bool)(X:List PanicEntry→World→Prop)(n:Nat)(Q:Array Bool→Act→Prop):Nat→Bool→Array Bool→Act→Prop
 |0,dead,listed,a=>(∃w,S (ph c listed) w∧cI ops T F listed a w)→(∀j∈Region.ready md ops listed,n≤j)∧(dead=false→Q listed a)
 |fuel+1,dead,listed,a=>(∃w,S (ph c listed) w∧cI ops T F listed a w)→Region.ready md ops listed≠[]∧
  ∀i∈Region.ready md ops listed,i<n∧∀o,ops[i]? =some o→∃V,dz P ops S c T F X i o (L i) (D i) a V∧∀v,V v→qL P md ops S c T F L D X n Q fuel (dead||D i) (listed.setIfInBounds i true) (a.put o.dst v)
theorem eL {n g:Nat}{Q:Array Bool→Act→Prop}{Q':Exit→Act→World→Prop}{J:Act→Prop}(hm:gS md ops T)(hR:∀listed,HeadInv md ops n listed→∀i,i<n→listed.getD i true=false→∀j∈Region.ready md ops listed,j<n)(hW:By md ops c n L)(hJ:∀(i:Nat) (o:Oper) (a:Act) (v:Value),ops[i]? =some o→J a→J (a.put o.dst v))(hX:∀a ch w,X ch w→J a→Q' (.panic ch) a w)
 (hQ:∀listed a w,S (ph c listed) w→cI ops T F listed a w→Q listed a→wpAny P md ops Q' g listed a w):∀(C:Nat) (listed:Array Bool) (a:Act) (w:World),HeadInv md ops n listed→J a→S (ph c listed) w→cI ops T F listed a w→
 qL P md ops S c T F L D X n Q C false listed a→wpAny P md ops Q' (C+g) listed a w
 |0,listed,a,w,_,_,hw,hf,h=>by rw[dU];exact hQ _ _ _ hw hf ((h ⟨w,hw,hf⟩).2 rfl)
 |C+1,listed,a,w,inv,h0,hw,hf,h=>by(
 rw[show C+1+g=(C+g)+1 by omega];refine⟨fun h1=>absurd h1 (h ⟨w,hw,hf⟩).1,fun i hi=>?_⟩;obtain⟨a6,o,ho,_⟩:=mem_ready.1 hi;obtain⟨a1,a7⟩:=(h ⟨w,hw,hf⟩).2 i hi;obtain⟨V,hy,hn⟩:=a7 o ho;have hp:=hf.pre hm hi ho;have I:=tx (c:=c) a6;have R:=inv.set hi a1;unfold wpOp;simp only[ho];rcases hy with ⟨h1,_,hd,hk,v,rfl,h3⟩|⟨h1,hl,h3,_⟩|⟨h1,hd,hk,rfl,h3⟩;·rw[am h1];left;obtain⟨Y,a8⟩:=h3 _ w hw hp;unfold Oper.wp;rw[Y];have:=hn v rfl;rw[hd] at this;rw[bE.2 hk,Bool.or_false] at I;exact eL hm hR hW hJ hX hQ C _ _ w R (hJ _ _ _ _ ho h0) (by rw[I];exact hw) (hf.next (S:=S (ph c listed)) ho ⟨hw,fun _ _ _ h=>h,a8⟩) this
 ·(
 rw[am h1];left;have hb:=hW listed inv i a1 hi (by rw[hl];simp);rw[hb] at hw;rw[hb,show((i !=c)||i==c)=true by unfold bne;cases (i==c)<;>rfl] at I;have Y:=h3 w hw hp;unfold Oper.wp;generalize (execOp a.eval o).run P w=r at Y;cases r with
 |ok nx w'=>
  cases nx<;>simp only[pq] at Y<;>simp only[Oper.upon]
  case value u=>(have:=hn u Y.2.1;rw[Y.1] at this;exact eL hm hR hW hJ hX hQ C _ _ w' R (hJ _ _ _ _ ho h0) (by rw[I];exact Y.2.2.1) (hf.next ho Y.2.2) this)
  case skip=>(have:=hn undef Y.2.1;rw[Y.1] at this;exact eL hm hR hW hJ hX hQ C _ _ w' R (hJ _ _ _ _ ho h0) (by rw[I];exact Y.2.2.1) (hf.next ho Y.2.2) this)
  case enter f args=>(
 refine Y.mono ?_;rintro e b0 (⟨hd,u,rfl,hv,hg⟩|⟨ch,rfl,hx⟩)
 ·have:=hn u hv
  rw[hd] at this;exact eL hm hR hW hJ hX hQ C _ _ b0 R (hJ _ _ _ _ ho h0) (by rw[I];exact hg.1) (hf.next ho hg) this
 exact hX _ _ _ hx h0)
 |halt x w'=>simp only[pq] at Y)
 rw[ah (by rw[h1];exact lE)];have:=hn undef rfl;rw[hd] at this;rw[bE.2 hk,Bool.or_false] at I;exact eL hm hR hW hJ hX hQ C _ _ w R (hJ _ _ _ _ ho h0) (by rw[I];exact hw) (hf.next (S:=S (ph c listed)) ho ⟨hw,fun _ _ _ h=>h,fun d hd ht=>absurd ht (h3 d hd)⟩) this)
theorem xl {n:Nat}{Q:Array Bool→Act→Prop}{i:Nat}{oi:Oper}{V:Value→Prop}(hm:gS md ops T)(hW:By md ops c n L)(hi:ops[i]? =some oi)(b0:∀(j:Nat) (o:Oper) cs b,ops[j]? =some o→o.op≠.select cs b)
 (hR:∀listed,HeadInv md ops n listed→∀i,i<n→listed.getD i true=false→∀j∈Region.ready md ops listed,j<n) (a6:i<n):
 ∀(C:Nat) (dead:Bool) (listed:Array Bool) (a:Act),HeadInv md ops n listed→
  (∀j oj,ops[j]? =some oj→j≠i→listed.getD j true=false→(∀e∈oj.after,Region.binds md e=true→e.on≠i)→oi.apart ops oj=true)→
  i∈Region.ready md ops listed→dz P ops S c T F X i oi (L i) (D i) a V→
  (∀v,V v→qL P md ops S c T F L D X n Q C (dead||D i) (listed.setIfInBounds i true) (a.put oi.dst v))→qL P md ops S c T F L D X n Q (C+1) dead listed a:=by
 intro C;induction C with
 |zero=>
  intro dead listed a inv _ hr hy H Y;obtain⟨w0,b3,a7⟩:=Y;have I:=(mem_ready.1 hr).1;obtain⟨v0,w1,b4,hg⟩:=hy.some_ (fun hl=>hW listed inv i a6 hr hl) b3 (a7.pre hm hr hi);have h1:=H v0 b4 ⟨w1,by rw[tx I];exact hg.1,a7.next hi hg⟩;refine⟨fun h=>(by rw[h] at hr;cases hr),fun j hj=>⟨hR _ inv i a6 I j hj,fun o ho=>?_⟩⟩;by_cases J:j=i;·subst J;rw[hi] at ho;cases ho;exact⟨V,hy,H⟩
  have h2:=h1.1 j (ready_mono hj J);have h3:=hR _ inv i a6 I j hj;omega
 |succ C ih=>
  intro dead listed a inv b1 hr hy H Y;obtain⟨w0,b3,a7⟩:=Y;have I:=(mem_ready.1 hr).1;obtain⟨v0,w1,b4,hg⟩:=hy.some_ (fun hl=>hW listed inv i a6 hr hl) b3 (a7.pre hm hr hi);have h1:=H v0 b4 ⟨w1,by rw[tx I];exact hg.1,a7.next hi hg⟩;refine⟨fun h=>(by rw[h] at hr;cases hr),fun j hj=>⟨hR _ inv i a6 I j hj,fun oj R=>?_⟩⟩;have c6:=hR _ inv i a6 I j hj;by_cases J:j=i;·subst J;rw[hi] at R;cases R;exact⟨V,hy,H⟩
  obtain⟨a8,e2,b6,c0⟩:=mem_ready.1 hj;rw[R] at b6;cases b6;have c1:∀e∈oj.after,Region.binds md e=true→e.on≠i:=fun e he hb heq=>by have h1:=c0 e he hb;rw[heq,getD_both I] at h1;cases h1
  obtain⟨a1,a2,a3⟩:=Oper.apart_spec (b1 j oj R J a8 c1);obtain⟨Vj,c7,_⟩:=(h1.2 j (ready_mono hj J)).2 oj R;have b7:=(dz.put (fun cs b=>b0 j oj cs b R) a1).1 c7;have c8:=a7.pre hm hj R
  have b5:∀k ok,ops[k]? =some ok→k≠i→(listed.setIfInBounds j true).getD k true=false→
   (∀e∈ok.after,Region.binds md e=true→e.on≠i)→oi.apart ops ok=true:=fun k ok hk c9 I d7=>by
   refine b1 k ok hk c9 ?_ d7;by_cases c2:j=k;·subst c2;exact a8
   rw[getD_set_ne true c2] at I;exact I
  refine⟨Vj,b7,fun u hu=>ih (dead||D j) (listed.setIfInBounds j true) (a.put oj.dst u) (inv.set hj c6) b5 (ready_mono hr (Ne.symm J)) ((dz.put (fun cs b=>b0 i oi cs b hi) a3).2 hy) fun v hv=>?_⟩;have comm:=Act.put_comm a v u a2;have key:(∃w,S (ph c ((listed.setIfInBounds j true).setIfInBounds i true)) w∧cI ops T F ((listed.setIfInBounds j true).setIfInBounds i true) ((a.put oj.dst u).put oi.dst v) w)→qL P md ops S c T F L D X n Q C (dead||D j||D i) ((listed.setIfInBounds j true).setIfInBounds i true) ((a.put oj.dst u).put oi.dst v):=by(
 rintro⟨w2,b8,c3⟩;rw[←comm,Array.setIfInBounds_comm _ _ J] at c3⊢;rw[Array.setIfInBounds_comm _ _ J] at b8;have b2:(listed.setIfInBounds i true).getD j true=false:=by rw[getD_set_ne true (Ne.symm J)];exact a8
 have d8:=c3.less hm R b2;have c4:∃w,S (ph c (listed.setIfInBounds i true)) w∧cI ops T F (listed.setIfInBounds i true) (a.put oi.dst v) w:=by(
 by_cases b9:j=c
 ·have d9:L i=none∨Region.wanted oi (yielded ops a.tmps)=false:=by(
 by_cases hl:L i=none;·exact .inl hl
 exfalso;have h5:=hW listed inv i a6 hr hl;have h6:ph c listed=false:=by unfold ph;rw[←b9];exact getD_both a8
 have h7:(i !=c)=true:=by rw[bne_iff_ne];exact fun e=>J (b9.trans e.symm)
 rw[h6,h7] at h5;cases h5)
  have ev:=hy.single d9 hv b4;subst ev;exact⟨w1,by rw[tx I];exact hg.1,a7.next hi hg⟩
 refine⟨w2,?_,d8⟩;rw[tx b2,bE.2 b9,Bool.or_false] at b8;exact b8)
 obtain⟨V2,e0,e1⟩:=((H v hv c4).2 j (ready_mono hj J)).2 oj R;have c5:=(dz.put (fun cs b=>b0 j oj cs b R) a1).1 e0;have:=b7.unique c5 b3 c8;subst this;rw[Bool.or_right_comm];exact e1 u hu)
  cases C with
  |zero=>exact fun Y=>key Y Y
  |succ C=>exact fun Y=>key Y Y
def Ci (P:Program)(ops:Array Oper)(S:Bool→World→Prop)(c:Nat)(T:List Tmp)(F:Tmp→Value→World→Prop)(L:Nat→Option (Value→Prop))(D:Nat→Bool)(X:List PanicEntry→World→Prop)(Q:Act→Prop):List Oper→Nat→Bool→Act→Prop
 | [],_,dead,a=>dead=false→Q a
 |o::rest,k,dead,a=>∃V,dz P ops S c T F X k o (L k) (D k) a V∧∀v,V v→Ci P ops S c T F L D X Q rest (k+1) (dead||D k) (a.put o.dst v)
theorem ue {n g:Nat}{Q:Act→Prop}(hm:gS md ops T)(hW:By md ops c n L)(hs:Region.noSelect ops=true)
 (hR:∀listed,HeadInv md ops n listed→∀i,i<n→listed.getD i true=false→∀j∈Region.ready md ops listed,j<n):
 ∀(l:List Oper) (k:Nat) (dead:Bool) (listed:Array Bool) (a:Act),(∀j,j<l.length→l[j]? =ops[k+j]?)→k+l.length=n→HeadInv md ops n listed→(∀j,j<k→listed.getD j false=true)→
 Region.lexHead md ops g l.length k listed=true→Ci P ops S c T F L D X Q l k dead a→
 qL P md ops S c T F L D X n (fun C a'=>Region.seqB md ops g n C=true∧(∀j,j<n→C.getD j false=true)∧Q a') l.length dead listed a
 | [],k,dead,listed,a,_,hk,_,hd,I,h=>by
  have:k=n:=by simpa using hk
  subst this;have I:Region.seqB md ops g k listed=true:=by simpa [Region.lexHead] using I
  exact fun _=>⟨seqB_ready I,fun J=>⟨I,hd,h J⟩⟩
 |o::l,k,dead,listed,a,hl,hk,inv,hd,I,h=>by(
 have h0:ops[k]? =some o:=by simpa using(hl 0 (by simp)).symm
 simp only[lD,Region.lexHead,dX] at I;obtain⟨⟨hr,hf⟩,a1⟩:=I;have R:k<n:=by simp only[lD] at hk;omega
 have Y:k∈Region.ready md ops listed:=by simpa using hr
 obtain⟨V,hy,hK⟩:=h;have a6:k<listed.size:=by rw[inv.size];exact(kT.1 h0).1
 refine xl hm hW h0 (Region.noSelect_spec hs) hR R l.length dead listed a inv (Region.free_spec h0 hf) Y hy
  fun v hv=>ue hm hW hs hR l (k+1) _ _ _ (fun j hj=>by have:=hl (j+1) (by simp;omega);simpa [Nat.add_assoc,Nat.add_comm 1 j] using this) (by simp only[lD] at hk;omega) (inv.set Y R) (fun j hj=>?_) a1 (hK v hv)
 by_cases e:k=j;·subst e;simp[a6]
 rw[getD_set_ne false e];exact hd j (by omega))
def zj (md:Region.Mode)(ops:Array Oper)(c:Nat):Nat→Nat→Bool
 |0,_=>false
 |f+1,k=>match ops[k]? with
  |some o=>o.after.any fun e=>Region.binds md e&&(e.on==c||zj md ops c f e.on)
  |none=>false
theorem tX {n:Nat}{listed:Array Bool}(inv:HeadInv md ops n listed):∀(f k:Nat) (o:Oper),ops[k]? =some o→zj md ops c f k=true→(∀e∈o.after,Region.binds md e=true→listed.getD e.on false=true)→listed.getD c false=true
 |0,_,_,_,h,_=>by cases h
 |f+1,k,o,R,h,C=>by(
 unfold zj at h;simp only[R] at h;obtain⟨e,he,h⟩:=Array.any_eq_true'.1 h;simp only[dX,Bool.or_eq_true,cX] at h;have J:=C e he h.1;rcases h.2 with j|j;·rw[←j];exact J
 cases I:ops[e.on]? with
 |none=>cases f with
  |zero=>cases j
  |succ f=>unfold zj at j;rw[I] at j;cases j
 |some Y=>exact tX inv f e.on Y I j (inv.closed _ _ I J))
def Hq (md:Region.Mode)(ops:Array Oper)(c:Nat)(M:List Nat):Bool:=M.all fun k=>zj md ops c ops.size k
theorem Hr {n:Nat}{M:List Nat}(I:∀k,L k≠none→k=c∨k∈M)(h:Hq md ops c M=true):By md ops c n L:=by
 intro listed inv k hk J R;obtain⟨C,o,Y,j⟩:=mem_ready.1 J;by_cases e:k=c
 ·subst e
  rw[bne_self_eq_false];exact getD_both C
 have h1:=(I k R).resolve_left e;have h2:=List.all_eq_true.1 h k h1;rw[show(k !=c)=true by rw[bne_iff_ne];exact e];exact tX inv _ k o Y h2 j
theorem cL {id:Nat}{Q:Exit→Act→World→Prop}{a:Act}{w:World}{l:List Oper}(n c:Nat)(M:List Nat)(S:Bool→World→Prop)(T:List Tmp)(F:Tmp→Value→World→Prop)(L:Nat→Option (Value→Prop))(D:Nat→Bool)(X:List PanicEntry→World→Prop)
 (hm:P.follows .mixedOrders=true) (hB:tG .any l.toArray n=true) (hT:lO .any l.toArray T=true) (b1:mS l.toArray T n=true) (hM:∀k,L k≠none→k=c∨k∈M) (b2:Hq .any l.toArray c M=true) (b3:c<n)
 (hS:S false w.drew) (hX:∀C ch w,X ch w→C.defers=a.defers→Q (.panic ch) C w) (h:Ci P l.toArray S c T F L D X (fun C=>∀w',S true w'→(∀t∈T,∀v,C.tmps[t]? =some v→F t v w')→wpList P l.toArray Q (l.drop n) C w') (l.take n) 0 false a):(Code.region id l.toArray true).wp P Q a w:=by
 simp only[tG,dX,Bool.or_eq_true,cX,eq] at hB;obtain⟨⟨a1,hn⟩,a6⟩:=hB;have a7:=pP hT;have hW:=Hr (n:=n) hM b2;have b8:n≤l.length:=by rcases hn with h|⟨⟨h,_⟩,_⟩<;>simp at h<;>omega
 have I:(l.take n).length=n:=by simp;omega
 have a8:(l.drop n).length=l.toArray.size-n:=by simp
 have Y:HeadInv .any l.toArray n (Array.replicate l.toArray.size false):=
  ⟨by simp,fun j oj _ hl=>(by rw[getD_replicate_false] at hl;cases hl),fun t _ ht=>getD_in (by simpa using ht) (getD_replicate_false _ _)⟩
 have hR:∀listed,HeadInv .any l.toArray n listed→∀i,i<n→listed.getD i true=false→∀j∈Region.ready .any l.toArray listed,j<n:=by(
 intro listed inv i hi b4 j hj;obtain⟨_,oj,b5,_⟩:=mem_ready.1 hj;have b9:=(kT.1 b5).1;rcases hn with h|⟨⟨h,hs⟩,hc⟩;·omega
 rcases Nat.lt_or_ge j n with h'|h';·exact h'
 exact absurd hj (tail_waits hs hc h inv _ i rfl hi b4 j h'))
 have H:=ue (md:=.any) (g:=l.toArray.size-n) a7 hW a1 hR (l.take n) 0 false _ a (fun j hj=>by
  have b6:j<n:=by rw[I] at hj;exact hj
  simp[b6]) (by simpa using I) Y (fun j hj=>by omega) (by rw[I];exact a6) h
 refine wp_region_any hm ?_;have:=eL (Q':=Q) (J:=fun C=>C.defers=a.defers) (g:=l.toArray.size-n) a7 hR hW (fun _ _ _ _ _ h=>(oR _ _ _).trans h) hX (fun listed C w' b0 hf hL=>by
  have R:∀t∈T,∀v,C.tmps[t]? =some v→F t v w':=fun t ht v hv=>by(
 have h1:=List.all_eq_true.1 b1 t ht;obtain⟨k,hk,h2⟩:=od.1 h1;cases hx:l.toArray[k]? with
 |none=>simp[hx] at h2
 |some x=>simp only[hx,cX] at h2;exact hf k x t (hL.2.1 k (dW.1 hk)) hx h2 ht v hv)
  have b7:ph c listed=true:=hL.2.1 c b3;rw[b7] at b0;have:=wpAny_of_seq (md:=.any) (Q':=Q) (l.drop n) n listed C w' (fun j=>by simp[List.getElem?_drop]) (by rw[a8];exact hL.1) (hL.2.2 w' b0 R);rwa [a8] at this) _ _ _ w.drew Y rfl (by rw[show ph c (Array.replicate l.toArray.size false)=false from getD_replicate_false _ _];exact hS) (fun k o d hk=>by exfalso;rw[getD_replicate_false] at hk;cases hk) H
 rw[I,show n+(l.toArray.size-n)=l.toArray.size by omega] at this;exact this
section steps
variable {Q:Act→Prop} {o:Oper} {rest:List Oper} {k:Nat} {dead:Bool} {a:Act}
theorem ku (h:Q a):Ci P ops S c T F L D X Q [] k dead a:=fun _=>h
theorem aJ {v:Value}(hw:Region.wanted o (yielded ops a.tmps)=true)(C:L k=none)(j:D k=false)(I:k≠c)(J:∀d,o.dst=some d→d∉T)(h:∀b w,S b w→dL ops T F o a w→(execOp a.eval o).run P w=.ok (.value v) w)(R:Ci P ops S c T F L D X Q rest (k+1) dead (a.put o.dst v)):Ci P ops S c T F L D X Q (o::rest) k dead a:=
 ⟨_,.inl ⟨hw,C,j,I,v,rfl,fun b w Y hp=>⟨h b w Y hp,fun d j hT=>absurd hT (J d j)⟩⟩,fun _ e=>by subst e;rw[j,Bool.or_false];exact R⟩
theorem qN {V:Value→Prop}(hw:Region.wanted o (yielded ops a.tmps)=true)(I:L k=some V)(C:D k=false)(h:∀w,S (k !=c) w→dL ops T F o a w→pq P (S true) T F X false V o w ((execOp a.eval o).run P w))(j:∀w,S (k !=c) w→dL ops T F o a w→∃u J,V u∧gw (S true) T F o w J u)(R:∀v,V v→Ci P ops S c T F L D X Q rest (k+1) dead (a.put o.dst v)):Ci P ops S c T F L D X Q (o::rest) k dead a:=
 ⟨V,.inr (.inl ⟨hw,I,by rw[C];exact h,j⟩),fun v Y=>by rw[C,Bool.or_false];exact R v Y⟩
end steps
end
end
section
open Go Go.RowKit
section
variable {P:Program}
theorem mY (w:World)(base:Nat)(t ty e:TypeId)(i:TypeInfo)(z:Value)(size bytes:Nat)(ht:P.underlying t=some (.slice e))(hi:P.info? e=some i)(hz:i.zero=some z)
 (b2:i.size=size) (b8:i.bytes=bytes) (v:Value) (n:Nat) (xs:List Value) (o:w.ownsRow base e size v n xs)
 (b off c:Nat) (news:List Value) (hl:news.length=size) (hA:∀(j:Nat) u,news[j]? =some u→w.cell? ⟨b,off+j,none⟩=some u)
 (h1:∀u∈news,u.oneCell'=true) (b9:n+1≤maxLen) (a6:(n+1)*bytes≤140737488355328)
 (a8:0<size) (v':Value) (w':World) (hr:(Builtin.append_ #[t,t] ty #[v,.slice (some ⟨b,off,none⟩) 1 c]).run P w=.ok v' w'):
 w'.ownsRow base e size v n xs∧∀u ys,w.ownsRow base e size u (n+1) ys→u.ownBlock=v.ownBlock→w'.ownsRow base e size u (n+1) (xs++news):=by
 have b5:∀(j:Nat) u,news[j]? =some u→w.cell? ((⟨b,off,none⟩:Addr).add j)=some u:=fun j u hu=>by(
 have:=hA j u hu;unfold Addr.add;split;·rename_i h;subst h;exact this
 exact this)
 subst b2;subst b8;have I:(xs++news).length=(n+1)*i.size:=by rw[eV,o.1,hl,Nat.succ_mul]
 rcases o.2 with hn|⟨g,cap,cur,rfl,hb,hh,hc,hm,a7,b3⟩
 ·refine⟨⟨o.1,.inl hn⟩,fun u _ hu e=>?_⟩
  rcases hu.2 with ⟨_,h0⟩|⟨g2,C,b0,rfl,_⟩;·omega
  rw[hn.1] at e;cases e
 by_cases J:n+1≤cap;·(
 have b6:n*i.size+news.length≤cur.size:=by rw[hl,a7,←Nat.succ_mul];exact Nat.mul_le_mul_right _ J
 have h2:=run_append_room (P:=P) w t ty e i ht hi g n cap cur hh ⟨b,off,none⟩ 1 c news (by rw[hl,Nat.one_mul]) b5 h1 J b6;rw[hr] at h2;injection h2 with _ h2;subst h2;have Y:(cur.toList.take (n*i.size)).length=n*i.size:=by rw[kQ,Array.length_toList];omega
 have b1:=setRow_heap w g cur (cur.toList.take (n*i.size)++news++cur.toList.drop (n*i.size+news.length)).toArray e _ hh;have R:(cur.toList.take (n*i.size)++news++cur.toList.drop (n*i.size+news.length)).toArray.size=cap*i.size:=by simp only[List.size_toArray,eV,Y,List.length_drop,Array.length_toList];omega
 refine⟨⟨o.1,.inr ⟨g,cap,_,rfl,hb,b1,hc,hm,R,?_⟩⟩,fun u _ hu eu=>⟨I,?_⟩⟩
 ·rw[jR]
  show((cur.toList.take (n*i.size))++_).take (n*i.size)=xs;rw[List.take_append_of_le_length (dY Y.symm),oz (dY Y)];exact b3
 rcases hu.2 with ⟨_,h0⟩|⟨g2,C,b0,rfl,c0,a1,c1,c2,b4,c3⟩;·omega
 cases eu;rw[hh] at a1;cases a1;have b7:C=cap:=Nat.eq_of_mul_eq_mul_right a8 (b4.symm.trans a7);subst b7;refine .inr ⟨g,C,_,rfl,hb,b1,J,hm,R,?_⟩;rw[b3];show((xs++news)++_).take ((n+1)*i.size)=xs++news;rw[List.take_append_of_le_length (dY I.symm),oz (dY I)])
 have holds:∀(j:Nat) u,xs[j]? =some u→w.cell? ((⟨g,0,none⟩:Addr).add j)=some u:=o.cells (g:=g) rfl;have h2:=run_append_grow (P:=P) w t ty e i z ht hi hz ⟨g,0,none⟩ n cap xs o.1 holds ⟨b,off,none⟩ 1 c news (by rw[hl,Nat.one_mul]) b5 (by omega) (by unfold maxLen at b9;omega) (growslice_fits (by omega) a6);rw[hr] at h2;injection h2 with _ h2;subst h2;refine⟨⟨o.1,.inr ⟨g,cap,cur,rfl,hb,al.alloc (w:=w.drew) (t:=e) (cs:=cur) hh _,hc,hm,a7,b3⟩⟩,fun u _ hu eu=>?_⟩;rcases hu.2 with ⟨_,h0⟩|⟨g2,C,b0,rfl,c0,a1,c1,c2,b4,c3⟩;·omega
 cases eu;rw[hh] at a1;cases a1;have b7:C=cap:=Nat.eq_of_mul_eq_mul_right a8 (b4.symm.trans a7);omega
def kH (W:World)(base:Nat)(e:TypeId)(size:Nat)(v:Value)(n:Nat)(xs:List Value)(w:World):Prop:=aa (fun b=>v.ownBlock≠some b) W w∧w.ownsRow base e size v n xs
def kI (u:Value):Prop:=∃g,u=.slice (some ⟨g,0,none⟩) 1 1
def jv (n:Nat)(u:Value):Prop:=∃A c,u=.slice A (n+1) c
variable {ops:Array Oper} {X:List PanicEntry→World→Prop} {W:World} {base:Nat} {e:TypeId} {size:Nat} {v:Value} {n:Nat} {xs cells:List Value} {tb ta:Tmp} {L:Nat→Option (Value→Prop)} {D:Nat→Bool} {Q:Act→Prop} {o:Oper} {rest:List Oper} {k:Nat} {dead:Bool} {a:Act}
theorem kH.first {w:World}(h:w.ownsRow base e size v n xs):kH w base e size v n xs w.drew:=⟨kR.drew,ay h ((aa.refl All w).drew) fun _ _=>trivial⟩
end
end
section
open Go Go.RowKit
section
variable {P:Program}
theorem yn {c i j:Nat}(x y z:Option (Value→Prop)):∀k,(if k=c then x else if k=i then y else if k=j then z else none)≠none→k=c∨k∈[i,j]:=by
 intro k h;by_cases o:k=c;·exact .inl o
 right;by_cases C:k=i;·rw[C];simp
 by_cases I:k=j;·rw[I];simp
 rw[ah o,ah C,ah I] at h;exact absurd rfl h
def SY (W:World)(E:Nat→Prop)(base:Nat)(e:TypeId)(size:Nat)(v:Value)(n:Nat)(xs:List Value)(PS:Bool→World→Prop)(b:Bool)(w:World):Prop:=
 aa (fun i=>v.ownBlock≠some i∧E i) W w∧w.ownsRow base e size v n xs∧PS b w
def FY (W:World)(E:Nat→Prop)(base:Nat)(e:TypeId)(size:Nat)(v:Value)(n:Nat)(xs:List Value)(cl:Value→List Value)(C:Value→World→Prop)(tb tc t:Tmp)(u:Value)(w:World):Prop:=
 if t=tb then∃g y,u=.slice (some ⟨g,0,none⟩) 1 1∧W.heap.size≤g∧al w g e (cl y).toArray∧C y w
 else if t=tc then C u w
 else∃y wz,w.ownsRow base e size u (n+1) (xs++cl y)∧C y wz∧W.heap.size≤wz.heap.size∧aa (fun b=>v.ownBlock≠some b∧E b) wz w∧(u.ownBlock=v.ownBlock∨∀g,u.ownBlock=some g→wz.heap.size≤g)
structure uA (W:World)(E:Nat→Prop)(v:Value)(PS:Bool→World→Prop)(C:Value→World→Prop):Prop where
 big:∀i,W.heap.size≤i→E i
 own:∀b,v.ownBlock=some b→E b∧b<W.heap.size
 ps:∀b w w',aa (fun i=>v.ownBlock≠some i) w w'→PS b w→PS b w'
 c:∀y w w',aa (fun i=>v.ownBlock≠some i∧E i) w w'→C y w→C y w'
variable {ops:Array Oper} {X:List PanicEntry→World→Prop} {W:World} {E:Nat→Prop} {base:Nat} {e:TypeId} {size:Nat} {v:Value} {n:Nat} {xs:List Value} {PS:Bool→World→Prop} {cl:Value→List Value} {C:Value→World→Prop} {tb tc ta:Tmp} {L:Nat→Option (Value→Prop)} {D:Nat→Bool} {Q:Act→Prop} {o:Oper} {rest:List Oper} {k c:Nat} {dead:Bool} {a:Act}
theorem SY.first {w:World}(h:w.ownsRow base e size v n xs)(j:PS false w.drew):SY w E base e size v n xs PS false w.drew:=⟨kR.drew,ay h ((aa.refl All w).drew) fun _ _=>trivial,j⟩
theorem FY.keep (G:uA W E v PS C){w Y:World}(k:aa All w Y)(t:Tmp)(u:Value)(h:FY W E base e size v n xs cl C tb tc t u w):FY W E base e size v n xs cl C tb tc t u Y:=by
 unfold FY at h⊢;split
 ·rename_i e;rw[am e] at h
  obtain⟨g,y,j,I,J,R⟩:=h;exact⟨g,y,j,I,J.kept k trivial,G.c _ _ _ k.all R⟩
 rename_i e;rw[ah e] at h;split
 ·rename_i e;rw[am e] at h
  exact G.c _ _ _ k.all h
 rename_i e;rw[ah e] at h;obtain⟨y,wz,j,I,J,R,h5⟩:=h;exact⟨y,wz,ay j k fun _ _=>trivial,I,J,R.trans k.all,h5⟩
theorem gr (G:uA W E v PS C){V:Value→Prop}(hw:Region.wanted o (yielded ops a.tmps)=true)(hl:L c=some V)(hd:D c=false)(J:o.dst=some tc)(a6:tc≠tb)
 (h:∀w,SY W E base e size v n xs PS false w→∃f args,(execOp a.eval o).run P w=.ok (.enter f args) w∧Calls P f args w fun e j=>∃u,e=.returned u∧V u∧aa E w j∧PS true j∧C u j)
 (Y:∀u,V u→Ci P ops (SY W E base e size v n xs PS) c [tc,tb,ta] (FY W E base e size v n xs cl C tb tc) L D X Q rest (c+1) dead (a.put (some tc) u)):
 Ci P ops (SY W E base e size v n xs PS) c [tc,tb,ta] (FY W E base e size v n xs cl C tb tc) L D X Q (o::rest) c dead a:=by
 have good:∀w j u,SY W E base e size v n xs PS false w→aa E w j→PS true j→C u j→gw (SY W E base e size v n xs PS true) [tc,tb,ta] (FY W E base e size v n xs cl C tb tc) o w j u:=by(
 intro w j u I Y hp hc;have hK:aa (fun i=>v.ownBlock≠some i∧E i) w j:=Y.mono fun i hi=>hi.2;refine⟨⟨I.1.trans hK,ay I.2.1 Y fun b hb=>(G.own b hb).1,hp⟩,fun t _ u hu=>?_,fun d a1 _=>?_⟩;·(
 unfold FY at hu⊢;split
 ·rename_i et;rw[am et] at hu
  obtain⟨g2,y2,q1,q2,R,q4⟩:=hu;exact⟨g2,y2,q1,q2,R.kept Y (G.big _ q2),G.c _ _ _ hK q4⟩
 rename_i et;rw[ah et] at hu;split
 ·rename_i ec;rw[am ec] at hu
  exact G.c _ _ _ hK hu
 rename_i ec;rw[ah ec] at hu;obtain⟨y2,wz,q1,q2,q4,q5,R⟩:=hu;have a7:∀b,u.ownBlock=some b→E b:=fun b hb=>by
  rcases R with R|R;·rw[R] at hb;exact(G.own b hb).1
  have:=R b hb;exact G.big _ (by omega)
 exact⟨y2,wz,ay q1 Y a7,q2,q4,q5.trans hK,R⟩)
 rw[J] at a1;cases a1;unfold FY;rw[ah a6,am rfl];exact hc)
 refine qN hw hl hd (fun w I hp=>?_) (fun w I hp=>?_) (fun u hu=>by rw[J];exact Y u hu)
 ·rw[bne_self_eq_false] at I
  obtain⟨f,args,hr,hc⟩:=h w I;rw[hr];exact hc.mono fun e j ⟨u,h1,h2,h3,h4,h5⟩=>.inl ⟨rfl,u,h1,h2,good w j u I h3 h4 h5⟩
 rw[bne_self_eq_false] at I;obtain⟨f,args,hr,hc⟩:=h w I;obtain⟨e,j,_,⟨u,_,h2,h3,h4,h5⟩,_⟩:=hc [];exact⟨u,j,h2,good w j u I h3 h4 h5⟩
theorem iG (G:uA W E v PS C)(a1:k≠c)(hw:Region.wanted o (yielded ops a.tmps)=true)(hl:L k=some kI)(hd:D k=false)(I:o.dst=some tb)(a6:tc≠tb)(y:Value)(hy:a.tmps[tc]? =some y)(J:tc∈o.looksAt ops)
 (h:∀w,SY W E base e size v n xs PS true w→(execOp a.eval o).run P w=.ok (.value (.slice (some ⟨w.heap.size,0,none⟩) 1 1)) (w.alloc (.cells (cl y).toArray e)))
 (hk:∀g,Ci P ops (SY W E base e size v n xs PS) c [tc,tb,ta] (FY W E base e size v n xs cl C tb tc) L D X Q rest (k+1) dead (a.put (some tb) (.slice (some ⟨g,0,none⟩) 1 1))):
 Ci P ops (SY W E base e size v n xs PS) c [tc,tb,ta] (FY W E base e size v n xs cl C tb tc) L D X Q (o::rest) k dead a:=by
 have hb:(k !=c)=true:=by rw[bne_iff_ne];exact a1
 have good:∀w,SY W E base e size v n xs PS true w→dL ops [tc,tb,ta] (FY W E base e size v n xs cl C tb tc) o a w→gw (SY W E base e size v n xs PS true) [tc,tb,ta] (FY W E base e size v n xs cl C tb tc) o w (w.alloc (.cells (cl y).toArray e)) (.slice (some ⟨w.heap.size,0,none⟩) 1 1):=fun w j R=>by have hc:=R tc J (by simp) _ hy;unfold FY at hc;rw[ah a6,am rfl] at hc;have Y:aa All w (w.alloc (.cells (cl y).toArray e)):=kR.alloc _;refine⟨⟨j.1.trans Y.all,ay j.2.1 Y fun _ _=>trivial,G.ps _ _ _ Y.all j.2.2⟩,fun t _ u hu=>hu.keep G Y t u,fun d hd _=>?_⟩;rw[I] at hd;cases hd;unfold FY;rw[am rfl];exact⟨_,y,rfl,j.1.size,al.new _ _ _,G.c _ _ _ Y.all hc⟩
 refine qN hw hl hd (fun w j R=>?_) (fun w j R=>?_) ?_
 ·rw[hb] at j
  rw[h w j];exact⟨rfl,⟨_,rfl⟩,good w j R⟩
 ·rw[hb] at j
  exact⟨_,_,⟨_,rfl⟩,good w j R⟩
 rintro u ⟨g,rfl⟩;rw[I];exact hk g
theorem iE (G:uA W E v PS C)(b8:k≠c)(hw:Region.wanted o (yielded ops a.tmps)=true)(hl:L k=some (jv n))(hd:D k=false)(a6:o.dst=some ta)(b9:ta≠tb)(c0:ta≠tc)(s:Operand)(t:TypeId)
 (ho:o.op=.call {callee:=.builtin .append,args:=#[s,.tmp tb],argTypes:=#[t,t]}) (i:TypeInfo) (z:Value) (bytes:Nat) (ht:P.underlying t=some (.slice e)) (hi:P.info? e=some i) (hz:i.zero=some z)
 (Y:i.size=size) (b2:i.bytes=bytes) (c1:z.cells.size=size) (b3:0<size) (hs:a.eval s=v) (g:Nat) (hx:a.tmps[tb]? =some (.slice (some ⟨g,0,none⟩) 1 1)) (b0:tb∈o.looksAt ops)
 (h1:∀y w,C y w→(cl y).length=size∧∀u∈cl y,u.oneCell'=true) (b4:n+1≤maxLen) (J:(n+1)*bytes≤140737488355328) (b1:base≤W.heap.size)
 (hk:∀A c',Ci P ops (SY W E base e size v n xs PS) c [tc,tb,ta] (FY W E base e size v n xs cl C tb tc) L D X Q rest (k+1) dead (a.put (some ta) (.slice A (n+1) c'))):
 Ci P ops (SY W E base e size v n xs PS) c [tc,tb,ta] (FY W E base e size v n xs cl C tb tc) L D X Q (o::rest) k dead a:=by
 have hb:(k !=c)=true:=by rw[bne_iff_ne];exact b8
 have key:∀w,SY W E base e size v n xs PS true w→dL ops [tc,tb,ta] (FY W E base e size v n xs cl C tb tc) o a w→∃v' w',(Builtin.append_ #[t,t] o.type #[v,.slice (some ⟨g,0,none⟩) 1 1]).run P w=.ok v' w'∧jv n v'∧gw (SY W E base e size v n xs PS true) [tc,tb,ta] (FY W E base e size v n xs cl C tb tc) o w w' v':=by(
 intro w I hp;have hf:=hp tb b0 (by simp) _ hx;unfold FY at hf;rw[am rfl] at hf;obtain⟨g',y,eg,c3,c2,hy⟩:=hf;iterate 3 injection eg with eg
 subst eg;obtain⟨b5,a7⟩:=h1 y w hy;have a1:∀(j:Nat) u,(cl y)[j]? =some u→w.cell? ⟨g,0+j,none⟩=some u:=fun j u hu=>by rw[dU,c2.cell j,List.getElem?_toArray];exact hu
 obtain⟨v',w',hr,h2,h3,h4⟩:=wX (P:=P) w base t o.type e i z size bytes ht hi hz Y b2 c1 b3 v n xs I.2.1 (some ⟨g,0,none⟩) 1 1 (cl y) (by rw[b5,Nat.one_mul]) (fun _=>⟨g,0,rfl,a1⟩) a7 b4 J (dA b1 I.1.size);have b6:=mY (P:=P) w base t o.type e i z size bytes ht hi hz Y b2 v n xs I.2.1 g 0 1 (cl y) b5 a1 a7 b4 J b3 v' w' hr;obtain⟨A,c',rfl⟩:=cd h2;have hK:aa (fun b=>v.ownBlock≠some b) w w':=(aa.refl _ w).grown h3 fun b hb=>.inl fun h=>h hb;have R:aa (fun b=>v.ownBlock≠some b∧E b) w w':=hK.mono fun b hb=>hb.1;refine⟨_,w',hr,⟨A,c',rfl⟩,⟨⟨I.1.trans R,b6.1,G.ps _ _ _ hK I.2.2⟩,fun t' _ u hu=>?_,fun d b7 _=>?_⟩⟩;·(
 unfold FY at hu⊢;split
 ·rename_i et;rw[am et] at hu
  obtain⟨g2,y2,q1,q2,q3,q4⟩:=hu;exact⟨g2,y2,q1,q2,q3.kept hK fun hb=>by have:=(G.own _ hb).2;omega,G.c _ _ _ R q4⟩
 rename_i et;rw[ah et] at hu;split
 ·rename_i ec;rw[am ec] at hu
  exact G.c _ _ _ R hu
 rename_i ec;rw[ah ec] at hu;obtain⟨y2,wz,q1,q2,q4,q5,q3⟩:=hu;rcases q3 with q3|q3;·exact⟨y,w,b6.2 u _ q1 q3,hy,I.1.size,R,.inl q3⟩
 exact⟨y2,wz,ay q1 hK fun b hb hv=>by have h5:=(G.own _ hv).2;have h6:=q3 b hb;omega,q2,q4,q5.trans R,.inr q3⟩)
 rw[a6] at b7;cases b7;unfold FY;rw[ah b9,ah c0];refine⟨y,w,h2,hy,I.1.size,R,?_⟩;rcases h4 with h4|h4;·exact .inl h4
 exact .inr fun g2 a8=>by rw[h4] at a8;cases a8;exact bj _)
 refine qN hw hl hd (fun w I hp=>?_) (fun w I hp=>?_) ?_;·rw[hb] at I;obtain⟨v',w',hr,h2,h3⟩:=key w I hp;unfold execOp;simp only[ho,resolve,invoke,builtin,Sem.run_bind,Sem.run_pure,Result.andThen_ok,List.map_toArray,List.map_cons,List.map_nil,hs,show a.eval (.tmp tb)=.slice (some ⟨g,0,none⟩) 1 1 from by simp[Act.eval,hx],hr];exact⟨rfl,h2,h3⟩
 ·rw[hb] at I
  obtain⟨v',w',hr,h2,h3⟩:=key w I hp;exact⟨v',w',h2,h3⟩
 rintro u ⟨A,c',rfl⟩;rw[a6];exact hk A c'
end
end
def df (m:BitVec 64)(k:Nat):List Nat:=(List.range k).filter fun j=>m.getLsbD j
def CX (m:BitVec 64)(k:Nat):BitVec 64:=yX (fun j=>decide (k≤j)&&m.getLsbD j) 64
theorem nM (m:BitVec 64)(k j:Nat)(o:j<64):(CX m k).getLsbD j=(decide (k≤j)&&m.getLsbD j):=by rw[CX,yY _ _ _ o,be o];rfl
theorem Md (m:BitVec 64):CX m 0=m:=by apply BitVec.eq_of_getLsbD_eq;intro j o;rw[nM _ _ _ o,be (Nat.zero_le j)];rfl
theorem CG {x:BitVec 64}{t:Nat}(h:Lz x t)(j:Nat)(I:j<64):(x&&&(x-1#64)).getLsbD j=(x.getLsbD j&&decide (j≠t)):=by
 have J:=BW h;have R:x-1#64= ~~~(-x):=by
  have e:=BitVec.neg_eq_not_add (-x);rw[BitVec.neg_neg] at e;have Y:∀y:BitVec 64,x=y+1#64→x-1#64=y:=by rintro y rfl;exact BitVec.add_sub_cancel y 1#64
  exact Y _ e
 have o:=congrArg (fun y=>y.getLsbD j) J;have h4:(pw t).getLsbD j=decide (j=t):=by(
 rw[pw,BitVec.getLsbD_shiftLeft];by_cases e:j=t;·subst e;simp[I]
 by_cases C:j<t;·simp[C,e]
 have:j-t≠0:=by omega
 simp[C,this,e])
 simp only[BitVec.getLsbD_and,h4] at o;rw[R,BitVec.getLsbD_and,BitVec.getLsbD_not];by_cases e:j=t
 ·subst e
  rw[be rfl] at o;rw[dX] at o;rw[o.2];simp
 rw[cN e] at o;cases hx:x.getLsbD j with
 |false=>simp
 |true=>
  rw[hx] at o;have h5:(-x).getLsbD j=false:=by simpa using o
  rw[h5];simp[I,e]
theorem FI {m:BitVec 64}{k t:Nat}(h:Lz (CX m k) t):CX m k&&&(CX m k-1#64)=CX m (t+1)∧k≤t∧t<64∧m.getLsbD t=true∧df m (t+1)=df m k++[t]:=by
 have ht:=h.1;have R:=h.2.1;rw[nM _ _ _ ht,dX,eq] at R;have o:∀j,k≤j→j<t→m.getLsbD j=false:=by intro j C I;have:=h.2.2 j I;rw[nM _ _ _ (by omega),be C] at this;simpa using this
 refine⟨?_,R.1,ht,R.2,?_⟩;·(
 apply BitVec.eq_of_getLsbD_eq;intro j I;rw[CG h j I,nM _ _ _ I,nM _ _ _ I];by_cases C:k≤j;·(
 by_cases Y:j<t;·rw[o j C Y];simp
 by_cases e:j=t
 ·have J:¬t+1≤j:=by omega
  rw[cN J,cN (fun h:j≠t=>h e)];simp
 have J:t+1≤j:=by omega
 simp[C,e,J])
 have J:¬t+1≤j:=by omega
 simp[C,J])
 unfold df;have e:List.range (t+1)=List.range k++(List.range (t-k)).map (k+·)++[t]:=by rw[List.range_succ];congr 1;have:=List.range_add (n:=k) (m:=t-k);rw[←this];congr 1;omega
 rw[e,qj,qj];have e2:((List.range (t-k)).map (k+·)).filter (fun j=>m.getLsbD j)=[]:=by rw[List.filter_eq_nil_iff];intro a ha;obtain⟨i,hi,rfl⟩:=dt.1 ha;have:=dW.1 hi;rw[o _ (by omega) (by omega)];exact lE
 rw[e2,List.append_nil];simp[R.2]
theorem Ja {m:BitVec 64}{k:Nat}(h:CX m k=0#64)(Y:k≤64):df m k=df m 64:=by
 have o:∀j,k≤j→j<64→m.getLsbD j=false:=by intro j C I;have:=congrArg (fun y=>y.getLsbD j) h;simp only[nM _ _ _ I,be C,BitVec.getLsbD_zero] at this;simpa using this
 unfold df;have e:List.range 64=List.range k++(List.range (64-k)).map (k+·):=by have:=List.range_add (n:=k) (m:=64-k);rw[←this];congr 1;omega
 rw[e,qj];have J:((List.range (64-k)).map (k+·)).filter (fun j=>m.getLsbD j)=[]:=by rw[List.filter_eq_nil_iff];intro a R;obtain⟨i,hi,rfl⟩:=dt.1 R;have:=dW.1 hi;rw[o _ (by omega) (by omega)];exact lE
 rw[J,List.append_nil]
theorem jA {m:BitVec 64}{k j:Nat}:j∈df m k↔j<k∧m.getLsbD j=true:=by unfold df;rw[List.mem_filter,dW]
theorem xI {m:BitVec 64}{pre:List Nat}{k:Nat}(h:pre++[k]<+:df m 64):(k<64∧m.getLsbD k=true)∧∀j,j<k→m.getLsbD j=true→j∈pre:=by
 obtain⟨t,C⟩:=h;have I:k∈df m 64:=by rw[←C];simp
 refine⟨jA.1 I,fun j R hm=>?_⟩;have o:j∈df m 64:=jA.2 ⟨by have:=(jA.1 I).1;omega,hm⟩;rw[←C,jR,dV] at o;rcases o with h|h;·exact h
 exfalso;have J:(df m 64).Pairwise (·<·):=List.Pairwise.filter _ List.pairwise_lt_range;rw[←C,jR] at J;have:=(List.pairwise_append.1 J).2.1;simp only[List.cons_append,si] at h this;rcases fV.1 h with rfl|h;·omega
 have:=(List.pairwise_cons.1 this).1 j h;omega
end Go.Proofs.YtccbbkopmlnkpaaGreatDoor
