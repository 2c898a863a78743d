/- Part 3 of the proof of CallsShallow (its last part says what is proved). No condition. -/
import Derived.Test.YtncdbjponknakaaGreatDoorK1
namespace Go.Proofs.YtncdbjponknakaaGreatDoor
set_option maxRecDepth 100000
set_option maxHeartbeats 8000000
open Go.RowKit Go.Proofs.Tryz
section
open Go
section
variable {P:Program} {ops:Array Oper} {md:Region.Mode} {S:World→Prop} {T:List Tmp} {F:Tmp→Value→World→Prop} {L:Nat→Option (Value→Prop)}
def ij (ops:Array Oper)(T:List Tmp)(F:Tmp→Value→World→Prop)(o:Oper)(a:Act)(w:World):Prop:=
 ∀t∈o.looksAt ops,t∈T→∀v,a.tmps[t]? =some v→F t v w
def om (S:World→Prop)(T:List Tmp)(F:Tmp→Value→World→Prop)(o:Oper)(w w':World)(u:Value):Prop:=
 S w'∧(∀t∈T,∀v,F t v w→F t v w')∧∀d,o.dst=some d→d∈T→F d u w'
def kl (P:Program)(S:World→Prop)(T:List Tmp)(F:Tmp→Value→World→Prop)(V:Value→Prop)(o:Oper)(w:World):Result Next→Prop
 |.ok (.value u) w'=>V u∧om S T F o w w' u
 |.ok (.enter f args) w'=>Calls P f args w' (fun e w''=>∃u,e=.returned u∧V u∧om S T F o w w'' u)
 |_=>False
def Iq (P:Program)(ops:Array Oper)(S:World→Prop)(T:List Tmp)(F:Tmp→Value→World→Prop)(o:Oper)(a:Act)(v:Value):Prop:=
 ∀w,S w→ij ops T F o a w→(execOp a.eval o).run P w=.ok (.value v) w∧∀d,o.dst=some d→d∈T→F d v w
def fm (P:Program)(ops:Array Oper)(S:World→Prop)(T:List Tmp)(F:Tmp→Value→World→Prop)(o:Oper)(lab:Option (Value→Prop))(a:Act)(V:Value→Prop):Prop:=
 (Region.wanted o (yielded ops a.tmps)=true∧lab=none∧∃v,V=(·=v)∧Iq P ops S T F o a v)∨
 (Region.wanted o (yielded ops a.tmps)=true∧lab=some V∧∀w,S w→ij ops T F o a w→kl P S T F V o w ((execOp a.eval o).run P w))∨
 (Region.wanted o (yielded ops a.tmps)=false∧V=(·=undef)∧∀d,o.dst=some d→d∉T)
theorem fm.unique {o:Oper}{J:Option (Value→Prop)}{a:Act}{V Z:Value→Prop}(h:fm P ops S T F o J a V)(h':fm P ops S T F o J a Z){w:World}(hw:S w)(hp:ij ops T F o a w):V=Z:=by
 rcases h with ⟨C,R,v,rfl,h3⟩|⟨C,R,_⟩|⟨C,rfl,_⟩
 ·rcases h' with ⟨j,l,v',rfl,k3⟩|⟨j,l,_⟩|⟨j,_⟩
  ·have Y:=(h3 w hw hp).1;rw[(k3 w hw hp).1] at Y;iterate 2 injection Y with Y
   subst Y;rfl
  ·rw[R] at l;cases l
  rw[C] at j;cases j
 ·rcases h' with ⟨j,l,_⟩|⟨j,l,_⟩|⟨j,_⟩
  ·rw[R] at l;cases l
  ·rw[R] at l;injection l
  rw[C] at j;cases j
 rcases h' with ⟨j,_⟩|⟨j,_⟩|⟨_,rfl,_⟩;·rw[C] at j;cases j
 ·rw[C] at j;cases j
 rfl
theorem fm.some_ {o:Oper}{C:Option (Value→Prop)}{a:Act}{V:Value→Prop}(h:fm P ops S T F o C a V){w:World}(hw:S w)(R:ij ops T F o a w):∃u l,V u∧om S T F o w l u:=by
 rcases h with ⟨_,_,v,rfl,j⟩|⟨_,_,j⟩|⟨_,rfl,j⟩;·exact⟨v,w,rfl,hw,fun _ _ _ h=>h,(j w hw R).2⟩
 ·(
 have h:=j w hw R;generalize (execOp a.eval o).run P w=r at h;cases r with
 |ok n l=>
  cases n<;>simp only[kl] at h
  case value u=>exact⟨u,l,h⟩
  case enter f args=>obtain⟨e,J,_,⟨u,_,Y,Z⟩,_⟩:=h [];exact⟨u,J,Y,Z⟩
 |halt x l=>simp only[kl] at h)
 exact⟨undef,w,rfl,hw,fun _ _ _ h=>h,fun d hd ht=>absurd ht (j d hd)⟩
theorem ij.put {o:Oper}{a:Act}{w:World}{dst:Option Tmp}{u:Value}(h:∀d,dst=some d→d∉o.looksAt ops):ij ops T F o (a.put dst u) w↔ij ops T F o a w:=by
 unfold ij;constructor
 ·intro J t l R v C;refine J t l R v ?_;cases dst with
  |none=>exact C
  |some d=>have j:d≠t:=fun e=>h d rfl (e▸l);simpa [Act.put,Array.getElem?_setIfInBounds_ne j] using C
 intro J t l R v C;refine J t l R v ?_;cases dst with
 |none=>exact C
 |some d=>have j:d≠t:=fun e=>h d rfl (e▸l);simpa [Act.put,Array.getElem?_setIfInBounds_ne j] using C
theorem fm.put {o:Oper}{j:Option (Value→Prop)}{a:Act}{V:Value→Prop}{dst:Option Tmp}{u:Value}(l:∀cs b,o.op≠.select cs b)(h:∀d,dst=some d→d∉o.looksAt ops):
 fm P ops S T F o j (a.put dst u) V↔fm P ops S T F o j a V:=by
 unfold fm Iq;rw[execOp_put o l a dst u h,wanted_put o a dst u h];simp only[ij.put h]
def eU (ops:Array Oper)(T:List Tmp)(F:Tmp→Value→World→Prop)(listed:Array Bool)(a:Act)(w:World):Prop:=
 ∀k o d,listed.getD k false=true→ops[k]? =some o→o.dst=some d→d∈T→∀v,a.tmps[d]? =some v→F d v w
def lk (md:Region.Mode)(ops:Array Oper)(T:List Tmp):Prop:=
 (∀(i j:Nat) (x y:Oper) (t:Tmp),ops[i]? =some x→ops[j]? =some y→x.dst=some t→y.dst=some t→t∈T→i=j)∧
 (∀(j:Nat) (y:Oper) (t:Tmp),ops[j]? =some y→t∈y.looksAt ops→t∈T→∃(k:Nat) (x:Oper),ops[k]? =some x∧x.dst=some t∧∃e∈y.after,Region.binds md e=true∧e.on=k)∧
 (∀t∈T,∃(k:Nat) (x:Oper),ops[k]? =some x∧x.dst=some t)
def ns (md:Region.Mode)(ops:Array Oper)(T:List Tmp):Bool:=
 (List.range ops.size).all (fun i=>(List.range ops.size).all fun j=>match ops[i]?,ops[j]? with
  |some x,some y=>(match x.dst,y.dst with|some t,some u=>!(t==u)||!T.contains t||i==j|_,_=>true)
  |_,_=>true)&&
 (List.range ops.size).all (fun j=>match ops[j]? with
  |some y=>(y.looksAt ops).all fun t=>!T.contains t||(List.range ops.size).any fun k=>match ops[k]? with
   |some x=>x.dst==some t&&y.after.any fun e=>Region.binds md e&&e.on==k
   |none=>false
  |none=>true)&&
 T.all fun t=>(List.range ops.size).any fun k=>match ops[k]? with|some x=>x.dst==some t|none=>false
theorem sU (h:ns md ops T=true):lk md ops T:=by
 unfold ns at h;simp only[gE,List.all_eq_true,fg] at h;obtain⟨⟨R,Y⟩,Z⟩:=h;refine⟨fun i j x y t hi o l hy C=>?_,fun j y t o hl C=>?_,fun t C=>?_⟩
 ·have:=R i (mV.1 hi).1 j (mV.1 o).1
  simp only[hi,o,l,hy] at this;simpa [C] using this
 ·have:=Y j (mV.1 o).1;simp only[o,List.all_eq_true] at this;have:=this t hl;simp only[Bool.or_eq_true,Bool.not_eq_true',List.contains_eq_mem,decide_eq_false_iff_not,C,not_true_eq_false,false_or,mW,fg] at this;obtain⟨k,hk,h⟩:=this;cases l:ops[k]? with
  |none=>simp[l] at h
  |some x=>simp only[l,gE,cy] at h;obtain⟨hd,he⟩:=h;obtain⟨e,he,J⟩:=Array.any_eq_true'.1 he;simp only[gE,cy] at J;exact⟨k,x,l,hd,e,he,J.1,J.2⟩
 have:=Z t C;simp only[mW,fg] at this;obtain⟨k,_,h⟩:=this;cases l:ops[k]? with
 |none=>simp[l] at h
 |some x=>simp only[l,cy] at h;exact⟨k,x,l,h⟩
theorem eU.pre {listed:Array Bool}{a:Act}{w:World}(hm:lk md ops T)(h:eU ops T F listed a w){j:Nat}{y:Oper}(Y:j∈Region.ready md ops listed)(C:ops[j]? =some y):ij ops T F y a w:=by intro t Z J v hv;obtain⟨k,x,hx,hd,e,he,hb,hk⟩:=hm.2.1 j y t C Z J;obtain⟨_,o,R,l⟩:=mem_ready.1 Y;rw[C] at R;cases R;have:=l e he hb;rw[hk] at this;exact h k x t this hx hd J v hv
theorem Az {listed:Array Bool}{i k:Nat}(h:(listed.setIfInBounds i true).getD k false=true):k=i∨listed.getD k false=true:=by
 by_cases e:i=k;·exact .inl e.symm
 rw[getD_set_ne false e] at h;exact .inr h
theorem eU.next {listed:Array Bool}{a:Act}{w w':World}{i:Nat}{o:Oper}{u:Value}(h:eU ops T F listed a w)(hi:ops[i]? =some o)(g:om S T F o w w' u):eU ops T F (listed.setIfInBounds i true) (a.put o.dst u) w':=by
 intro k x d J R hd Y v j;by_cases e:o.dst=some d
 ·have l:v=u:=by(
 rw[e] at j;simp only[Act.put,Array.getElem?_setIfInBounds] at j;split at j
 ·split at j
  ·exact(kJ j).symm
  cases j
 rename_i h;exact absurd trivial h)
  subst l;exact g.2.2 d e Y
 have l:a.tmps[d]? =some v:=by(
 cases C:o.dst with
 |none=>rw[C] at j;exact j
 |some d'=>rw[C] at j e;have Z:d'≠d:=fun x=>e (by rw[x]);simpa [Act.put,Array.getElem?_setIfInBounds_ne Z] using j)
 rcases Az J with rfl|J;·rw[hi] at R;cases R;exact absurd hd e
 exact g.2.1 d Y v (h k x d J R hd Y v l)
theorem eU.less {listed:Array Bool}{a:Act}{w:World}{j:Nat}{y:Oper}{u:Value}(hm:lk md ops T)(hj:ops[j]? =some y)(l:listed.getD j true=false)(h:eU ops T F (listed.setIfInBounds j true) (a.put y.dst u) w):eU ops T F listed a w:=by
 intro k x d C Y Z hT v hv;have J:k≠j:=by
  rintro rfl;rcases Nat.lt_or_ge k listed.size with h'|h';·simp[h'] at C l;rw[C] at l;cases l
  simp[jK h'] at C
 have o:y.dst≠some d:=fun e=>J (hm.1 k j x y d Y hj Z e hT);refine h k x d (getD_set_true C) Y Z hT v ?_;cases R:y.dst with
 |none=>exact hv
 |some d'=>rw[R] at o;have:d'≠d:=fun x=>o (by rw[x]);simpa [Act.put,Array.getElem?_setIfInBounds_ne this] using hv
def oZ (P:Program)(md:Region.Mode)(ops:Array Oper)(S:World→Prop)(T:List Tmp)(F:Tmp→Value→World→Prop)(L:Nat→Option (Value→Prop))(Q:Act→Prop):Nat→Array Bool→Act→Prop
 |0,listed,a=>(∃w,S w∧eU ops T F listed a w)→Region.ready md ops listed=[]∧Q a
 |fuel+1,listed,a=>(∃w,S w∧eU ops T F listed a w)→(Region.ready md ops listed=[]→Q a)∧
  ∀i∈Region.ready md ops listed,∀o,ops[i]? =some o→∃V,fm P ops S T F o (L i) a V∧∀v,V v→oZ P md ops S T F L Q fuel (listed.setIfInBounds i true) (a.put o.dst v)
theorem iD {Q:Act→Prop}{Q':Exit→Act→World→Prop}(hm:lk md ops T)
 (Y:∀listed a w,listed.size=ops.size→Region.ready md ops listed=[]→S w→eU ops T F listed a w→Q a→Q' .normal a w):∀(j:Nat) (listed:Array Bool) (a:Act) (w:World),listed.size=ops.size→S w→eU ops T F listed a w→
 oZ P md ops S T F L Q j listed a→wpAny P md ops Q' j listed a w
 |0,listed,a,w,hz,hw,l,h=>⟨(h ⟨w,hw,l⟩).1,Y _ _ _ hz (h ⟨w,hw,l⟩).1 hw l (h ⟨w,hw,l⟩).2⟩
 |j+1,listed,a,w,hz,hw,l,h=>by(
 refine⟨fun h0=>Y _ _ _ hz h0 hw l ((h ⟨w,hw,l⟩).1 h0),fun i hi=>?_⟩;have C:(listed.setIfInBounds i true).size=ops.size:=by rw[Array.size_setIfInBounds];exact hz
 obtain⟨_,o,R,_⟩:=mem_ready.1 hi;obtain⟨V,hy,hn⟩:=(h ⟨w,hw,l⟩).2 i hi o R;have hp:=l.pre hm hi R;unfold wpOp;simp only[R];rcases hy with ⟨Z,_,v,rfl,h3⟩|⟨Z,_,h3⟩|⟨Z,rfl,h3⟩;·rw[ap Z];left;obtain⟨J,hd⟩:=h3 w hw hp;unfold Oper.wp;rw[J];exact iD hm Y j _ _ w C hw (l.next R ⟨hw,fun _ _ _ h=>h,hd⟩) (hn v rfl)
 ·(
 rw[ap Z];left;have J:=h3 w hw hp;unfold Oper.wp;generalize (execOp a.eval o).run P w=r at J;cases r with
 |ok n w'=>
  cases n<;>simp only[kl] at J<;>simp only[Oper.upon]
  case value u=>exact iD hm Y j _ _ w' C J.2.1 (l.next R J.2) (hn u J.1)
  case enter f args=>(refine J.mono ?_;rintro e a1 ⟨u,rfl,hv,hg⟩;exact iD hm Y j _ _ a1 C hg.1 (l.next R hg) (hn u hv))
 |halt x w'=>simp only[kl] at J)
 rw[ae (by rw[Z];exact oG)];exact iD hm Y j _ _ w C hw (l.next R ⟨hw,fun _ _ _ h=>h,fun d hd ht=>absurd ht (h3 d hd)⟩) (hn undef rfl))
theorem xw {Q:Act→Prop}{i:Nat}{oi:Oper}{V:Value→Prop}(hm:lk md ops T)(hi:ops[i]? =some oi)(a6:∀(j:Nat) (o:Oper) cs b,ops[j]? =some o→o.op≠.select cs b):
 ∀(l:Nat) (listed:Array Bool) (a:Act),
  (∀j Y,ops[j]? =some Y→j≠i→listed.getD j true=false→(∀e∈Y.after,Region.binds md e=true→e.on≠i)→oi.apart ops Y=true)→
  i∈Region.ready md ops listed→fm P ops S T F oi (L i) a V→
  (∀v,V v→oZ P md ops S T F L Q l (listed.setIfInBounds i true) (a.put oi.dst v))→oZ P md ops S T F L Q (l+1) listed a:=by
 intro l;induction l with
 |zero=>
  intro listed a _ hr hy H R;obtain⟨w0,b0,Z⟩:=R;obtain⟨v0,w1,b4,hg⟩:=hy.some_ b0 (Z.pre hm hr hi);have h1:=H v0 b4 ⟨w1,hg.1,Z.next hi hg⟩;refine⟨fun h=>(by rw[h] at hr;cases hr),fun j hj o ho=>?_⟩;by_cases C:j=i;·subst C;rw[hi] at ho;cases ho;exact⟨V,hy,H⟩
  have:=ready_mono hj C;rw[h1.1] at this;cases this
 |succ l ih=>
  intro listed a a7 hr hy H R;obtain⟨w0,b0,Z⟩:=R;obtain⟨v0,w1,b4,hg⟩:=hy.some_ b0 (Z.pre hm hr hi);have h1:=H v0 b4 ⟨w1,hg.1,Z.next hi hg⟩;refine⟨fun h=>(by rw[h] at hr;cases hr),fun j hj Y J=>?_⟩;by_cases C:j=i;·subst C;rw[hi] at J;cases J;exact⟨V,hy,H⟩
  obtain⟨a8,d7,b2,b6⟩:=mem_ready.1 hj;rw[J] at b2;cases b2;have b7:∀e∈Y.after,Region.binds md e=true→e.on≠i:=fun e he hb heq=>by(
 have h1:=b6 e he hb;have h0:=(mem_ready.1 hr).1;rw[heq] at h1;rcases Nat.lt_or_ge i listed.size with h'|h';·simp[h'] at h0 h1;rw[h0] at h1;cases h1
 simp[jK h'] at h1)
  obtain⟨a1,a2,a3⟩:=Oper.apart_spec (a7 j Y J C a8 b7);obtain⟨Vj,c2,_⟩:=h1.2 j (ready_mono hj C) Y J;have b3:=(fm.put (fun cs b=>a6 j Y cs b J) a1).1 c2;have c3:=Z.pre hm hj J
  have b1:∀k ok,ops[k]? =some ok→k≠i→(listed.setIfInBounds j true).getD k true=false→
   (∀e∈ok.after,Region.binds md e=true→e.on≠i)→oi.apart ops ok=true:=fun k ok hk c4 b8 c5=>by
   refine a7 k ok hk c4 ?_ c5;by_cases b9:j=k;·subst b9;exact a8
   rw[getD_set_ne true b9] at b8;exact b8
  refine⟨Vj,b3,fun u hu=>ih (listed.setIfInBounds j true) (a.put Y.dst u) b1 (ready_mono hr (Ne.symm C)) ((fm.put (fun cs b=>a6 i oi cs b hi) a3).2 hy) fun v hv=>?_⟩;have comm:=Act.put_comm a v u a2;have key:(∃w,S w∧eU ops T F ((listed.setIfInBounds j true).setIfInBounds i true) ((a.put Y.dst u).put oi.dst v) w)→oZ P md ops S T F L Q l ((listed.setIfInBounds j true).setIfInBounds i true) ((a.put Y.dst u).put oi.dst v):=by(
 rintro⟨w2,c6,c0⟩;rw[←comm,Array.setIfInBounds_comm _ _ C] at c0⊢;have b5:(listed.setIfInBounds i true).getD j true=false:=by rw[getD_set_ne true (Ne.symm C)];exact a8
 have c7:=c0.less hm J b5;obtain⟨V2,c8,c9⟩:=(H v hv ⟨w2,c6,c7⟩).2 j (ready_mono hj C) Y J;have c1:=(fm.put (fun cs b=>a6 j Y cs b J) a1).1 c8;have:=b3.unique c1 b0 c3;subst this;exact c9 u hu)
  cases l with
  |zero=>exact fun R=>key R R
  |succ l=>exact fun R=>key R R
def nG (P:Program)(ops:Array Oper)(S:World→Prop)(T:List Tmp)(F:Tmp→Value→World→Prop)(L:Nat→Option (Value→Prop))(Q:Act→Prop):List Oper→Nat→Act→Prop
 | [],_,a=>Q a
 |o::rest,k,a=>∃V,fm P ops S T F o (L k) a V∧∀v,V v→nG P ops S T F L Q rest (k+1) (a.put o.dst v)
theorem pd {Q:Act→Prop}(hm:lk md ops T)(R:Region.noSelect ops=true):∀(l:List Oper) (k:Nat) (listed:Array Bool) (a:Act),(∀j,l[j]? =ops[k+j]?)→
 Region.lexFrom md ops l.length k listed=true→nG P ops S T F L Q l k a→oZ P md ops S T F L Q l.length listed a
 | [],_,_,_,_,C,h=>fun _=>⟨by simpa [Region.lexFrom] using C,h⟩
 |o::l,k,listed,a,Y,C,h=>by(
 have Z:ops[k]? =some o:=by simpa using(Y 0).symm
 simp only[kI,Region.lexFrom,gE] at C;obtain⟨⟨hr,hf⟩,J⟩:=C;obtain⟨V,hy,hK⟩:=h
 exact xw hm Z (Region.noSelect_spec R) l.length listed a (Region.free_spec Z hf) (by simpa using hr) hy
  fun v hv=>pd hm R l (k+1) _ _ (fun j=>by have:=Y (j+1);simpa [Nat.add_assoc,Nat.add_comm 1 j] using this) J (hK v hv))
theorem vO {listed:Array Bool}(J:listed.size=ops.size)(h:Region.ready md ops listed=[])(R:∀(k:Nat) o,ops[k]? =some o→∀e∈o.after,Region.binds md e=true→e.on<k):∀n k,k≤n→k<ops.size→listed.getD k false=true:=by
 intro n;induction n with
 |zero=>
  intro k Y j;obtain rfl:k=0:=by omega
  cases l:listed.getD 0 true with
  |true=>simpa [J,j] using l
  |false=>have:0∈Region.ready md ops listed:=mem_ready.2 ⟨l,_,Array.getElem?_eq_getElem j,fun e he C=>by have:=R 0 _ (Array.getElem?_eq_getElem j) e he C;omega⟩;rw[h] at this;cases this
 |succ n Z=>
  intro k Y j;cases l:listed.getD k true with
  |true=>simpa [J,j] using l
  |false=>have:k∈Region.ready md ops listed:=mem_ready.2 ⟨l,_,Array.getElem?_eq_getElem j,fun e he C=>by have a1:=R k _ (Array.getElem?_eq_getElem j) e he C;exact Z e.on (by omega) (by omega)⟩;rw[h] at this;cases this
def BH (md:Region.Mode)(ops:Array Oper):Bool:=(List.range ops.size).all fun k=>match ops[k]? with|some o=>o.after.all fun e=>!Region.binds md e||decide (e.on<k)|none=>true
theorem BI (h:BH md ops=true):∀(k:Nat) o,ops[k]? =some o→∀e∈o.after,Region.binds md e=true→e.on<k:=by intro k o j e he l;unfold BH at h;simp only[List.all_eq_true,fg] at h;have:=h k (mV.1 j).1;simp only[j] at this;have:=Array.all_eq_true_iff_forall_mem.1 this e he;simpa [l] using this
theorem eK {id:Nat}{Q:Exit→Act→World→Prop}{a:Act}{w:World}{l:List Oper}(S:World→Prop)(T:List Tmp)(F:Tmp→Value→World→Prop)(L:Nat→Option (Value→Prop))(hm:P.follows .mixedOrders=true)(R:Region.lexB .any l.toArray=true)(hT:ns .any l.toArray T=true)(hA:BH .any l.toArray=true)
 (hS:S w.drew) (h:nG P l.toArray S T F L (fun J=>∀j,S j→(∀t∈T,∀v,J.tmps[t]? =some v→F t v j)→Q .normal J j) l 0 a):(Code.region id l.toArray true).wp P Q a w:=by
 simp only[Region.lexB,gE] at R;have C:=sU hT;refine wp_region_any hm (iD (S:=S) (T:=T) (F:=F) (L:=L) (Q:=fun J=>∀j,S j→(∀t∈T,∀v,J.tmps[t]? =some v→F t v j)→Q .normal J j) C (fun listed J j hz hr Y hf h=>h j Y fun t ht v hv=>?_) _ _ _ _ (by simp) hS (fun k o d Z=>by exfalso;simp only[Array.getD_eq_getD_getElem?,Array.getElem?_replicate] at Z;split at Z<;>simp at Z) ?_)
 ·obtain⟨k,x,hx,hd⟩:=C.2.2 t ht
  exact hf k x t (vO hz hr (BI hA) _ k (cf _) (mV.1 hx).1) hx hd ht v hv
 have:=pd (P:=P) (S:=S) (F:=F) (L:=L) C R.1 l 0 (Array.replicate l.toArray.size false) a (by simp) (by simpa using R.2) h;simpa using this
section steps
variable {Q:Act→Prop} {o:Oper} {rest:List Oper} {k:Nat} {a:Act}
theorem dQ (h:Q a):nG P ops S T F L Q [] k a:=h
theorem bG {v:Value}(hw:Region.wanted o (yielded ops a.tmps)=true)(j:L k=none)(l:∀d,o.dst=some d→d∉T)(h:∀w,S w→ij ops T F o a w→(execOp a.eval o).run P w=.ok (.value v) w)(C:nG P ops S T F L Q rest (k+1) (a.put o.dst v)):nG P ops S T F L Q (o::rest) k a:=
 ⟨_,.inl ⟨hw,j,v,rfl,fun w J R=>⟨h w J R,fun d Y Z=>absurd Z (l d Y)⟩⟩,fun _ e=>by subst e;exact C⟩
theorem gi {V:Value→Prop}(hw:Region.wanted o (yielded ops a.tmps)=true)(j:L k=some V)(h:∀w,S w→ij ops T F o a w→kl P S T F V o w ((execOp a.eval o).run P w))(l:∀v,V v→nG P ops S T F L Q rest (k+1) (a.put o.dst v)):nG P ops S T F L Q (o::rest) k a:=
 ⟨V,.inr (.inl ⟨hw,j,h⟩),l⟩
theorem jf (hw:Region.wanted o (yielded ops a.tmps)=false)(j:∀d,o.dst=some d→d∉T)(l:nG P ops S T F L Q rest (k+1) (a.put o.dst undef)):nG P ops S T F L Q (o::rest) k a:=
 ⟨_,.inr (.inr ⟨hw,rfl,j⟩),fun _ e=>by subst e;exact l⟩
end steps
end
end
theorem At (s:ByteArray)(w:World):Calls prog 86 #[.string s] w fun e j=>e=.returned (.string s)∧w=j:=by go_enter func86,ntmps86;go_wp2;go_ret;exact⟨rfl,rfl⟩
theorem zO (s:ByteArray)(n:Int)(w:World):Calls prog 90 #[.agg #[.string s,.int .i64 n]] w fun e l=>e=.returned (.string s)∧aa All w l:=by have j:=fun o=>(aa.refl All w).alloc o;have C:=oH j;clear j;go_enter func90,ntmps90;go_wp2;go_ret;exact⟨rfl,C.out _⟩
theorem Eb (x s:ByteArray)(g1 g2:Nat)(w:World)(j:al w g1 191 #[.func (.func 86) #[] #[]])(l:al w g2 9 #[.string s]):
 Calls prog 128 #[.string x,.pointer (some ⟨g1,0,none⟩),.pointer (some ⟨g2,0,none⟩)] w fun e o=>e=.returned (.bool (x.toList==s.toList))∧aa All w o:=by
 have C:=j.cell 0;have J:=l.cell 0;simp only[gc] at C J;clear j l;go_enter func128,ntmps128;go_wp2_with fail;go_quiet ((go_at_call 86;exact Calls.quiet_of_same ((At _ _).mono fun _ _ h=>⟨h.1,h.2.symm⟩)));go_wp2;go_ret;exact⟨rfl,kR.drewN _⟩
theorem Ea (x:ByteArray×Int)(s:ByteArray)(g1 g2:Nat)(w:World)(C:al w g1 193 #[.func (.func 90) #[] #[]])(J:al w g2 9 #[.string s]):
 Calls prog 132 #[.agg #[.string x.1,.int .i64 x.2],.pointer (some ⟨g1,0,none⟩),.pointer (some ⟨g2,0,none⟩)] w fun e w'=>e=.returned (.bool (x.1.toList==s.toList))∧aa All w w':=by
 have R:∀wn,aa All (w.alloc (.cells #[.string x.1,.int .i64 x.2] 93)) wn→wn.cell? ⟨g1,0,none⟩=some (.func (.func 90) #[] #[])∧wn.cell? ⟨g2,0,none⟩=some (.string s)∧
  wn.cell? ⟨w.heap.size,0,none⟩=some (.string x.1)∧wn.cell? ⟨w.heap.size,1,none⟩=some (.int .i64 x.2):=fun wn j=>
  ⟨((C.alloc _).kept j trivial).cell 0,((J.alloc _).kept j trivial).cell 0,((al.new _ _ _).kept j trivial).cell 0,((al.new _ _ _).kept j trivial).cell 1⟩
 have Y:=oH R;clear R C J;go_enter func132,ntmps132;go_wp2_with fail;refine eK (aa All (w.alloc (.cells #[.string x.1,.int .i64 x.2] 93))) [] (fun _ _ _=>True) (fun k=>if k=2 then some (fun v=>v=.string x.1) else none) (by kernel_rfl) (by kernel_rfl) (by kernel_rfl) (by kernel_rfl) kR.drew ?_;iterate 2 (refine bG (by rfl) (by rfl) (by intro d l;cases l;decide) (fun wn j Z=>by(obtain⟨e1,e2,e3,e4⟩:=Y.out wn j);go_simp;with_reducible rfl) ?_;simp only[PS])
 refine gi (by rfl) (by rfl) (fun wn j Z=>?_) ?_;·go_simp;simp only[kl];refine(zO _ _ _).mono ?_;rintro e2 wq ⟨rfl,o⟩;exact⟨_,rfl,rfl,j.trans o,fun _ _ _ _=>trivial,fun _ _ _=>trivial⟩
 rintro v rfl;simp only[PS];iterate 3 (refine bG (by rfl) (by rfl) (by intro d l;cases l;decide) (fun wn j Z=>by(obtain⟨e1,e2,e3,e4⟩:=Y.out wn j);go_simp;with_reducible rfl) ?_;simp only[PS])
 refine dQ fun wn j _=>?_;have HK:=oH ((kR.alloc _).trans j);clear j;go_wp2;go_ret;exact⟨rfl,HK.out⟩
theorem FQ (S:Nat→Prop)(v:Value)(l:List ByteArray)(p:ByteArray→Bool)(p1 p2:Value)(w:World)(hv:gB S w v l)
 (hp:∀x wn,aa All w wn→Calls prog 128 #[.string x,p1,p2] wn fun e Z=>e=.returned (.bool (p x))∧aa All wn Z):
 Calls prog 127 #[v,.func (.func 128) #[] #[p1,p2]] w fun e Z=>e=.returned (.int .i64 (gJ p l))∧aa All w Z:=by
 obtain⟨a,cap,rfl,h1,h2,_,h⟩:=hv;unfold maxLen at h2;have H:=J2 h hp;clear h hp;go_enter func127,ntmps127;go_wp2;go_loopg [8] l.length (fun g i wr=>∃k:Nat,k≤l.length∧g=l.length-k∧i=.int .i64 k∧aa All w wr∧∀y∈l.take k,p y=false);·exact⟨0,by omega,by omega,rfl,kR,by simp⟩
 obtain⟨k,hk,rfl,rfl,o,R⟩:=hrel;have Y:=J2 o R;by_cases a1:k<l.length
 ·obtain⟨x,hx⟩:=eG a1;obtain⟨b,off,c,rfl,hs,hc,rfl⟩:=H.1 k x hx;have hd:=o.cell (p:=⟨b,off+k,none⟩) trivial hc;have j:=H.2 x wr o;have HX:=oH hx;clear hc o R hx;cases C:p x with
  |true=>rw[C] at j;have HC:=J2 j C;clear j C;go_wp2_with fail;refine HC.1.mono ?_;rintro e Z ⟨rfl,J⟩;have HK:=oH J;clear J;go_wp2_with fail;go_ret;exact⟨by rw[lL HX.out HC.2 Y.2];rfl,Y.1.trans HK.out⟩
  |false=>
   rw[C] at j;have HC:=J2 j C;clear j C;go_wp2_with fail;refine HC.1.mono ?_;rintro e Z ⟨rfl,J⟩;have HK:=oH J;clear J;go_wp2_with fail;go_roundg (l.length-(k+1));·exact⟨k+1,by omega,rfl,by go_num,Y.1.trans HK.out,pP HX.out HC.2 Y.2⟩
   omega
 obtain rfl:k=l.length:=by omega
 clear o R;go_wp2_with fail;go_ret;exact⟨by rw[lM (by have:=Y.2;rwa [dZ] at this)];rfl,Y.1⟩
theorem FP (S:Nat→Prop)(v:Value)(l:List (ByteArray×Int))(p:ByteArray×Int→Bool)(p1 p2:Value)(w:World)(hv:kh S w v l)
 (hp:∀x wn,aa All w wn→Calls prog 132 #[.agg #[.string x.1,.int .i64 x.2],p1,p2] wn fun e Z=>e=.returned (.bool (p x))∧aa All wn Z):
 Calls prog 131 #[v,.func (.func 132) #[] #[p1,p2]] w fun e Z=>e=.returned (.int .i64 (gJ p l))∧aa All w Z:=by
 obtain⟨a,cap,rfl,h1,h2,_,h⟩:=hv;unfold maxLen at h2;have H:=J2 h hp;clear h hp;go_enter func131,ntmps131;go_wp2;go_loopg [8] l.length (fun g i wr=>∃k:Nat,k≤l.length∧g=l.length-k∧i=.int .i64 k∧aa All w wr∧∀y∈l.take k,p y=false);·exact⟨0,by omega,by omega,rfl,kR,by simp⟩
 obtain⟨k,hk,rfl,rfl,j,R⟩:=hrel;have Y:=J2 j R;by_cases a1:k<l.length
 ·obtain⟨x,hx⟩:=eG a1;obtain⟨b,off,cs,rfl,hs,_,hc,rfl,_⟩:=H.1 k x hx;have hd:=j.cell (p:=⟨b,off+k*2,none⟩) trivial (hc 0 _ rfl);have a6:=j.cell (p:=⟨b,off+k*2+1,none⟩) trivial (hc 1 _ rfl);have o:=H.2 x wr j;have HX:=oH hx;clear hc j R hx;cases C:p x with
  |true=>rw[C] at o;have HC:=J2 o C;clear o C;go_wp2_with fail;refine HC.1.mono ?_;rintro e Z ⟨rfl,J⟩;have HK:=oH J;clear J;go_wp2_with fail;go_ret;exact⟨by rw[lL HX.out HC.2 Y.2];rfl,Y.1.trans HK.out⟩
  |false=>
   rw[C] at o;have HC:=J2 o C;clear o C;go_wp2_with fail;refine HC.1.mono ?_;rintro e Z ⟨rfl,J⟩;have HK:=oH J;clear J;go_wp2_with fail;go_roundg (l.length-(k+1));·exact⟨k+1,by omega,rfl,by go_num,Y.1.trans HK.out,pP HX.out HC.2 Y.2⟩
   omega
 obtain rfl:k=l.length:=by omega
 clear j R;go_wp2_with fail;go_ret;exact⟨by rw[lM (by have:=Y.2;rwa [dZ] at this)];rfl,Y.1⟩
theorem CV (S:Nat→Prop)(v:Value)(l:List ByteArray)(s:ByteArray)(w:World)(C:gB S w v l):
 Calls prog 85 #[v,.func (.func 86) #[] #[],.string s] w fun e J=>e=.returned (.tuple #[.int .i64 (max (gJ (fun x=>x.toList==s.toList) l) 0),.bool (decide (0≤gJ (fun x=>x.toList==s.toList) l))])∧aa All w J:=by
 have j:=FQ S v l (fun x=>x.toList==s.toList) (.pointer (some ⟨w.heap.size,0,none⟩)) (.pointer (some ⟨w.heap.size+1,0,none⟩)) ((w.alloc (.cells #[.func (.func 86) #[] #[]] 191)).alloc (.cells #[.string s] 9))
  (ax.keep (((aa.refl All w).alloc _).alloc _).all C) (fun x wn o=>Eb x s w.heap.size (w.heap.size+1) wn (((al.new _ _ _).alloc _).kept o trivial) ((ac (by simp)).kept o trivial))
 have Y:=kT (fun x:ByteArray=>x.toList==s.toList) l;have R:l.length≤140737488355328:=by obtain⟨a,cap,_,_,_,h,_⟩:=C;omega
 have Z:=oH j;clear j C;generalize gJ (fun x:ByteArray=>x.toList==s.toList) l=r at*;go_enter func85,ntmps85;go_wp2_with fail;refine Z.out.mono ?_;rintro e J ⟨rfl,o⟩;have HK:=oH ((((aa.refl All w).alloc _).alloc _).trans o);clear o;go_wp2_with fail
 all_goals
  go_ret2;exact⟨by first|(rw[Int.max_eq_right (by omega)];rfl)|(rw[Int.max_eq_left (by omega)];rfl),HK.out⟩
theorem qt (S:Nat→Prop)(v:Value)(l:List (ByteArray×Int))(s:ByteArray)(w:World)(C:kh S w v l):
 Calls prog 89 #[v,.func (.func 90) #[] #[],.string s] w fun e J=>e=.returned (.tuple #[.int .i64 (max (gJ (fun x=>x.1.toList==s.toList) l) 0),.bool (decide (0≤gJ (fun x=>x.1.toList==s.toList) l))])∧aa All w J:=by
 have j:=FP S v l (fun x=>x.1.toList==s.toList) (.pointer (some ⟨w.heap.size,0,none⟩)) (.pointer (some ⟨w.heap.size+1,0,none⟩)) ((w.alloc (.cells #[.func (.func 90) #[] #[]] 193)).alloc (.cells #[.string s] 9))
  (aX.keep (((aa.refl All w).alloc _).alloc _).all C) (fun x wn o=>Ea x s w.heap.size (w.heap.size+1) wn (((al.new _ _ _).alloc _).kept o trivial) ((ac (by simp)).kept o trivial))
 have Y:=kT (fun x:ByteArray×Int=>x.1.toList==s.toList) l;have R:l.length≤140737488355328:=by obtain⟨a,cap,_,_,_,h,_⟩:=C;omega
 have Z:=oH j;clear j C;generalize gJ (fun x:ByteArray×Int=>x.1.toList==s.toList) l=r at*;go_enter func89,ntmps89;go_wp2_with fail;refine Z.out.mono ?_;rintro e J ⟨rfl,o⟩;have HK:=oH ((((aa.refl All w).alloc _).alloc _).trans o);clear o;go_wp2_with fail
 all_goals
  go_ret2;exact⟨by first|(rw[Int.max_eq_right (by omega)];rfl)|(rw[Int.max_eq_left (by omega)];rfl),HK.out⟩
def eZ (p:aH)(s:ByteArray):Int:=gJ (fun x=>x.toList==s.toList) p.MZ
def fD (l:List (ByteArray×Int))(s:ByteArray):Int:=gJ (fun x=>x.1.toList==s.toList) l
abbrev lH (r:Int):Value:=.tuple #[.int .i64 (max r 0),.bool (decide (0≤r))]
theorem qB (S:Nat→Prop)(v:Value)(p:aH)(s:ByteArray)(w:World)(R:dJ S w v p):
 Calls prog 61 #[v,.string s] w fun e l=>e=.returned (lH (eZ p s))∧aa All w l:=by
 obtain⟨a,b,c,d,rfl,C,_⟩:=R;have j:=fun o=>CV S a p.MZ s (w.alloc o) (ax.keep ((aa.refl All w).alloc _).all C);have Y:=oH j;have Z:=oH fun o=>(aa.refl All w).alloc o;clear j C;unfold eZ;generalize gJ (fun x:ByteArray=>x.toList==s.toList) p.MZ=r at*;go_enter func61,ntmps61;go_wp2_with (go_at_call 85;refine(Y.out _).mono ?_;rintro e l ⟨rfl,J⟩;have HQ:=oH J;clear J);go_ret2;exact⟨rfl,(Z.out _).trans HQ.out⟩
theorem Dh (S:Nat→Prop)(v:Value)(p:aH)(s:ByteArray)(w:World)(R:dJ S w v p):
 Calls prog 197 #[v,.string s] w fun e l=>e=.returned (lH (fD p.Nb s))∧aa All w l:=by
 obtain⟨a,b,c,d,rfl,_,_,C,_⟩:=R;have j:=fun o=>qt S c p.Nb s (w.alloc o) (aX.keep ((aa.refl All w).alloc _).all C);have Y:=oH j;have Z:=oH fun o=>(aa.refl All w).alloc o;clear j C;unfold fD;generalize gJ (fun x:ByteArray×Int=>x.1.toList==s.toList) p.Nb=r at*;go_enter func197,ntmps197;go_wp2_with (go_at_call 89;refine(Y.out _).mono ?_;rintro e l ⟨rfl,J⟩;have HQ:=oH J;clear J);go_ret2;exact⟨rfl,(Z.out _).trans HQ.out⟩
theorem AJ (S:Nat→Prop)(v:Value)(p:aH)(s:ByteArray)(w:World)(R:dJ S w v p):
 Calls prog 198 #[v,.string s] w fun e l=>e=.returned (lH (fD p.Na s))∧aa All w l:=by
 obtain⟨a,b,c,d,rfl,_,_,_,C,_⟩:=R;have j:=fun o=>qt S d p.Na s (w.alloc o) (aX.keep ((aa.refl All w).alloc _).all C);have Y:=oH j;have Z:=oH fun o=>(aa.refl All w).alloc o;clear j C;unfold fD;generalize gJ (fun x:ByteArray×Int=>x.1.toList==s.toList) p.Na=r at*;go_enter func198,ntmps198;go_wp2_with (go_at_call 89;refine(Y.out _).mono ?_;rintro e l ⟨rfl,J⟩;have HQ:=oH J;clear J);go_ret2;exact⟨rfl,(Z.out _).trans HQ.out⟩
def aB (s:ByteArray):Bool:=dW s&&!jv s
theorem vK (s:ByteArray)(w:World):Calls prog 62 #[.string s] w fun e J=>e=.returned (.bool (aB s))∧aa All w J:=by
 have j:=yL s w;have hw:=fun w=>zC s w;unfold aB;cases h:dW s with
 |true=>rw[h] at j;have o:=J2 j hw;clear j hw h;generalize jv s=b at*;go_enter func62,ntmps62;go_wp2_with (first|(go_at_call 87;refine o.1.mono ?_;rintro e R ⟨rfl,l⟩;have C:=oH l;clear l)|(go_at_call 88;refine(o.2 _).mono ?_;rintro e J ⟨rfl,rfl⟩));go_ret;exact⟨by simp,C.out⟩
 |false=>rw[h] at j;have o:=oH j;clear j hw h;go_enter func62,ntmps62;go_wp2_with (go_at_call 87;refine o.out.mono ?_;rintro e R ⟨rfl,l⟩;have C:=oH l;clear l);go_ret;exact⟨rfl,C.out⟩
end Go.Proofs.YtncdbjponknakaaGreatDoor
