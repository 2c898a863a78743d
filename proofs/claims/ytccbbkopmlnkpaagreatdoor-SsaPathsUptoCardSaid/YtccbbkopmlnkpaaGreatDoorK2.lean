/- Part 3 of the proof (its last part says what is proved). No condition. -/
import Derived.Test.YtccbbkopmlnkpaaGreatDoorK1
namespace Go.Proofs.YtccbbkopmlnkpaaGreatDoor
set_option maxRecDepth 100000
set_option maxHeartbeats 8000000
open Go.RowKit Go.Proofs.Tryz
section
open Go
section
variable {P:Program} {ops:Array Oper} {md:Region.Mode} {S:World→Prop} {T:List Tmp} {F:Tmp→Value→World→Prop} {L:Nat→Option (Value→Prop)}
def dL (ops:Array Oper)(T:List Tmp)(F:Tmp→Value→World→Prop)(o:Oper)(a:Act)(w:World):Prop:=
 ∀t∈o.looksAt ops,t∈T→∀v,a.tmps[t]? =some v→F t v w
def gw (S:World→Prop)(T:List Tmp)(F:Tmp→Value→World→Prop)(o:Oper)(w w':World)(u:Value):Prop:=
 S w'∧(∀t∈T,∀v,F t v w→F t v w')∧∀d,o.dst=some d→d∈T→F d u w'
def mf (P:Program)(S:World→Prop)(T:List Tmp)(F:Tmp→Value→World→Prop)(V:Value→Prop)(o:Oper)(w:World):Result Next→Prop
 |.ok (.value u) w'=>V u∧gw S T F o w w' u
 |.ok (.enter f args) w'=>Calls P f args w' (fun e w''=>∃u,e=.returned u∧V u∧gw S T F o w w'' u)
 |_=>False
def Cr (P:Program)(ops:Array Oper)(S:World→Prop)(T:List Tmp)(F:Tmp→Value→World→Prop)(o:Oper)(a:Act)(v:Value):Prop:=
 ∀w,S w→dL ops T F o a w→(execOp a.eval o).run P w=.ok (.value v) w∧∀d,o.dst=some d→d∈T→F d v w
def en (P:Program)(ops:Array Oper)(S:World→Prop)(T:List Tmp)(F:Tmp→Value→World→Prop)(o:Oper)(lab:Option (Value→Prop))(a:Act)(V:Value→Prop):Prop:=
 (Region.wanted o (yielded ops a.tmps)=true∧lab=none∧∃v,V=(·=v)∧Cr P ops S T F o a v)∨
 (Region.wanted o (yielded ops a.tmps)=true∧lab=some V∧∀w,S w→dL ops T F o a w→mf P S T F V o w ((execOp a.eval o).run P w))∨
 (Region.wanted o (yielded ops a.tmps)=false∧V=(·=undef)∧∀d,o.dst=some d→d∉T)
theorem en.unique {o:Oper}{J:Option (Value→Prop)}{a:Act}{V V':Value→Prop}(h:en P ops S T F o J a V)(h':en P ops S T F o J a V'){w:World}(hw:S w)(hp:dL ops T F o a w):V=V':=by
 rcases h with ⟨I,R,v,rfl,h3⟩|⟨I,R,_⟩|⟨I,rfl,_⟩
 ·rcases h' with ⟨j,C,v',rfl,k3⟩|⟨j,C,_⟩|⟨j,_⟩
  ·have Y:=(h3 w hw hp).1;rw[(k3 w hw hp).1] at Y;iterate 2 injection Y with Y
   subst Y;rfl
  ·rw[R] at C;cases C
  rw[I] at j;cases j
 ·rcases h' with ⟨j,C,_⟩|⟨j,C,_⟩|⟨j,_⟩
  ·rw[R] at C;cases C
  ·rw[R] at C;injection C
  rw[I] at j;cases j
 rcases h' with ⟨j,_⟩|⟨j,_⟩|⟨_,rfl,_⟩;·rw[I] at j;cases j
 ·rw[I] at j;cases j
 rfl
theorem en.some_ {o:Oper}{I:Option (Value→Prop)}{a:Act}{V:Value→Prop}(h:en P ops S T F o I a V){w:World}(hw:S w)(R:dL ops T F o a w):∃u C,V u∧gw S T F o w C u:=by
 rcases h with ⟨_,_,v,rfl,j⟩|⟨_,_,j⟩|⟨_,rfl,j⟩;·exact⟨v,w,rfl,hw,fun _ _ _ h=>h,(j w hw R).2⟩
 ·(
 have h:=j w hw R;generalize (execOp a.eval o).run P w=r at h;cases r with
 |ok n C=>
  cases n<;>simp only[mf] at h
  case value u=>exact⟨u,C,h⟩
  case enter f args=>obtain⟨e,J,_,⟨u,_,Y,hg⟩,_⟩:=h [];exact⟨u,J,Y,hg⟩
 |halt x C=>simp only[mf] at h)
 exact⟨undef,w,rfl,hw,fun _ _ _ h=>h,fun d hd ht=>absurd ht (j d hd)⟩
theorem dL.put {o:Oper}{a:Act}{w:World}{dst:Option Tmp}{u:Value}(h:∀d,dst=some d→d∉o.looksAt ops):dL ops T F o (a.put dst u) w↔dL ops T F o a w:=by
 unfold dL;constructor
 ·intro J t C R v I;refine J t C R v ?_;cases dst with
  |none=>exact I
  |some d=>have j:d≠t:=fun e=>h d rfl (e▸C);simpa [Act.put,Array.getElem?_setIfInBounds_ne j] using I
 intro J t C R v I;refine J t C R v ?_;cases dst with
 |none=>exact I
 |some d=>have j:d≠t:=fun e=>h d rfl (e▸C);simpa [Act.put,Array.getElem?_setIfInBounds_ne j] using I
theorem en.put {o:Oper}{j:Option (Value→Prop)}{a:Act}{V:Value→Prop}{dst:Option Tmp}{u:Value}(C:∀cs b,o.op≠.select cs b)(h:∀d,dst=some d→d∉o.looksAt ops):
 en P ops S T F o j (a.put dst u) V↔en P ops S T F o j a V:=by
 unfold en Cr;rw[execOp_put o C a dst u h,wanted_put o a dst u h];simp only[dL.put h]
def cI (ops:Array Oper)(T:List Tmp)(F:Tmp→Value→World→Prop)(listed:Array Bool)(a:Act)(w:World):Prop:=
 ∀k o d,listed.getD k false=true→ops[k]? =some o→o.dst=some d→d∈T→∀v,a.tmps[d]? =some v→F d v w
def gS (md:Region.Mode)(ops:Array Oper)(T:List Tmp):Prop:=
 (∀(i j:Nat) (x y:Oper) (t:Tmp),ops[i]? =some x→ops[j]? =some y→x.dst=some t→y.dst=some t→t∈T→i=j)∧
 (∀(j:Nat) (y:Oper) (t:Tmp),ops[j]? =some y→t∈y.looksAt ops→t∈T→∃(k:Nat) (x:Oper),ops[k]? =some x∧x.dst=some t∧∃e∈y.after,Region.binds md e=true∧e.on=k)∧
 (∀t∈T,∃(k:Nat) (x:Oper),ops[k]? =some x∧x.dst=some t)
def lO (md:Region.Mode)(ops:Array Oper)(T:List Tmp):Bool:=
 (List.range ops.size).all (fun i=>(List.range ops.size).all fun j=>match ops[i]?,ops[j]? with
  |some x,some y=>(match x.dst,y.dst with|some t,some u=>!(t==u)||!T.contains t||i==j|_,_=>true)
  |_,_=>true)&&
 (List.range ops.size).all (fun j=>match ops[j]? with
  |some y=>(y.looksAt ops).all fun t=>!T.contains t||(List.range ops.size).any fun k=>match ops[k]? with
   |some x=>x.dst==some t&&y.after.any fun e=>Region.binds md e&&e.on==k
   |none=>false
  |none=>true)&&
 T.all fun t=>(List.range ops.size).any fun k=>match ops[k]? with|some x=>x.dst==some t|none=>false
theorem pP (h:lO md ops T=true):gS md ops T:=by
 unfold lO at h;simp only[dX,List.all_eq_true,dW] at h;obtain⟨⟨R,Y⟩,h3⟩:=h;refine⟨fun i j x y t hi C o hy I=>?_,fun j y t C hl I=>?_,fun t I=>?_⟩
 ·have:=R i (kT.1 hi).1 j (kT.1 C).1
  simp only[hi,C,o,hy] at this;simpa [I] using this
 ·have:=Y j (kT.1 C).1;simp only[C,List.all_eq_true] at this;have:=this t hl;simp only[Bool.or_eq_true,Bool.not_eq_true',List.contains_eq_mem,decide_eq_false_iff_not,I,not_true_eq_false,false_or,od,dW] at this;obtain⟨k,hk,h⟩:=this;cases o:ops[k]? with
  |none=>simp[o] at h
  |some x=>simp only[o,dX,cX] at h;obtain⟨hd,he⟩:=h;obtain⟨e,he,J⟩:=Array.any_eq_true'.1 he;simp only[dX,cX] at J;exact⟨k,x,o,hd,e,he,J.1,J.2⟩
 have:=h3 t I;simp only[od,dW] at this;obtain⟨k,_,h⟩:=this;cases o:ops[k]? with
 |none=>simp[o] at h
 |some x=>simp only[o,cX] at h;exact⟨k,x,o,h⟩
theorem cI.pre {listed:Array Bool}{a:Act}{w:World}(hm:gS md ops T)(h:cI ops T F listed a w){j:Nat}{y:Oper}(Y:j∈Region.ready md ops listed)(I:ops[j]? =some y):dL ops T F y a w:=by intro t ht J v hv;obtain⟨k,x,hx,hd,e,he,hb,hk⟩:=hm.2.1 j y t I ht J;obtain⟨_,o,R,C⟩:=mem_ready.1 Y;rw[I] at R;cases R;have:=C e he hb;rw[hk] at this;exact h k x t this hx hd J v hv
theorem Ae {listed:Array Bool}{i k:Nat}(h:(listed.setIfInBounds i true).getD k false=true):k=i∨listed.getD k false=true:=by
 by_cases e:i=k;·exact .inl e.symm
 rw[getD_set_ne false e] at h;exact .inr h
theorem cI.next {listed:Array Bool}{a:Act}{w w':World}{i:Nat}{o:Oper}{u:Value}(h:cI ops T F listed a w)(hi:ops[i]? =some o)(g:gw S T F o w w' u):cI ops T F (listed.setIfInBounds i true) (a.put o.dst u) w':=by
 intro k x d J R hd Y v j;by_cases e:o.dst=some d
 ·have C:v=u:=by(
 rw[e] at j;simp only[Act.put,Array.getElem?_setIfInBounds] at j;split at j
 ·split at j
  ·exact(mB j).symm
  cases j
 rename_i h;exact absurd trivial h)
  subst C;exact g.2.2 d e Y
 have C:a.tmps[d]? =some v:=by(
 cases I:o.dst with
 |none=>rw[I] at j;exact j
 |some d'=>rw[I] at j e;have a1:d'≠d:=fun x=>e (by rw[x]);simpa [Act.put,Array.getElem?_setIfInBounds_ne a1] using j)
 rcases Ae J with rfl|J;·rw[hi] at R;cases R;exact absurd hd e
 exact g.2.1 d Y v (h k x d J R hd Y v C)
theorem cI.less {listed:Array Bool}{a:Act}{w:World}{j:Nat}{y:Oper}{u:Value}(hm:gS md ops T)(hj:ops[j]? =some y)(o:listed.getD j true=false)(h:cI ops T F (listed.setIfInBounds j true) (a.put y.dst u) w):cI ops T F listed a w:=by
 intro k x d I Y hd hT v hv;have J:k≠j:=by
  rintro rfl;rcases Nat.lt_or_ge k listed.size with h'|h';·simp[h'] at I o;rw[I] at o;cases o
  simp[gT h'] at I
 have C:y.dst≠some d:=fun e=>J (hm.1 k j x y d Y hj hd e hT);refine h k x d (getD_set_true I) Y hd hT v ?_;cases R:y.dst with
 |none=>exact hv
 |some d'=>rw[R] at C;have:d'≠d:=fun x=>C (by rw[x]);simpa [Act.put,Array.getElem?_setIfInBounds_ne this] using hv
def oY (P:Program)(md:Region.Mode)(ops:Array Oper)(S:World→Prop)(T:List Tmp)(F:Tmp→Value→World→Prop)(L:Nat→Option (Value→Prop))(Q:Act→Prop):Nat→Array Bool→Act→Prop
 |0,listed,a=>(∃w,S w∧cI ops T F listed a w)→Region.ready md ops listed=[]∧Q a
 |fuel+1,listed,a=>(∃w,S w∧cI ops T F listed a w)→(Region.ready md ops listed=[]→Q a)∧
  ∀i∈Region.ready md ops listed,∀o,ops[i]? =some o→∃V,en P ops S T F o (L i) a V∧∀v,V v→oY P md ops S T F L Q fuel (listed.setIfInBounds i true) (a.put o.dst v)
theorem gH {Q:Act→Prop}{Q':Exit→Act→World→Prop}(hm:gS md ops T)
 (Y:∀listed a w,listed.size=ops.size→Region.ready md ops listed=[]→S w→cI ops T F listed a w→Q a→Q' .normal a w):∀(j:Nat) (listed:Array Bool) (a:Act) (w:World),listed.size=ops.size→S w→cI ops T F listed a w→
 oY P md ops S T F L Q j listed a→wpAny P md ops Q' j listed a w
 |0,listed,a,w,hz,hw,C,h=>⟨(h ⟨w,hw,C⟩).1,Y _ _ _ hz (h ⟨w,hw,C⟩).1 hw C (h ⟨w,hw,C⟩).2⟩
 |j+1,listed,a,w,hz,hw,C,h=>by(
 refine⟨fun h0=>Y _ _ _ hz h0 hw C ((h ⟨w,hw,C⟩).1 h0),fun i hi=>?_⟩;have I:(listed.setIfInBounds i true).size=ops.size:=by rw[Array.size_setIfInBounds];exact hz
 obtain⟨_,o,R,_⟩:=mem_ready.1 hi;obtain⟨V,hy,hn⟩:=(h ⟨w,hw,C⟩).2 i hi o R;have hp:=C.pre hm hi R;unfold wpOp;simp only[R];rcases hy with ⟨h1,_,v,rfl,h3⟩|⟨h1,_,h3⟩|⟨h1,rfl,h3⟩;·rw[am h1];left;obtain⟨J,hd⟩:=h3 w hw hp;unfold Oper.wp;rw[J];exact gH hm Y j _ _ w I hw (C.next R ⟨hw,fun _ _ _ h=>h,hd⟩) (hn v rfl)
 ·(
 rw[am h1];left;have J:=h3 w hw hp;unfold Oper.wp;generalize (execOp a.eval o).run P w=r at J;cases r with
 |ok n w'=>
  cases n<;>simp only[mf] at J<;>simp only[Oper.upon]
  case value u=>exact gH hm Y j _ _ w' I J.2.1 (C.next R J.2) (hn u J.1)
  case enter f args=>(refine J.mono ?_;rintro e a1 ⟨u,rfl,hv,hg⟩;exact gH hm Y j _ _ a1 I hg.1 (C.next R hg) (hn u hv))
 |halt x w'=>simp only[mf] at J)
 rw[ah (by rw[h1];exact lE)];exact gH hm Y j _ _ w I hw (C.next R ⟨hw,fun _ _ _ h=>h,fun d hd ht=>absurd ht (h3 d hd)⟩) (hn undef rfl))
theorem xj {Q:Act→Prop}{i:Nat}{oi:Oper}{V:Value→Prop}(hm:gS md ops T)(hi:ops[i]? =some oi)(a7:∀(j:Nat) (o:Oper) cs b,ops[j]? =some o→o.op≠.select cs b):
 ∀(C:Nat) (listed:Array Bool) (a:Act),
  (∀j Y,ops[j]? =some Y→j≠i→listed.getD j true=false→(∀e∈Y.after,Region.binds md e=true→e.on≠i)→oi.apart ops Y=true)→
  i∈Region.ready md ops listed→en P ops S T F oi (L i) a V→
  (∀v,V v→oY P md ops S T F L Q C (listed.setIfInBounds i true) (a.put oi.dst v))→oY P md ops S T F L Q (C+1) listed a:=by
 intro C;induction C with
 |zero=>
  intro listed a _ hr hy H R;obtain⟨w0,b1,a6⟩:=R;obtain⟨v0,w1,b5,hg⟩:=hy.some_ b1 (a6.pre hm hr hi);have h1:=H v0 b5 ⟨w1,hg.1,a6.next hi hg⟩;refine⟨fun h=>(by rw[h] at hr;cases hr),fun j hj o ho=>?_⟩;by_cases I:j=i;·subst I;rw[hi] at ho;cases ho;exact⟨V,hy,H⟩
  have:=ready_mono hj I;rw[h1.1] at this;cases this
 |succ C ih=>
  intro listed a a8 hr hy H R;obtain⟨w0,b1,a6⟩:=R;obtain⟨v0,w1,b5,hg⟩:=hy.some_ b1 (a6.pre hm hr hi);have h1:=H v0 b5 ⟨w1,hg.1,a6.next hi hg⟩;refine⟨fun h=>(by rw[h] at hr;cases hr),fun j hj Y J=>?_⟩;by_cases I:j=i;·subst I;rw[hi] at J;cases J;exact⟨V,hy,H⟩
  obtain⟨b0,d8,b3,b7⟩:=mem_ready.1 hj;rw[J] at b3;cases b3;have b8:∀e∈Y.after,Region.binds md e=true→e.on≠i:=fun e he hb heq=>by(
 have h1:=b7 e he hb;have h0:=(mem_ready.1 hr).1;rw[heq] at h1;rcases Nat.lt_or_ge i listed.size with h'|h';·simp[h'] at h0 h1;rw[h0] at h1;cases h1
 simp[gT h'] at h1)
  obtain⟨a1,a2,a3⟩:=Oper.apart_spec (a8 j Y J I b0 b8);obtain⟨Vj,c3,_⟩:=h1.2 j (ready_mono hj I) Y J;have b4:=(en.put (fun cs b=>a7 j Y cs b J) a1).1 c3;have c4:=a6.pre hm hj J
  have b2:∀k ok,ops[k]? =some ok→k≠i→(listed.setIfInBounds j true).getD k true=false→
   (∀e∈ok.after,Region.binds md e=true→e.on≠i)→oi.apart ops ok=true:=fun k ok hk c5 b9 c6=>by
   refine a8 k ok hk c5 ?_ c6;by_cases c0:j=k;·subst c0;exact b0
   rw[getD_set_ne true c0] at b9;exact b9
  refine⟨Vj,b4,fun u hu=>ih (listed.setIfInBounds j true) (a.put Y.dst u) b2 (ready_mono hr (Ne.symm I)) ((en.put (fun cs b=>a7 i oi cs b hi) a3).2 hy) fun v hv=>?_⟩;have comm:=Act.put_comm a v u a2;have key:(∃w,S w∧cI ops T F ((listed.setIfInBounds j true).setIfInBounds i true) ((a.put Y.dst u).put oi.dst v) w)→oY P md ops S T F L Q C ((listed.setIfInBounds j true).setIfInBounds i true) ((a.put Y.dst u).put oi.dst v):=by(
 rintro⟨w2,c7,c1⟩;rw[←comm,Array.setIfInBounds_comm _ _ I] at c1⊢;have b6:(listed.setIfInBounds i true).getD j true=false:=by rw[getD_set_ne true (Ne.symm I)];exact b0
 have c8:=c1.less hm J b6;obtain⟨V2,c9,d7⟩:=(H v hv ⟨w2,c7,c8⟩).2 j (ready_mono hj I) Y J;have c2:=(en.put (fun cs b=>a7 j Y cs b J) a1).1 c9;have:=b4.unique c2 b1 c4;subst this;exact d7 u hu)
  cases C with
  |zero=>exact fun R=>key R R
  |succ C=>exact fun R=>key R R
def nu (P:Program)(ops:Array Oper)(S:World→Prop)(T:List Tmp)(F:Tmp→Value→World→Prop)(L:Nat→Option (Value→Prop))(Q:Act→Prop):List Oper→Nat→Act→Prop
 | [],_,a=>Q a
 |o::rest,k,a=>∃V,en P ops S T F o (L k) a V∧∀v,V v→nu P ops S T F L Q rest (k+1) (a.put o.dst v)
theorem oZ {Q:Act→Prop}(hm:gS md ops T)(J:Region.noSelect ops=true):∀(l:List Oper) (k:Nat) (listed:Array Bool) (a:Act),(∀j,l[j]? =ops[k+j]?)→
 Region.lexFrom md ops l.length k listed=true→nu P ops S T F L Q l k a→oY P md ops S T F L Q l.length listed a
 | [],_,_,_,_,C,h=>fun _=>⟨by simpa [Region.lexFrom] using C,h⟩
 |o::l,k,listed,a,R,C,h=>by(
 have Y:ops[k]? =some o:=by simpa using(R 0).symm
 simp only[lD,Region.lexFrom,dX] at C;obtain⟨⟨hr,hf⟩,I⟩:=C;obtain⟨V,hy,hK⟩:=h
 exact xj hm Y (Region.noSelect_spec J) l.length listed a (Region.free_spec Y hf) (by simpa using hr) hy
  fun v hv=>oZ hm J l (k+1) _ _ (fun j=>by have:=R (j+1);simpa [Nat.add_assoc,Nat.add_comm 1 j] using this) I (hK v hv))
theorem vH {listed:Array Bool}(J:listed.size=ops.size)(h:Region.ready md ops listed=[])(R:∀(k:Nat) o,ops[k]? =some o→∀e∈o.after,Region.binds md e=true→e.on<k):∀n k,k≤n→k<ops.size→listed.getD k false=true:=by
 intro n;induction n with
 |zero=>
  intro k Y j;obtain rfl:k=0:=by omega
  cases C:listed.getD 0 true with
  |true=>simpa [J,j] using C
  |false=>have:0∈Region.ready md ops listed:=mem_ready.2 ⟨C,_,Array.getElem?_eq_getElem j,fun e he I=>by have:=R 0 _ (Array.getElem?_eq_getElem j) e he I;omega⟩;rw[h] at this;cases this
 |succ n ih=>
  intro k Y j;cases C:listed.getD k true with
  |true=>simpa [J,j] using C
  |false=>have:k∈Region.ready md ops listed:=mem_ready.2 ⟨C,_,Array.getElem?_eq_getElem j,fun e he I=>by have a1:=R k _ (Array.getElem?_eq_getElem j) e he I;exact ih e.on (by omega) (by omega)⟩;rw[h] at this;cases this
def BC (md:Region.Mode)(ops:Array Oper):Bool:=(List.range ops.size).all fun k=>match ops[k]? with|some o=>o.after.all fun e=>!Region.binds md e||decide (e.on<k)|none=>true
theorem BD (h:BC md ops=true):∀(k:Nat) o,ops[k]? =some o→∀e∈o.after,Region.binds md e=true→e.on<k:=by intro k o j e he C;unfold BC at h;simp only[List.all_eq_true,dW] at h;have:=h k (kT.1 j).1;simp only[j] at this;have:=Array.all_eq_true_iff_forall_mem.1 this e he;simpa [C] using this
theorem ow {id:Nat}{Q:Exit→Act→World→Prop}{a:Act}{w:World}{l:List Oper}(S:World→Prop)(T:List Tmp)(F:Tmp→Value→World→Prop)(L:Nat→Option (Value→Prop))(hm:P.follows .mixedOrders=true)(J:Region.lexB .any l.toArray=true)(hT:lO .any l.toArray T=true)(hA:BC .any l.toArray=true)
 (hS:S w.drew) (h:nu P l.toArray S T F L (fun I=>∀j,S j→(∀t∈T,∀v,I.tmps[t]? =some v→F t v j)→Q .normal I j) l 0 a):(Code.region id l.toArray true).wp P Q a w:=by
 simp only[Region.lexB,dX] at J;have C:=pP hT;refine wp_region_any hm (gH (S:=S) (T:=T) (F:=F) (L:=L) (Q:=fun I=>∀j,S j→(∀t∈T,∀v,I.tmps[t]? =some v→F t v j)→Q .normal I j) C (fun listed I j hz hr R hf h=>h j R fun t ht v hv=>?_) _ _ _ _ (by simp) hS (fun k o d Y=>by exfalso;simp only[Array.getD_eq_getD_getElem?,Array.getElem?_replicate] at Y;split at Y<;>simp at Y) ?_)
 ·obtain⟨k,x,hx,hd⟩:=C.2.2 t ht
  exact hf k x t (vH hz hr (BD hA) _ k (bj _) (kT.1 hx).1) hx hd ht v hv
 have:=oZ (P:=P) (S:=S) (F:=F) (L:=L) C J.1 l 0 (Array.replicate l.toArray.size false) a (by simp) (by simpa using J.2) h;simpa using this
section steps
variable {Q:Act→Prop} {o:Oper} {rest:List Oper} {k:Nat} {a:Act}
theorem gq (h:Q a):nu P ops S T F L Q [] k a:=h
theorem cO {v:Value}(hw:Region.wanted o (yielded ops a.tmps)=true)(j:L k=none)(C:∀d,o.dst=some d→d∉T)(h:∀w,S w→dL ops T F o a w→(execOp a.eval o).run P w=.ok (.value v) w)(I:nu P ops S T F L Q rest (k+1) (a.put o.dst v)):nu P ops S T F L Q (o::rest) k a:=
 ⟨_,.inl ⟨hw,j,v,rfl,fun w J R=>⟨h w J R,fun d Y hT=>absurd hT (C d Y)⟩⟩,fun _ e=>by subst e;exact I⟩
theorem kt {V:Value→Prop}(hw:Region.wanted o (yielded ops a.tmps)=true)(j:L k=some V)(h:∀w,S w→dL ops T F o a w→mf P S T F V o w ((execOp a.eval o).run P w))(C:∀v,V v→nu P ops S T F L Q rest (k+1) (a.put o.dst v)):nu P ops S T F L Q (o::rest) k a:=
 ⟨V,.inr (.inl ⟨hw,j,h⟩),C⟩
theorem uf (hw:Region.wanted o (yielded ops a.tmps)=false)(j:∀d,o.dst=some d→d∉T)(C:nu P ops S T F L Q rest (k+1) (a.put o.dst undef)):nu P ops S T F L Q (o::rest) k a:=
 ⟨_,.inr (.inr ⟨hw,rfl,j⟩),fun _ e=>by subst e;exact C⟩
end steps
end
end
theorem Aa (s:ByteArray)(w:World):Calls prog 133 #[.string s] w fun e j=>e=.returned (.string s)∧w=j:=by go_enter func133,ntmps133;go_wp2;go_ret;exact⟨rfl,rfl⟩
theorem zE (s:ByteArray)(n:Int)(w:World):Calls prog 156 #[.agg #[.string s,.int .i64 n]] w fun e C=>e=.returned (.string s)∧aa All w C:=by have j:=fun o=>(aa.refl All w).alloc o;have I:=oH j;clear j;go_enter func156,ntmps156;go_wp2;go_ret;exact⟨rfl,I.out _⟩
theorem DX (x s:ByteArray)(g1 g2:Nat)(w:World)(j:al w g1 220 #[.func (.func 133) #[] #[]])(o:al w g2 9 #[.string s]):
 Calls prog 199 #[.string x,.pointer (some ⟨g1,0,none⟩),.pointer (some ⟨g2,0,none⟩)] w fun e C=>e=.returned (.bool (x.toList==s.toList))∧aa All w C:=by
 have I:=j.cell 0;have J:=o.cell 0;simp only[gc] at I J;clear j o;go_enter func199,ntmps199;go_wp2_with fail;go_quiet ((go_at_call 133;exact Calls.quiet_of_same ((Aa _ _).mono fun _ _ h=>⟨h.1,h.2.symm⟩)));go_wp2;go_ret;exact⟨rfl,kR.drewN _⟩
theorem DW (x:ByteArray×Int)(s:ByteArray)(g1 g2:Nat)(w:World)(I:al w g1 235 #[.func (.func 156) #[] #[]])(J:al w g2 9 #[.string s]):
 Calls prog 213 #[.agg #[.string x.1,.int .i64 x.2],.pointer (some ⟨g1,0,none⟩),.pointer (some ⟨g2,0,none⟩)] w fun e w'=>e=.returned (.bool (x.1.toList==s.toList))∧aa All w w':=by
 have R:∀wn,aa All (w.alloc (.cells #[.string x.1,.int .i64 x.2] 228)) wn→wn.cell? ⟨g1,0,none⟩=some (.func (.func 156) #[] #[])∧wn.cell? ⟨g2,0,none⟩=some (.string s)∧
  wn.cell? ⟨w.heap.size,0,none⟩=some (.string x.1)∧wn.cell? ⟨w.heap.size,1,none⟩=some (.int .i64 x.2):=fun wn j=>
  ⟨((I.alloc _).kept j trivial).cell 0,((J.alloc _).kept j trivial).cell 0,((al.new _ _ _).kept j trivial).cell 0,((al.new _ _ _).kept j trivial).cell 1⟩
 have Y:=oH R;clear R I J;go_enter func213,ntmps213;go_wp2_with fail;refine ow (aa All (w.alloc (.cells #[.string x.1,.int .i64 x.2] 228))) [] (fun _ _ _=>True) (fun k=>if k=2 then some (fun v=>v=.string x.1) else none) (by kernel_rfl) (by kernel_rfl) (by kernel_rfl) (by kernel_rfl) kR.drew ?_;iterate 2 (refine cO (by rfl) (by rfl) (by intro d o;cases o;decide) (fun wn j hp=>by(obtain⟨e1,e2,e3,e4⟩:=Y.out wn j);go_simp;with_reducible rfl) ?_;simp only[PS])
 refine kt (by rfl) (by rfl) (fun wn j hp=>?_) ?_;·go_simp;simp only[mf];refine(zE _ _ _).mono ?_;rintro e2 wq ⟨rfl,C⟩;exact⟨_,rfl,rfl,j.trans C,fun _ _ _ _=>trivial,fun _ _ _=>trivial⟩
 rintro v rfl;simp only[PS];iterate 3 (refine cO (by rfl) (by rfl) (by intro d o;cases o;decide) (fun wn j hp=>by(obtain⟨e1,e2,e3,e4⟩:=Y.out wn j);go_simp;with_reducible rfl) ?_;simp only[PS])
 refine gq fun wn j _=>?_;have HK:=oH ((kR.alloc _).trans j);clear j;go_wp2;go_ret;exact⟨rfl,HK.out⟩
theorem FK (S:Nat→Prop)(v:Value)(l:List ByteArray)(p:ByteArray→Bool)(p1 p2:Value)(w:World)(hv:cC S w v l)
 (hp:∀x wn,aa All w wn→Calls prog 199 #[.string x,p1,p2] wn fun e Y=>e=.returned (.bool (p x))∧aa All wn Y):
 Calls prog 198 #[v,.func (.func 199) #[] #[p1,p2]] w fun e Y=>e=.returned (.int .i64 (gt p l))∧aa All w Y:=by
 obtain⟨a,cap,rfl,h1,h2,_,h⟩:=hv;unfold maxLen at h2;have H:=J2 h hp;clear h hp;go_enter func198,ntmps198;go_wp2;go_loopg [8] l.length (fun g i wr=>∃k:Nat,k≤l.length∧g=l.length-k∧i=.int .i64 k∧aa All w wr∧∀y∈l.take k,p y=false);·exact⟨0,by omega,by omega,rfl,kR,by simp⟩
 obtain⟨k,hk,rfl,rfl,o,J⟩:=hrel;have R:=J2 o J;by_cases a1:k<l.length
 ·obtain⟨x,hx⟩:=eG a1;obtain⟨b,off,c,rfl,hs,hc,rfl⟩:=H.1 k x hx;have hd:=o.cell (p:=⟨b,off+k,none⟩) trivial hc;have j:=H.2 x wr o;have HX:=oH hx;clear hc o J hx;cases C:p x with
  |true=>rw[C] at j;have HC:=J2 j C;clear j C;go_wp2_with fail;refine HC.1.mono ?_;rintro e Y ⟨rfl,I⟩;have HK:=oH I;clear I;go_wp2_with fail;go_ret;exact⟨by rw[pJ HX.out HC.2 R.2];rfl,R.1.trans HK.out⟩
  |false=>
   rw[C] at j;have HC:=J2 j C;clear j C;go_wp2_with fail;refine HC.1.mono ?_;rintro e Y ⟨rfl,I⟩;have HK:=oH I;clear I;go_wp2_with fail;go_roundg (l.length-(k+1));·exact⟨k+1,by omega,rfl,by go_num,R.1.trans HK.out,Cc HX.out HC.2 R.2⟩
   omega
 obtain rfl:k=l.length:=by omega
 clear o J;go_wp2_with fail;go_ret;exact⟨by rw[qs (by have:=R.2;rwa [jx] at this)];rfl,R.1⟩
theorem FJ (S:Nat→Prop)(v:Value)(l:List (ByteArray×Int))(p:ByteArray×Int→Bool)(p1 p2:Value)(w:World)(hv:mc S w v l)
 (hp:∀x wn,aa All w wn→Calls prog 213 #[.agg #[.string x.1,.int .i64 x.2],p1,p2] wn fun e Y=>e=.returned (.bool (p x))∧aa All wn Y):
 Calls prog 212 #[v,.func (.func 213) #[] #[p1,p2]] w fun e Y=>e=.returned (.int .i64 (gt p l))∧aa All w Y:=by
 obtain⟨a,cap,rfl,h1,h2,_,h⟩:=hv;unfold maxLen at h2;have H:=J2 h hp;clear h hp;go_enter func212,ntmps212;go_wp2;go_loopg [8] l.length (fun g i wr=>∃k:Nat,k≤l.length∧g=l.length-k∧i=.int .i64 k∧aa All w wr∧∀y∈l.take k,p y=false);·exact⟨0,by omega,by omega,rfl,kR,by simp⟩
 obtain⟨k,hk,rfl,rfl,j,J⟩:=hrel;have R:=J2 j J;by_cases a1:k<l.length
 ·obtain⟨x,hx⟩:=eG a1;obtain⟨b,off,cs,rfl,hs,_,hc,rfl,_⟩:=H.1 k x hx;have hd:=j.cell (p:=⟨b,off+k*2,none⟩) trivial (hc 0 _ rfl);have a6:=j.cell (p:=⟨b,off+k*2+1,none⟩) trivial (hc 1 _ rfl);have o:=H.2 x wr j;have HX:=oH hx;clear hc j J hx;cases C:p x with
  |true=>rw[C] at o;have HC:=J2 o C;clear o C;go_wp2_with fail;refine HC.1.mono ?_;rintro e Y ⟨rfl,I⟩;have HK:=oH I;clear I;go_wp2_with fail;go_ret;exact⟨by rw[pJ HX.out HC.2 R.2];rfl,R.1.trans HK.out⟩
  |false=>
   rw[C] at o;have HC:=J2 o C;clear o C;go_wp2_with fail;refine HC.1.mono ?_;rintro e Y ⟨rfl,I⟩;have HK:=oH I;clear I;go_wp2_with fail;go_roundg (l.length-(k+1));·exact⟨k+1,by omega,rfl,by go_num,R.1.trans HK.out,Cc HX.out HC.2 R.2⟩
   omega
 obtain rfl:k=l.length:=by omega
 clear j J;go_wp2_with fail;go_ret;exact⟨by rw[qs (by have:=R.2;rwa [jx] at this)];rfl,R.1⟩
theorem CQ (S:Nat→Prop)(v:Value)(l:List ByteArray)(s:ByteArray)(w:World)(C:cC S w v l):
 Calls prog 132 #[v,.func (.func 133) #[] #[],.string s] w fun e I=>e=.returned (.tuple #[.int .i64 (max (gt (fun x=>x.toList==s.toList) l) 0),.bool (decide (0≤gt (fun x=>x.toList==s.toList) l))])∧aa All w I:=by
 have j:=FK S v l (fun x=>x.toList==s.toList) (.pointer (some ⟨w.heap.size,0,none⟩)) (.pointer (some ⟨w.heap.size+1,0,none⟩)) ((w.alloc (.cells #[.func (.func 133) #[] #[]] 220)).alloc (.cells #[.string s] 9))
  (ap.keep (((aa.refl All w).alloc _).alloc _).all C) (fun x wn o=>DX x s w.heap.size (w.heap.size+1) wn (((al.new _ _ _).alloc _).kept o trivial) ((ac (by simp)).kept o trivial))
 have R:=nN (fun x:ByteArray=>x.toList==s.toList) l;have J:l.length≤140737488355328:=by obtain⟨a,cap,_,_,_,h,_⟩:=C;omega
 have Y:=oH j;clear j C;generalize gt (fun x:ByteArray=>x.toList==s.toList) l=r at*;go_enter func132,ntmps132;go_wp2_with fail;refine Y.out.mono ?_;rintro e I ⟨rfl,o⟩;have HK:=oH ((((aa.refl All w).alloc _).alloc _).trans o);clear o;go_wp2_with fail
 all_goals
  go_ret2;exact⟨by first|(rw[Int.max_eq_right (by omega)];rfl)|(rw[Int.max_eq_left (by omega)];rfl),HK.out⟩
theorem kX (S:Nat→Prop)(v:Value)(l:List (ByteArray×Int))(s:ByteArray)(w:World)(C:mc S w v l):
 Calls prog 155 #[v,.func (.func 156) #[] #[],.string s] w fun e I=>e=.returned (.tuple #[.int .i64 (max (gt (fun x=>x.1.toList==s.toList) l) 0),.bool (decide (0≤gt (fun x=>x.1.toList==s.toList) l))])∧aa All w I:=by
 have j:=FJ S v l (fun x=>x.1.toList==s.toList) (.pointer (some ⟨w.heap.size,0,none⟩)) (.pointer (some ⟨w.heap.size+1,0,none⟩)) ((w.alloc (.cells #[.func (.func 156) #[] #[]] 235)).alloc (.cells #[.string s] 9))
  (cG.keep (((aa.refl All w).alloc _).alloc _).all C) (fun x wn o=>DW x s w.heap.size (w.heap.size+1) wn (((al.new _ _ _).alloc _).kept o trivial) ((ac (by simp)).kept o trivial))
 have R:=nN (fun x:ByteArray×Int=>x.1.toList==s.toList) l;have J:l.length≤140737488355328:=by obtain⟨a,cap,_,_,_,h,_⟩:=C;omega
 have Y:=oH j;clear j C;generalize gt (fun x:ByteArray×Int=>x.1.toList==s.toList) l=r at*;go_enter func155,ntmps155;go_wp2_with fail;refine Y.out.mono ?_;rintro e I ⟨rfl,o⟩;have HK:=oH ((((aa.refl All w).alloc _).alloc _).trans o);clear o;go_wp2_with fail
 all_goals
  go_ret2;exact⟨by first|(rw[Int.max_eq_right (by omega)];rfl)|(rw[Int.max_eq_left (by omega)];rfl),HK.out⟩
def cH (p:aI)(s:ByteArray):Int:=gt (fun x=>x.toList==s.toList) p.Ng
def gA (l:List (ByteArray×Int))(s:ByteArray):Int:=gt (fun x=>x.1.toList==s.toList) l
abbrev gM (r:Int):Value:=.tuple #[.int .i64 (max r 0),.bool (decide (0≤r))]
theorem gi (S:Nat→Prop)(v:Value)(p:aI)(s:ByteArray)(w:World)(R:gR S w v p):
 Calls prog 84 #[v,.string s] w fun e C=>e=.returned (gM (cH p s))∧aa All w C:=by
 obtain⟨a,b,c,d,rfl,I,_⟩:=R;have j:=fun o=>CQ S a p.Ng s (w.alloc o) (ap.keep ((aa.refl All w).alloc _).all I);have Y:=oH j;have HK:=oH fun o=>(aa.refl All w).alloc o;clear j I;unfold cH;generalize gt (fun x:ByteArray=>x.toList==s.toList) p.Ng=r at*;go_enter func84,ntmps84;go_wp2_with (go_at_call 132;refine(Y.out _).mono ?_;rintro e C ⟨rfl,J⟩;have HQ:=oH J;clear J);go_ret2;exact⟨rfl,(HK.out _).trans HQ.out⟩
theorem Dd (S:Nat→Prop)(v:Value)(p:aI)(s:ByteArray)(w:World)(R:gR S w v p):
 Calls prog 234 #[v,.string s] w fun e C=>e=.returned (gM (gA p.Ni s))∧aa All w C:=by
 obtain⟨a,b,c,d,rfl,_,_,I,_⟩:=R;have j:=fun o=>kX S c p.Ni s (w.alloc o) (cG.keep ((aa.refl All w).alloc _).all I);have Y:=oH j;have HK:=oH fun o=>(aa.refl All w).alloc o;clear j I;unfold gA;generalize gt (fun x:ByteArray×Int=>x.1.toList==s.toList) p.Ni=r at*;go_enter func234,ntmps234;go_wp2_with (go_at_call 155;refine(Y.out _).mono ?_;rintro e C ⟨rfl,J⟩;have HQ:=oH J;clear J);go_ret2;exact⟨rfl,(HK.out _).trans HQ.out⟩
theorem An (S:Nat→Prop)(v:Value)(p:aI)(s:ByteArray)(w:World)(R:gR S w v p):
 Calls prog 235 #[v,.string s] w fun e C=>e=.returned (gM (gA p.Nh s))∧aa All w C:=by
 obtain⟨a,b,c,d,rfl,_,_,_,I,_⟩:=R;have j:=fun o=>kX S d p.Nh s (w.alloc o) (cG.keep ((aa.refl All w).alloc _).all I);have Y:=oH j;have HK:=oH fun o=>(aa.refl All w).alloc o;clear j I;unfold gA;generalize gt (fun x:ByteArray×Int=>x.1.toList==s.toList) p.Nh=r at*;go_enter func235,ntmps235;go_wp2_with (go_at_call 155;refine(Y.out _).mono ?_;rintro e C ⟨rfl,J⟩;have HQ:=oH J;clear J);go_ret2;exact⟨rfl,(HK.out _).trans HQ.out⟩
def ax (s:ByteArray):Bool:=gE s&&!fu s
theorem qD (s:ByteArray)(w:World):Calls prog 104 #[.string s] w fun e J=>e=.returned (.bool (ax s))∧aa All w J:=by
 have j:=sS s w;have hw:=fun w=>tZ s w;unfold ax;cases h:gE s with
 |true=>rw[h] at j;have C:=J2 j hw;clear j hw h;generalize fu s=b at*;go_enter func104,ntmps104;go_wp2_with (first|(go_at_call 153;refine C.1.mono ?_;rintro e R ⟨rfl,o⟩;have I:=oH o;clear o)|(go_at_call 154;refine(C.2 _).mono ?_;rintro e J ⟨rfl,rfl⟩));go_ret;exact⟨by simp,I.out⟩
 |false=>rw[h] at j;have C:=oH j;clear j hw h;go_enter func104,ntmps104;go_wp2_with (go_at_call 153;refine C.out.mono ?_;rintro e R ⟨rfl,o⟩;have I:=oH o;clear o);go_ret;exact⟨rfl,I.out⟩
end Go.Proofs.YtccbbkopmlnkpaaGreatDoor
