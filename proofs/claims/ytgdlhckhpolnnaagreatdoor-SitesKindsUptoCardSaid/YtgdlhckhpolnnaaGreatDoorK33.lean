/- Part 34 of the proof (its last part says what is proved). No condition. -/
import Derived.Test.YtgdlhckhpolnnaaGreatDoorK13
namespace Go.Proofs.YtgdlhckhpolnnaaGreatDoor
set_option maxRecDepth 100000
set_option maxHeartbeats 8000000
open Go.RowKit Go.Proofs.Tryz
section
open Go
section
variable {P:Program} {ops:Array Oper} {md:Region.Mode} {S:Bool→World→Prop} {c:Nat} {T:List Tmp} {F:Tmp→Value→World→Prop} {L:Nat→Option (Value→Prop)} {D:Nat→Bool} {X:List PanicEntry→World→Prop}
def wv (P:Program)(ops:Array Oper)(S:Bool→World→Prop)(c:Nat)(T:List Tmp)(F:Tmp→Value→World→Prop)(X:List PanicEntry→World→Prop)(k:Nat)(o:Oper)(j:Option (Value→Prop))(d:Bool)(a:Act)(V:Value→Prop):Prop:=
 (Region.wanted o (yielded ops a.tmps)=true∧j=none∧d=false∧k≠c∧∃v,V=(·=v)∧∀b,Iq P ops (S b) T F o a v)∨
 (Region.wanted o (yielded ops a.tmps)=true∧j=some V∧(∀w,S (k !=c) w→ij ops T F o a w→xG P (S true) T F X d V o w ((execOp a.eval o).run P w))∧∀w,S (k !=c) w→ij ops T F o a w→∃u w',V u∧om (S true) T F o w w' u)∨
 (Region.wanted o (yielded ops a.tmps)=false∧d=false∧k≠c∧V=(·=undef)∧∀d,o.dst=some d→d∉T)
theorem wv.unique {k:Nat}{o:Oper}{J:Option (Value→Prop)}{d b:Bool}{a:Act}{V V':Value→Prop}(h:wv P ops S c T F X k o J d a V)(h':wv P ops S c T F X k o J d a V'){w:World}(hw:S b w)(hp:ij ops T F o a w):V=V':=by
 rcases h with ⟨I,R,_,_,v,rfl,h3⟩|⟨I,R,_⟩|⟨I,_,_,rfl,_⟩
 ·rcases h' with ⟨j,C,_,_,v',rfl,k3⟩|⟨j,C,_⟩|⟨j,_⟩
  ·have Y:=(h3 b w hw hp).1;rw[(k3 b w hw hp).1] at Y;iterate 2 injection Y with Y
   subst Y;rfl
  ·rw[R] at C;cases C
  rw[I] at j;cases j
 ·rcases h' with ⟨j,C,_⟩|⟨j,C,_⟩|⟨j,_⟩
  ·rw[R] at C;cases C
  ·rw[R] at C;injection C
  rw[I] at j;cases j
 rcases h' with ⟨j,_⟩|⟨j,_⟩|⟨_,_,_,rfl,_⟩;·rw[I] at j;cases j
 ·rw[I] at j;cases j
 rfl
theorem wv.some_ {k:Nat}{o:Oper}{j:Option (Value→Prop)}{d b:Bool}{a:Act}{V:Value→Prop}(h:wv P ops S c T F X k o j d a V)(R:j≠none→b=(k !=c)){w:World}(hw:S b w)(J:ij ops T F o a w):∃u w',V u∧om (S (b||k==c)) T F o w w' u:=by
 rcases h with ⟨_,_,_,I,v,rfl,C⟩|⟨_,Y,_,C⟩|⟨_,_,I,rfl,C⟩
 ·rw[bE.2 I,Bool.or_false]
  exact⟨v,w,rfl,hw,fun _ _ _ h=>h,(C b w hw J).2⟩
 ·have e:=R (by rw[Y];simp)
  subst e;rw[show((k !=c)||k==c)=true by unfold bne;cases (k==c)<;>rfl];exact C w hw J
 rw[bE.2 I,Bool.or_false];exact⟨undef,w,rfl,hw,fun _ _ _ h=>h,fun d hd ht=>absurd ht (C d hd)⟩
theorem wv.put {k:Nat}{o:Oper}{j:Option (Value→Prop)}{b:Bool}{a:Act}{V:Value→Prop}{dst:Option Tmp}{u:Value}(C:∀cs b,o.op≠.select cs b)(h:∀d,dst=some d→d∉o.looksAt ops):
 wv P ops S c T F X k o j b (a.put dst u) V↔wv P ops S c T F X k o j b a V:=by
 unfold wv Iq;rw[execOp_put o C a dst u h,wanted_put o a dst u h];simp only[ij.put h]
theorem wv.single {k:Nat}{o:Oper}{j:Option (Value→Prop)}{d:Bool}{a:Act}{V:Value→Prop}(h:wv P ops S c T F X k o j d a V)(hl:j=none∨Region.wanted o (yielded ops a.tmps)=false){u I:Value}(hu:V u)(C:V I):u=I:=by
 rcases h with ⟨_,_,_,_,v,rfl,_⟩|⟨R,J,_⟩|⟨_,_,_,rfl,_⟩;·exact hu.trans C.symm
 ·rcases hl with hl|hl
  ·rw[hl] at J;cases J
  rw[R] at hl;cases hl
 exact hu.trans C.symm
def ph (c:Nat)(listed:Array Bool):Bool:=listed.getD c false
theorem US {listed:Array Bool}{i:Nat}(h:listed.getD i true=false):ph c (listed.setIfInBounds i true)=(ph c listed||i==c):=by
 unfold ph;by_cases e:i=c
 ·subst e
  have hi:i<listed.size:=by(
 rcases Nat.lt_or_ge i listed.size with h'|h';·exact h'
 simp[jK h'] at h)
  simp[hi]
 rw[getD_set_ne false e,bE.2 e,Bool.or_false]
def Wu (md:Region.Mode)(ops:Array Oper)(c n:Nat)(L:Nat→Option (Value→Prop)):Prop:=∀listed,HeadInv md ops n listed→∀k,k<n→k∈Region.ready md ops listed→L k≠none→ph c listed=(k !=c)
def UB (P:Program)(md:Region.Mode)(ops:Array Oper)(S:Bool→World→Prop)(c:Nat)(T:List Tmp)(F:Tmp→Value→World→Prop)(L:Nat→Option (Value→Prop))(D:Nat→Bool)(X:List PanicEntry→World→Prop)(n:Nat)(Q:Array Bool→Act→Prop):Nat→Bool→Array Bool→Act→Prop
 |0,dead,listed,a=>(∃w,S (ph c listed) w∧eU ops T F listed a w)→(∀j∈Region.ready md ops listed,n≤j)∧(dead=false→Q listed a)
 |fuel+1,dead,listed,a=>(∃w,S (ph c listed) w∧eU ops T F listed a w)→Region.ready md ops listed≠[]∧
  ∀i∈Region.ready md ops listed,i<n∧∀o,ops[i]? =some o→∃V,wv P ops S c T F X i o (L i) (D i) a V∧∀v,V v→UB P md ops S c T F L D X n Q fuel (dead||D i) (listed.setIfInBounds i true) (a.put o.dst v)
theorem Ag {n g:Nat}{Q:Array Bool→Act→Prop}{Q':Exit→Act→World→Prop}{J:Act→Prop}(hm:lk md ops T)(hR:∀listed,HeadInv md ops n listed→∀i,i<n→listed.getD i true=false→∀j∈Region.ready md ops listed,j<n)(hW:Wu md ops c n L)(hJ:∀(i:Nat) (o:Oper) (a:Act) (v:Value),ops[i]? =some o→J a→J (a.put o.dst v))(hX:∀a ch w,X ch w→J a→Q' (.panic ch) a w)
 (hQ:∀listed a w,S (ph c listed) w→eU ops T F listed a w→Q listed a→wpAny P md ops Q' g listed a w):∀(fuel:Nat) (listed:Array Bool) (a:Act) (w:World),HeadInv md ops n listed→J a→S (ph c listed) w→eU ops T F listed a w→
 UB P md ops S c T F L D X n Q fuel false listed a→wpAny P md ops Q' (fuel+g) listed a w
 |0,listed,a,w,_,_,hw,Y,h=>by rw[cN];exact hQ _ _ _ hw Y ((h ⟨w,hw,Y⟩).2 rfl)
 |fuel+1,listed,a,w,inv,h0,hw,Y,h=>by(
 rw[show fuel+1+g=(fuel+g)+1 by omega];refine⟨fun h1=>absurd h1 (h ⟨w,hw,Y⟩).1,fun i hi=>?_⟩;obtain⟨a6,o,R,_⟩:=mem_ready.1 hi;obtain⟨a1,a7⟩:=(h ⟨w,hw,Y⟩).2 i hi;obtain⟨V,hy,hn⟩:=a7 o R;have hp:=Y.pre hm hi R;have C:=US (c:=c) a6;have I:=inv.set hi a1;unfold wpOp;simp only[R];rcases hy with ⟨h1,_,hd,hk,v,rfl,h3⟩|⟨h1,hl,h3,_⟩|⟨h1,hd,hk,rfl,h3⟩;·rw[ap h1];left;obtain⟨hr,a8⟩:=h3 _ w hw hp;unfold Oper.wp;rw[hr];have:=hn v rfl;rw[hd] at this;rw[bE.2 hk,Bool.or_false] at C;exact Ag hm hR hW hJ hX hQ fuel _ _ w I (hJ _ _ _ _ R h0) (by rw[C];exact hw) (Y.next (S:=S (ph c listed)) R ⟨hw,fun _ _ _ h=>h,a8⟩) this
 ·(
 rw[ap h1];left;have hb:=hW listed inv i a1 hi (by rw[hl];simp);rw[hb] at hw;rw[hb,show((i !=c)||i==c)=true by unfold bne;cases (i==c)<;>rfl] at C;have hr:=h3 w hw hp;unfold Oper.wp;generalize (execOp a.eval o).run P w=r at hr;cases r with
 |ok nx w'=>
  cases nx<;>simp only[xG] at hr<;>simp only[Oper.upon]
  case value u=>(have:=hn u hr.2.1;rw[hr.1] at this;exact Ag hm hR hW hJ hX hQ fuel _ _ w' I (hJ _ _ _ _ R h0) (by rw[C];exact hr.2.2.1) (Y.next R hr.2.2) this)
  case skip=>(have:=hn undef hr.2.1;rw[hr.1] at this;exact Ag hm hR hW hJ hX hQ fuel _ _ w' I (hJ _ _ _ _ R h0) (by rw[C];exact hr.2.2.1) (Y.next R hr.2.2) this)
  case enter f args=>(
 refine hr.mono ?_;rintro e b0 (⟨hd,u,rfl,hv,hg⟩|⟨ch,rfl,hx⟩)
 ·have:=hn u hv
  rw[hd] at this;exact Ag hm hR hW hJ hX hQ fuel _ _ b0 I (hJ _ _ _ _ R h0) (by rw[C];exact hg.1) (Y.next R hg) this
 exact hX _ _ _ hx h0)
 |halt x w'=>simp only[xG] at hr)
 rw[ae (by rw[h1];exact oG)];have:=hn undef rfl;rw[hd] at this;rw[bE.2 hk,Bool.or_false] at C;exact Ag hm hR hW hJ hX hQ fuel _ _ w I (hJ _ _ _ _ R h0) (by rw[C];exact hw) (Y.next (S:=S (ph c listed)) R ⟨hw,fun _ _ _ h=>h,fun d hd ht=>absurd ht (h3 d hd)⟩) this)
theorem VB {n:Nat}{Q:Array Bool→Act→Prop}{i:Nat}{oi:Oper}{V:Value→Prop}(hm:lk md ops T)(hW:Wu md ops c n L)(hi:ops[i]? =some oi)(a8:∀(j:Nat) (o:Oper) cs b,ops[j]? =some o→o.op≠.select cs b)
 (hR:∀listed,HeadInv md ops n listed→∀i,i<n→listed.getD i true=false→∀j∈Region.ready md ops listed,j<n) (Y:i<n):
 ∀(fuel:Nat) (dead:Bool) (listed:Array Bool) (a:Act),HeadInv md ops n listed→
  (∀j oj,ops[j]? =some oj→j≠i→listed.getD j true=false→(∀e∈oj.after,Region.binds md e=true→e.on≠i)→oi.apart ops oj=true)→
  i∈Region.ready md ops listed→wv P ops S c T F X i oi (L i) (D i) a V→
  (∀v,V v→UB P md ops S c T F L D X n Q fuel (dead||D i) (listed.setIfInBounds i true) (a.put oi.dst v))→UB P md ops S c T F L D X n Q (fuel+1) dead listed a:=by
 intro fuel;induction fuel with
 |zero=>
  intro dead listed a inv _ hr hy H R;obtain⟨w0,b2,a6⟩:=R;have C:=(mem_ready.1 hr).1;obtain⟨v0,w1,b3,hg⟩:=hy.some_ (fun hl=>hW listed inv i Y hr hl) b2 (a6.pre hm hr hi);have h1:=H v0 b3 ⟨w1,by rw[US C];exact hg.1,a6.next hi hg⟩;refine⟨fun h=>(by rw[h] at hr;cases hr),fun j hj=>⟨hR _ inv i Y C j hj,fun o ho=>?_⟩⟩;by_cases I:j=i;·subst I;rw[hi] at ho;cases ho;exact⟨V,hy,H⟩
  have h2:=h1.1 j (ready_mono hj I);have h3:=hR _ inv i Y C j hj;omega
 |succ fuel ih=>
  intro dead listed a inv b0 hr hy H R;obtain⟨w0,b2,a6⟩:=R;have C:=(mem_ready.1 hr).1;obtain⟨v0,w1,b3,hg⟩:=hy.some_ (fun hl=>hW listed inv i Y hr hl) b2 (a6.pre hm hr hi);have h1:=H v0 b3 ⟨w1,by rw[US C];exact hg.1,a6.next hi hg⟩;refine⟨fun h=>(by rw[h] at hr;cases hr),fun j hj=>⟨hR _ inv i Y C j hj,fun oj J=>?_⟩⟩;have c7:=hR _ inv i Y C j hj;by_cases I:j=i;·subst I;rw[hi] at J;cases J;exact⟨V,hy,H⟩
  obtain⟨a7,e3,b5,b9⟩:=mem_ready.1 hj;rw[J] at b5;cases b5;have c0:∀e∈oj.after,Region.binds md e=true→e.on≠i:=fun e he hb heq=>by have h1:=b9 e he hb;rw[heq,getD_both C] at h1;cases h1
  obtain⟨a1,a2,a3⟩:=Oper.apart_spec (b0 j oj J I a7 c0);obtain⟨Vj,c8,_⟩:=(h1.2 j (ready_mono hj I)).2 oj J;have b6:=(wv.put (fun cs b=>a8 j oj cs b J) a1).1 c8;have c9:=a6.pre hm hj J
  have b4:∀k ok,ops[k]? =some ok→k≠i→(listed.setIfInBounds j true).getD k true=false→
   (∀e∈ok.after,Region.binds md e=true→e.on≠i)→oi.apart ops ok=true:=fun k ok hk d7 C d8=>by
   refine b0 k ok hk d7 ?_ d8;by_cases c1:j=k;·subst c1;exact a7
   rw[getD_set_ne true c1] at C;exact C
  refine⟨Vj,b6,fun u hu=>ih (dead||D j) (listed.setIfInBounds j true) (a.put oj.dst u) (inv.set hj c7) b4 (ready_mono hr (Ne.symm I)) ((wv.put (fun cs b=>a8 i oi cs b hi) a3).2 hy) fun v hv=>?_⟩;have comm:=Act.put_comm a v u a2;have key:(∃w,S (ph c ((listed.setIfInBounds j true).setIfInBounds i true)) w∧eU ops T F ((listed.setIfInBounds j true).setIfInBounds i true) ((a.put oj.dst u).put oi.dst v) w)→UB P md ops S c T F L D X n Q fuel (dead||D j||D i) ((listed.setIfInBounds j true).setIfInBounds i true) ((a.put oj.dst u).put oi.dst v):=by(
 rintro⟨w2,b7,c4⟩;rw[←comm,Array.setIfInBounds_comm _ _ I] at c4⊢;rw[Array.setIfInBounds_comm _ _ I] at b7;have b1:(listed.setIfInBounds i true).getD j true=false:=by rw[getD_set_ne true (Ne.symm I)];exact a7
 have d9:=c4.less hm J b1;have c5:∃w,S (ph c (listed.setIfInBounds i true)) w∧eU ops T F (listed.setIfInBounds i true) (a.put oi.dst v) w:=by(
 by_cases b8:j=c
 ·have e0:L i=none∨Region.wanted oi (yielded ops a.tmps)=false:=by(
 by_cases hl:L i=none;·exact .inl hl
 exfalso;have h5:=hW listed inv i Y hr hl;have h6:ph c listed=false:=by unfold ph;rw[←b8];exact getD_both a7
 have h7:(i !=c)=true:=by rw[bne_iff_ne];exact fun e=>I (b8.trans e.symm)
 rw[h6,h7] at h5;cases h5)
  have ev:=hy.single e0 hv b3;subst ev;exact⟨w1,by rw[US C];exact hg.1,a6.next hi hg⟩
 refine⟨w2,?_,d9⟩;rw[US b1,bE.2 b8,Bool.or_false] at b7;exact b7)
 obtain⟨V2,e1,e2⟩:=((H v hv c5).2 j (ready_mono hj I)).2 oj J;have c6:=(wv.put (fun cs b=>a8 j oj cs b J) a1).1 e1;have:=b6.unique c6 b2 c9;subst this;rw[Bool.or_right_comm];exact e2 u hu)
  cases fuel with
  |zero=>exact fun R=>key R R
  |succ fuel=>exact fun R=>key R R
def WE (P:Program)(ops:Array Oper)(S:Bool→World→Prop)(c:Nat)(T:List Tmp)(F:Tmp→Value→World→Prop)(L:Nat→Option (Value→Prop))(D:Nat→Bool)(X:List PanicEntry→World→Prop)(Q:Act→Prop):List Oper→Nat→Bool→Act→Prop
 | [],_,dead,a=>dead=false→Q a
 |o::rest,k,dead,a=>∃V,wv P ops S c T F X k o (L k) (D k) a V∧∀v,V v→WE P ops S c T F L D X Q rest (k+1) (dead||D k) (a.put o.dst v)
theorem UZ {n g:Nat}{Q:Act→Prop}(hm:lk md ops T)(hW:Wu md ops c n L)(hs:Region.noSelect ops=true)
 (hR:∀listed,HeadInv md ops n listed→∀i,i<n→listed.getD i true=false→∀j∈Region.ready md ops listed,j<n):
 ∀(l:List Oper) (k:Nat) (dead:Bool) (listed:Array Bool) (a:Act),(∀j,j<l.length→l[j]? =ops[k+j]?)→k+l.length=n→HeadInv md ops n listed→(∀j,j<k→listed.getD j false=true)→
 Region.lexHead md ops g l.length k listed=true→WE P ops S c T F L D X Q l k dead a→
 UB P md ops S c T F L D X n (fun C a'=>Region.seqB md ops g n C=true∧(∀j,j<n→C.getD j false=true)∧Q a') l.length dead listed a
 | [],k,dead,listed,a,_,hk,_,hd,I,h=>by
  have:k=n:=by simpa using hk
  subst this;have I:Region.seqB md ops g k listed=true:=by simpa [Region.lexHead] using I
  exact fun _=>⟨seqB_ready I,fun J=>⟨I,hd,h J⟩⟩
 |o::l,k,dead,listed,a,hl,hk,inv,hd,I,h=>by(
 have h0:ops[k]? =some o:=by simpa using(hl 0 (by simp)).symm
 simp only[kI,Region.lexHead,gE] at I;obtain⟨⟨hr,hf⟩,a1⟩:=I;have R:k<n:=by simp only[kI] at hk;omega
 have Y:k∈Region.ready md ops listed:=by simpa using hr
 obtain⟨V,hy,hK⟩:=h;have a6:k<listed.size:=by rw[inv.size];exact(mV.1 h0).1
 refine VB hm hW h0 (Region.noSelect_spec hs) hR R l.length dead listed a inv (Region.free_spec h0 hf) Y hy
  fun v hv=>UZ hm hW hs hR l (k+1) _ _ _ (fun j hj=>by have:=hl (j+1) (by simp;omega);simpa [Nat.add_assoc,Nat.add_comm 1 j] using this) (by simp only[kI] at hk;omega) (inv.set Y R) (fun j hj=>?_) a1 (hK v hv)
 by_cases e:k=j;·subst e;simp[a6]
 rw[getD_set_ne false e];exact hd j (by omega))
def VV (md:Region.Mode)(ops:Array Oper)(c:Nat):Nat→Nat→Bool
 |0,_=>false
 |f+1,k=>match ops[k]? with
  |some o=>o.after.any fun e=>Region.binds md e&&(e.on==c||VV md ops c f e.on)
  |none=>false
theorem UY {n:Nat}{listed:Array Bool}(inv:HeadInv md ops n listed):∀(f k:Nat) (o:Oper),ops[k]? =some o→VV md ops c f k=true→(∀e∈o.after,Region.binds md e=true→listed.getD e.on false=true)→listed.getD c false=true
 |0,_,_,_,h,_=>by cases h
 |f+1,k,o,R,h,C=>by(
 unfold VV at h;simp only[R] at h;obtain⟨e,he,h⟩:=Array.any_eq_true'.1 h;simp only[gE,Bool.or_eq_true,cy] at h;have J:=C e he h.1;rcases h.2 with j|j;·rw[←j];exact J
 cases I:ops[e.on]? with
 |none=>cases f with
  |zero=>cases j
  |succ f=>unfold VV at j;rw[I] at j;cases j
 |some Y=>exact UY inv f e.on Y I j (inv.closed _ _ I J))
def Xw (md:Region.Mode)(ops:Array Oper)(c:Nat)(M:List Nat):Bool:=M.all fun k=>VV md ops c ops.size k
theorem Xx {n:Nat}{M:List Nat}(I:∀k,L k≠none→k=c∨k∈M)(h:Xw md ops c M=true):Wu md ops c n L:=by
 intro listed inv k hk hr hl;obtain⟨C,o,J,j⟩:=mem_ready.1 hr;by_cases e:k=c
 ·subst e
  rw[bne_self_eq_false];exact getD_both C
 have R:=(I k hl).resolve_left e;have Y:=List.all_eq_true.1 h k R;rw[show(k !=c)=true by rw[bne_iff_ne];exact e];exact UY inv _ k o J Y j
theorem hH {id:Nat}{Q:Exit→Act→World→Prop}{a:Act}{w:World}{l:List Oper}(n c:Nat)(M:List Nat)(S:Bool→World→Prop)(T:List Tmp)(F:Tmp→Value→World→Prop)(L:Nat→Option (Value→Prop))(D:Nat→Bool)(X:List PanicEntry→World→Prop)
 (hm:P.follows .mixedOrders=true) (hB:yZ .any l.toArray n=true) (hT:ns .any l.toArray T=true) (b1:pM l.toArray T n=true) (hM:∀k,L k≠none→k=c∨k∈M) (b2:Xw .any l.toArray c M=true) (b3:c<n)
 (hS:S false w.drew) (hX:∀C ch w,X ch w→C.defers=a.defers→Q (.panic ch) C w) (h:WE P l.toArray S c T F L D X (fun C=>∀w',S true w'→(∀t∈T,∀v,C.tmps[t]? =some v→F t v w')→wpList P l.toArray Q (l.drop n) C w') (l.take n) 0 false a):(Code.region id l.toArray true).wp P Q a w:=by
 simp only[yZ,gE,Bool.or_eq_true,cy,qal] at hB;obtain⟨⟨a1,hn⟩,a6⟩:=hB;have a7:=sU hT;have hW:=Xx (n:=n) hM b2;have b8:n≤l.length:=by rcases hn with h|⟨⟨h,_⟩,_⟩<;>simp at h<;>omega
 have I:(l.take n).length=n:=by simp;omega
 have a8:(l.drop n).length=l.toArray.size-n:=by simp
 have Y:HeadInv .any l.toArray n (Array.replicate l.toArray.size false):=
  ⟨by simp,fun j oj _ hl=>(by rw[getD_replicate_false] at hl;cases hl),fun t _ ht=>getD_in (by simpa using ht) (getD_replicate_false _ _)⟩
 have hR:∀listed,HeadInv .any l.toArray n listed→∀i,i<n→listed.getD i true=false→∀j∈Region.ready .any l.toArray listed,j<n:=by(
 intro listed inv i hi b4 j hj;obtain⟨_,oj,b5,_⟩:=mem_ready.1 hj;have b9:=(mV.1 b5).1;rcases hn with h|⟨⟨h,hs⟩,hc⟩;·omega
 rcases Nat.lt_or_ge j n with h'|h';·exact h'
 exact absurd hj (tail_waits hs hc h inv _ i rfl hi b4 j h'))
 have H:=UZ (md:=.any) (g:=l.toArray.size-n) a7 hW a1 hR (l.take n) 0 false _ a (fun j hj=>by
  have b6:j<n:=by rw[I] at hj;exact hj
  simp[b6]) (by simpa using I) Y (fun j hj=>by omega) (by rw[I];exact a6) h
 refine wp_region_any hm ?_;have:=Ag (Q':=Q) (J:=fun C=>C.defers=a.defers) (g:=l.toArray.size-n) a7 hR hW (fun _ _ _ _ _ h=>(tA _ _ _).trans h) hX (fun listed C w' b0 hf hL=>by
  have R:∀t∈T,∀v,C.tmps[t]? =some v→F t v w':=fun t ht v hv=>by(
 have h1:=List.all_eq_true.1 b1 t ht;obtain⟨k,hk,h2⟩:=mW.1 h1;cases hx:l.toArray[k]? with
 |none=>simp[hx] at h2
 |some x=>simp only[hx,cy] at h2;exact hf k x t (hL.2.1 k (fg.1 hk)) hx h2 ht v hv)
  have b7:ph c listed=true:=hL.2.1 c b3;rw[b7] at b0;have:=wpAny_of_seq (md:=.any) (Q':=Q) (l.drop n) n listed C w' (fun j=>by simp[List.getElem?_drop]) (by rw[a8];exact hL.1) (hL.2.2 w' b0 R);rwa [a8] at this) _ _ _ w.drew Y rfl (by rw[show ph c (Array.replicate l.toArray.size false)=false from getD_replicate_false _ _];exact hS) (fun k o d hk=>by exfalso;rw[getD_replicate_false] at hk;cases hk) H
 rw[I,show n+(l.toArray.size-n)=l.toArray.size by omega] at this;exact this
section steps
variable {Q:Act→Prop} {o:Oper} {rest:List Oper} {k:Nat} {dead:Bool} {a:Act}
theorem TE (h:Q a):WE P ops S c T F L D X Q [] k dead a:=fun _=>h
theorem cg {v:Value}(hw:Region.wanted o (yielded ops a.tmps)=true)(hl:L k=none)(j:D k=false)(C:k≠c)(I:∀d,o.dst=some d→d∉T)(h:∀b w,S b w→ij ops T F o a w→(execOp a.eval o).run P w=.ok (.value v) w)(J:WE P ops S c T F L D X Q rest (k+1) dead (a.put o.dst v)):WE P ops S c T F L D X Q (o::rest) k dead a:=
 ⟨_,.inl ⟨hw,hl,j,C,v,rfl,fun b w R Y=>⟨h b w R Y,fun d j hT=>absurd hT (I d j)⟩⟩,fun _ e=>by subst e;rw[j,Bool.or_false];exact J⟩
theorem UC {V:Value→Prop}(hw:Region.wanted o (yielded ops a.tmps)=true)(hl:L k=some V)(C:D k=false)(h:∀w,S (k !=c) w→ij ops T F o a w→xG P (S true) T F X false V o w ((execOp a.eval o).run P w))(j:∀w,S (k !=c) w→ij ops T F o a w→∃u w',V u∧om (S true) T F o w w' u)(I:∀v,V v→WE P ops S c T F L D X Q rest (k+1) dead (a.put o.dst v)):WE P ops S c T F L D X Q (o::rest) k dead a:=
 ⟨V,.inr (.inl ⟨hw,hl,by rw[C];exact h,j⟩),fun v J=>by rw[C,Bool.or_false];exact I v J⟩
theorem OY {v:Value}{C:Act}(h:∀b w,S b w→ij ops T F o a w→(execOp a.eval o).run P w=.ok (.value v) w)(I:WE P ops S c T F L D X Q rest (k+1) dead C)(hw:Region.wanted o (yielded ops a.tmps)=true:=by rfl)(hl:L k=none:=by rfl)(j:D k=false:=by rfl)(J:k≠c:=by decide)(R:∀d,o.dst=some d→d∉T:=by intro d j;cases j;decide)(Y:a.put o.dst v=C:=by conv=>lhs;simp only[Act.put,List.setIfInBounds_toArray,List.set_cons_zero,List.set_cons_succ]):WE P ops S c T F L D X Q (o::rest) k dead a:=cg hw hl j J R h (by rw[Y];exact I)
end steps
end
end
section
open Go Go.RowKit
section
variable {P:Program}
theorem NO (w:World)(base:Nat)(t ty e:TypeId)(i:TypeInfo)(z:Value)(size bytes:Nat)(ht:P.underlying t=some (.slice e))(hi:P.info? e=some i)(hz:i.zero=some z)
 (b1:i.size=size) (b7:i.bytes=bytes) (v:Value) (n:Nat) (xs:List Value) (o:w.ownsRow base e size v n xs)
 (b off c:Nat) (news:List Value) (hl:news.length=size) (hA:∀(j:Nat) u,news[j]? =some u→w.cell? ⟨b,off+j,none⟩=some u)
 (h1:∀u∈news,u.oneCell'=true) (b8:n+1≤maxLen) (a1:(n+1)*bytes≤140737488355328)
 (a7:0<size) (v':Value) (w':World) (hr:(Builtin.append_ #[t,t] ty #[v,.slice (some ⟨b,off,none⟩) 1 c]).run P w=.ok v' w'):
 w'.ownsRow base e size v n xs∧∀u ys,w.ownsRow base e size u (n+1) ys→u.ownBlock=v.ownBlock→w'.ownsRow base e size u (n+1) (xs++news):=by
 have b4:∀(j:Nat) u,news[j]? =some u→w.cell? ((⟨b,off,none⟩:Addr).add j)=some u:=fun j u hu=>by(
 have:=hA j u hu;unfold Addr.add;split;·rename_i h;subst h;exact this
 exact this)
 subst b1;subst b7;have I:(xs++news).length=(n+1)*i.size:=by rw[iQ,o.1,hl,Nat.succ_mul]
 rcases o.2 with hn|⟨g,cap,cur,rfl,hb,hh,hc,hm,a6,b2⟩
 ·refine⟨⟨o.1,.inl hn⟩,fun u _ hu e=>?_⟩
  rcases hu.2 with ⟨_,h0⟩|⟨g2,C,a8,rfl,_⟩;·omega
  rw[hn.1] at e;cases e
 by_cases J:n+1≤cap;·(
 have b5:n*i.size+news.length≤cur.size:=by rw[hl,a6,←Nat.succ_mul];exact Nat.mul_le_mul_right _ J
 have h2:=run_append_room (P:=P) w t ty e i ht hi g n cap cur hh ⟨b,off,none⟩ 1 c news (by rw[hl,Nat.one_mul]) b4 h1 J b5;rw[hr] at h2;injection h2 with _ h2;subst h2;have hlen:(cur.toList.take (n*i.size)).length=n*i.size:=by rw[fN,Array.length_toList];omega
 have b0:=setRow_heap w g cur (cur.toList.take (n*i.size)++news++cur.toList.drop (n*i.size+news.length)).toArray e _ hh;have R:(cur.toList.take (n*i.size)++news++cur.toList.drop (n*i.size+news.length)).toArray.size=cap*i.size:=by simp only[List.size_toArray,iQ,hlen,List.length_drop,Array.length_toList];omega
 refine⟨⟨o.1,.inr ⟨g,cap,_,rfl,hb,b0,hc,hm,R,?_⟩⟩,fun u _ hu eu=>⟨I,?_⟩⟩
 ·rw[jM]
  show((cur.toList.take (n*i.size))++_).take (n*i.size)=xs;rw[List.take_append_of_le_length (eE hlen.symm),oF (eE hlen)];exact b2
 rcases hu.2 with ⟨_,h0⟩|⟨g2,C,a8,rfl,b9,Y,c0,c1,b3,c4⟩;·omega
 cases eu;rw[hh] at Y;cases Y;have b6:C=cap:=Nat.eq_of_mul_eq_mul_right a7 (b3.symm.trans a6);subst b6;refine .inr ⟨g,C,_,rfl,hb,b0,J,hm,R,?_⟩;rw[b2];show((xs++news)++_).take ((n+1)*i.size)=xs++news;rw[List.take_append_of_le_length (eE I.symm),oF (eE I)])
 have holds:∀(j:Nat) u,xs[j]? =some u→w.cell? ((⟨g,0,none⟩:Addr).add j)=some u:=o.cells (g:=g) rfl;have h2:=run_append_grow (P:=P) w t ty e i z ht hi hz ⟨g,0,none⟩ n cap xs o.1 holds ⟨b,off,none⟩ 1 c news (by rw[hl,Nat.one_mul]) b4 (by omega) (by unfold maxLen at b8;omega) (growslice_fits (by omega) a1);rw[hr] at h2;injection h2 with _ h2;subst h2;refine⟨⟨o.1,.inr ⟨g,cap,cur,rfl,hb,al.alloc (w:=w.drew) (t:=e) (cs:=cur) hh _,hc,hm,a6,b2⟩⟩,fun u _ hu eu=>?_⟩;rcases hu.2 with ⟨_,h0⟩|⟨g2,C,a8,rfl,b9,Y,c0,c1,b3,c4⟩;·omega
 cases eu;rw[hh] at Y;cases Y;have b6:C=cap:=Nat.eq_of_mul_eq_mul_right a7 (b3.symm.trans a6);omega
def DL (W:World)(base:Nat)(e:TypeId)(size:Nat)(v:Value)(n:Nat)(xs:List Value)(w:World):Prop:=aa (fun b=>v.ownBlock≠some b) W w∧w.ownsRow base e size v n xs
def Oa (u:Value):Prop:=∃g,u=.slice (some ⟨g,0,none⟩) 1 1
def NT (n:Nat)(u:Value):Prop:=∃A c,u=.slice A (n+1) c
variable {ops:Array Oper} {X:List PanicEntry→World→Prop} {W:World} {base:Nat} {e:TypeId} {size:Nat} {v:Value} {n:Nat} {xs cells:List Value} {tb ta:Tmp} {L:Nat→Option (Value→Prop)} {D:Nat→Bool} {Q:Act→Prop} {o:Oper} {rest:List Oper} {k:Nat} {dead:Bool} {a:Act}
theorem DL.first {w:World}(h:w.ownsRow base e size v n xs):DL w base e size v n xs w.drew:=⟨kR.drew,be h ((aa.refl All w).drew) fun _ _=>trivial⟩
end
end
section
open Go Go.RowKit
section
variable {P:Program}
theorem VJ {c i j:Nat}(x y z:Option (Value→Prop)):∀k,(if k=c then x else if k=i then y else if k=j then z else none)≠none→k=c∨k∈[i,j]:=by
 intro k h;by_cases o:k=c;·exact .inl o
 right;by_cases C:k=i;·rw[C];simp
 by_cases I:k=j;·rw[I];simp
 rw[ae o,ae C,ae I] at h;exact absurd rfl h
def SY (W:World)(E:Nat→Prop)(base:Nat)(e:TypeId)(size:Nat)(v:Value)(n:Nat)(xs:List Value)(PS:Bool→World→Prop)(b:Bool)(w:World):Prop:=
 aa (fun i=>v.ownBlock≠some i∧E i) W w∧w.ownsRow base e size v n xs∧PS b w
def FY (W:World)(E:Nat→Prop)(base:Nat)(e:TypeId)(size:Nat)(v:Value)(n:Nat)(xs:List Value)(o:Value→List Value)(C:Value→World→Prop)(I J t:Tmp)(u:Value)(w:World):Prop:=
 if t=I then∃g y,u=.slice (some ⟨g,0,none⟩) 1 1∧W.heap.size≤g∧al w g e (o y).toArray∧C y w
 else if t=J then C u w
 else∃y j,w.ownsRow base e size u (n+1) (xs++o y)∧C y j∧W.heap.size≤j.heap.size∧aa (fun b=>v.ownBlock≠some b∧E b) j w∧(u.ownBlock=v.ownBlock∨∀g,u.ownBlock=some g→j.heap.size≤g)
structure Vb (W:World)(E:Nat→Prop)(v:Value)(PS:Bool→World→Prop)(C:Value→World→Prop):Prop where
 big:∀i,W.heap.size≤i→E i
 own:∀b,v.ownBlock=some b→E b∧b<W.heap.size
 ps:∀b w w',aa (fun i=>v.ownBlock≠some i) w w'→PS b w→PS b w'
 c:∀y w w',aa (fun i=>v.ownBlock≠some i∧E i) w w'→C y w→C y w'
variable {ops:Array Oper} {X:List PanicEntry→World→Prop} {W:World} {E:Nat→Prop} {base:Nat} {e:TypeId} {size:Nat} {v:Value} {n:Nat} {xs:List Value} {PS:Bool→World→Prop} {cl:Value→List Value} {C:Value→World→Prop} {tb tc ta:Tmp} {L:Nat→Option (Value→Prop)} {D:Nat→Bool} {Q:Act→Prop} {o:Oper} {rest:List Oper} {k c:Nat} {dead:Bool} {a:Act}
theorem SY.first {w:World}(h:w.ownsRow base e size v n xs)(j:PS false w.drew):SY w E base e size v n xs PS false w.drew:=⟨kR.drew,be h ((aa.refl All w).drew) fun _ _=>trivial,j⟩
theorem FY.keep (G:Vb W E v PS C){w w':World}(k:aa All w w')(t:Tmp)(u:Value)(h:FY W E base e size v n xs cl C tb tc t u w):FY W E base e size v n xs cl C tb tc t u w':=by
 unfold FY at h⊢;split
 ·rename_i e;rw[ap e] at h
  obtain⟨g,y,j,I,J,R⟩:=h;exact⟨g,y,j,I,J.kept k trivial,G.c _ _ _ k.all R⟩
 rename_i e;rw[ae e] at h;split
 ·rename_i e;rw[ap e] at h
  exact G.c _ _ _ k.all h
 rename_i e;rw[ae e] at h;obtain⟨y,Y,j,I,J,R,h5⟩:=h;exact⟨y,Y,be j k fun _ _=>trivial,I,J,R.trans k.all,h5⟩
theorem Hy (G:Vb W E v PS C){V:Value→Prop}(hw:Region.wanted o (yielded ops a.tmps)=true)(hl:L c=some V)(hd:D c=false)(I:o.dst=some tc)(a6:tc≠tb)
 (h:∀w,SY W E base e size v n xs PS false w→∃f args,(execOp a.eval o).run P w=.ok (.enter f args) w∧Calls P f args w fun e w'=>∃u,e=.returned u∧V u∧aa E w w'∧PS true w'∧C u w')
 (R:∀u,V u→WE P ops (SY W E base e size v n xs PS) c [tc,tb,ta] (FY W E base e size v n xs cl C tb tc) L D X Q rest (c+1) dead (a.put (some tc) u)):
 WE P ops (SY W E base e size v n xs PS) c [tc,tb,ta] (FY W E base e size v n xs cl C tb tc) L D X Q (o::rest) c dead a:=by
 have good:∀w w' u,SY W E base e size v n xs PS false w→aa E w w'→PS true w'→C u w'→om (SY W E base e size v n xs PS true) [tc,tb,ta] (FY W E base e size v n xs cl C tb tc) o w w' u:=by(
 intro w w' u j R hp Y;have hK:aa (fun i=>v.ownBlock≠some i∧E i) w w':=R.mono fun i hi=>hi.2;refine⟨⟨j.1.trans hK,be j.2.1 R fun b hb=>(G.own b hb).1,hp⟩,fun t _ u hu=>?_,fun d a1 _=>?_⟩;·(
 unfold FY at hu⊢;split
 ·rename_i et;rw[ap et] at hu
  obtain⟨g2,y2,q1,q2,J,q4⟩:=hu;exact⟨g2,y2,q1,q2,J.kept R (G.big _ q2),G.c _ _ _ hK q4⟩
 rename_i et;rw[ae et] at hu;split
 ·rename_i ec;rw[ap ec] at hu
  exact G.c _ _ _ hK hu
 rename_i ec;rw[ae ec] at hu;obtain⟨y2,wz,q1,q2,q4,q5,J⟩:=hu;have a7:∀b,u.ownBlock=some b→E b:=fun b hb=>by
  rcases J with J|J;·rw[J] at hb;exact(G.own b hb).1
  have:=J b hb;exact G.big _ (by omega)
 exact⟨y2,wz,be q1 R a7,q2,q4,q5.trans hK,J⟩)
 rw[I] at a1;cases a1;unfold FY;rw[ae a6,ap rfl];exact Y)
 refine UC hw hl hd (fun w j hp=>?_) (fun w j hp=>?_) (fun u hu=>by rw[I];exact R u hu)
 ·rw[bne_self_eq_false] at j
  obtain⟨f,args,hr,Y⟩:=h w j;rw[hr];exact Y.mono fun e w' ⟨u,h1,h2,h3,h4,h5⟩=>.inl ⟨rfl,u,h1,h2,good w w' u j h3 h4 h5⟩
 rw[bne_self_eq_false] at j;obtain⟨f,args,hr,Y⟩:=h w j;obtain⟨e,w',_,⟨u,_,h2,h3,h4,h5⟩,_⟩:=Y [];exact⟨u,w',h2,good w w' u j h3 h4 h5⟩
theorem Tv (G:Vb W E v PS C)(a1:k≠c)(hw:Region.wanted o (yielded ops a.tmps)=true)(hl:L k=some Oa)(hd:D k=false)(I:o.dst=some tb)(a6:tc≠tb)(y:Value)(hy:a.tmps[tc]? =some y)(J:tc∈o.looksAt ops)
 (h:∀w,SY W E base e size v n xs PS true w→(execOp a.eval o).run P w=.ok (.value (.slice (some ⟨w.heap.size,0,none⟩) 1 1)) (w.alloc (.cells (cl y).toArray e)))
 (hk:∀g,WE P ops (SY W E base e size v n xs PS) c [tc,tb,ta] (FY W E base e size v n xs cl C tb tc) L D X Q rest (k+1) dead (a.put (some tb) (.slice (some ⟨g,0,none⟩) 1 1))):
 WE P ops (SY W E base e size v n xs PS) c [tc,tb,ta] (FY W E base e size v n xs cl C tb tc) L D X Q (o::rest) k dead a:=by
 have hb:(k !=c)=true:=by rw[bne_iff_ne];exact a1
 have good:∀w,SY W E base e size v n xs PS true w→ij ops [tc,tb,ta] (FY W E base e size v n xs cl C tb tc) o a w→om (SY W E base e size v n xs PS true) [tc,tb,ta] (FY W E base e size v n xs cl C tb tc) o w (w.alloc (.cells (cl y).toArray e)) (.slice (some ⟨w.heap.size,0,none⟩) 1 1):=fun w j R=>by have hc:=R tc J (by simp) _ hy;unfold FY at hc;rw[ae a6,ap rfl] at hc;have Y:aa All w (w.alloc (.cells (cl y).toArray e)):=kR.alloc _;refine⟨⟨j.1.trans Y.all,be j.2.1 Y fun _ _=>trivial,G.ps _ _ _ Y.all j.2.2⟩,fun t _ u hu=>hu.keep G Y t u,fun d hd _=>?_⟩;rw[I] at hd;cases hd;unfold FY;rw[ap rfl];exact⟨_,y,rfl,j.1.size,al.new _ _ _,G.c _ _ _ Y.all hc⟩
 refine UC hw hl hd (fun w j R=>?_) (fun w j R=>?_) ?_
 ·rw[hb] at j
  rw[h w j];exact⟨rfl,⟨_,rfl⟩,good w j R⟩
 ·rw[hb] at j
  exact⟨_,_,⟨_,rfl⟩,good w j R⟩
 rintro u ⟨g,rfl⟩;rw[I];exact hk g
theorem Tu (G:Vb W E v PS C)(b8:k≠c)(hw:Region.wanted o (yielded ops a.tmps)=true)(hl:L k=some (NT n))(hd:D k=false)(a6:o.dst=some ta)(b9:ta≠tb)(c0:ta≠tc)(s:Operand)(t:TypeId)
 (ho:o.op=.call {callee:=.builtin .append,args:=#[s,.tmp tb],argTypes:=#[t,t]}) (i:TypeInfo) (z:Value) (bytes:Nat) (ht:P.underlying t=some (.slice e)) (hi:P.info? e=some i) (hz:i.zero=some z)
 (Y:i.size=size) (b2:i.bytes=bytes) (c1:z.cells.size=size) (b3:0<size) (hs:a.eval s=v) (g:Nat) (hx:a.tmps[tb]? =some (.slice (some ⟨g,0,none⟩) 1 1)) (b0:tb∈o.looksAt ops)
 (h1:∀y w,C y w→(cl y).length=size∧∀u∈cl y,u.oneCell'=true) (b4:n+1≤maxLen) (J:(n+1)*bytes≤140737488355328) (b1:base≤W.heap.size)
 (hk:∀A c',WE P ops (SY W E base e size v n xs PS) c [tc,tb,ta] (FY W E base e size v n xs cl C tb tc) L D X Q rest (k+1) dead (a.put (some ta) (.slice A (n+1) c'))):
 WE P ops (SY W E base e size v n xs PS) c [tc,tb,ta] (FY W E base e size v n xs cl C tb tc) L D X Q (o::rest) k dead a:=by
 have hb:(k !=c)=true:=by rw[bne_iff_ne];exact b8
 have key:∀w,SY W E base e size v n xs PS true w→ij ops [tc,tb,ta] (FY W E base e size v n xs cl C tb tc) o a w→∃v' w',(Builtin.append_ #[t,t] o.type #[v,.slice (some ⟨g,0,none⟩) 1 1]).run P w=.ok v' w'∧NT n v'∧om (SY W E base e size v n xs PS true) [tc,tb,ta] (FY W E base e size v n xs cl C tb tc) o w w' v':=by(
 intro w I hp;have hf:=hp tb b0 (by simp) _ hx;unfold FY at hf;rw[ap rfl] at hf;obtain⟨g',y,eg,c5,c4,hy⟩:=hf;iterate 3 injection eg with eg
 subst eg;obtain⟨b5,a7⟩:=h1 y w hy;have a1:∀(j:Nat) u,(cl y)[j]? =some u→w.cell? ⟨g,0+j,none⟩=some u:=fun j u hu=>by rw[cN,c4.cell j,List.getElem?_toArray];exact hu
 obtain⟨v',w',hr,h2,h3,h4⟩:=JL (P:=P) w base t o.type e i z size bytes ht hi hz Y b2 c1 b3 v n xs I.2.1 (some ⟨g,0,none⟩) 1 1 (cl y) (by rw[b5,Nat.one_mul]) (fun _=>⟨g,0,rfl,a1⟩) a7 b4 J (fR b1 I.1.size);have b6:=NO (P:=P) w base t o.type e i z size bytes ht hi hz Y b2 v n xs I.2.1 g 0 1 (cl y) b5 a1 a7 b4 J b3 v' w' hr;obtain⟨A,c',rfl⟩:=aU h2;have hK:aa (fun b=>v.ownBlock≠some b) w w':=(aa.refl _ w).grown h3 fun b hb=>.inl fun h=>h hb;have R:aa (fun b=>v.ownBlock≠some b∧E b) w w':=hK.mono fun b hb=>hb.1;refine⟨_,w',hr,⟨A,c',rfl⟩,⟨⟨I.1.trans R,b6.1,G.ps _ _ _ hK I.2.2⟩,fun t' _ u hu=>?_,fun d b7 _=>?_⟩⟩;·(
 unfold FY at hu⊢;split
 ·rename_i et;rw[ap et] at hu
  obtain⟨g2,y2,q1,q2,q3,q4⟩:=hu;exact⟨g2,y2,q1,q2,q3.kept hK fun hb=>by have:=(G.own _ hb).2;omega,G.c _ _ _ R q4⟩
 rename_i et;rw[ae et] at hu;split
 ·rename_i ec;rw[ap ec] at hu
  exact G.c _ _ _ R hu
 rename_i ec;rw[ae ec] at hu;obtain⟨y2,wz,q1,q2,q4,q5,q3⟩:=hu;rcases q3 with q3|q3;·exact⟨y,w,b6.2 u _ q1 q3,hy,I.1.size,R,.inl q3⟩
 exact⟨y2,wz,be q1 hK fun b hb hv=>by have h5:=(G.own _ hv).2;have h6:=q3 b hb;omega,q2,q4,q5.trans R,.inr q3⟩)
 rw[a6] at b7;cases b7;unfold FY;rw[ae b9,ae c0];refine⟨y,w,h2,hy,I.1.size,R,?_⟩;rcases h4 with h4|h4;·exact .inl h4
 exact .inr fun g2 a8=>by rw[h4] at a8;cases a8;exact cf _)
 refine UC hw hl hd (fun w I hp=>?_) (fun w I hp=>?_) ?_;·rw[hb] at I;obtain⟨v',w',hr,h2,h3⟩:=key w I hp;unfold execOp;simp only[ho,resolve,invoke,builtin,Sem.run_bind,Sem.run_pure,Result.andThen_ok,List.map_toArray,List.map_cons,List.map_nil,hs,show a.eval (.tmp tb)=.slice (some ⟨g,0,none⟩) 1 1 from by simp[Act.eval,hx],hr];exact⟨rfl,h2,h3⟩
 ·rw[hb] at I
  obtain⟨v',w',hr,h2,h3⟩:=key w I hp;exact⟨v',w',h2,h3⟩
 rintro u ⟨A,c',rfl⟩;rw[a6];exact hk A c'
end
end
end Go.Proofs.YtgdlhckhpolnnaaGreatDoor
