/- Part 10 of the proof (its last part says what is proved). No condition. -/
import Derived.Test.YtccbbkopmlnkpaaGreatDoorK7
namespace Go.Proofs.YtccbbkopmlnkpaaGreatDoor
set_option maxRecDepth 100000
set_option maxHeartbeats 8000000
open Go.RowKit Go.Proofs.Tryz
section
open Go
section
variable {P:Program} {ops:Array Oper} {md:Region.Mode} {S:World→Prop} {T:List Tmp} {F:Tmp→Value→World→Prop} {L:Nat→Option (Value→Prop)} {D:Nat→Bool} {X:List PanicEntry→World→Prop}
def xG (P:Program)(S:World→Prop)(T:List Tmp)(F:Tmp→Value→World→Prop)(X:List PanicEntry→World→Prop)(d:Bool)(V:Value→Prop)(o:Oper)(w:World):Result Next→Prop
 |.ok (.value u) j=>d=false∧V u∧om S T F o w j u
 |.ok .skip j=>d=false∧V undef∧om S T F o w j undef
 |.ok (.enter f args) j=>Calls P f args j (fun e C=>(d=false∧∃u,e=.returned u∧V u∧om S T F o w C u)∨∃I,e=.panicked I∧X I C)
 |_=>False
def fq (P:Program)(ops:Array Oper)(S:World→Prop)(T:List Tmp)(F:Tmp→Value→World→Prop)(X:List PanicEntry→World→Prop)(o:Oper)(j:Option (Value→Prop))(d:Bool)(a:Act)(V:Value→Prop):Prop:=
 (Region.wanted o (yielded ops a.tmps)=true∧j=none∧d=false∧∃v,V=(·=v)∧Iq P ops S T F o a v)∨
 (Region.wanted o (yielded ops a.tmps)=true∧j=some V∧(∀w,S w→ij ops T F o a w→xG P S T F X d V o w ((execOp a.eval o).run P w))∧∀w,S w→ij ops T F o a w→∃u C,V u∧om S T F o w C u)∨
 (Region.wanted o (yielded ops a.tmps)=false∧d=false∧V=(·=undef)∧∀d,o.dst=some d→d∉T)
theorem fq.unique {o:Oper}{J:Option (Value→Prop)}{d:Bool}{a:Act}{V V':Value→Prop}(h:fq P ops S T F X o J d a V)(h':fq P ops S T F X o J d a V'){w:World}(hw:S w)(hp:ij ops T F o a w):V=V':=by
 rcases h with ⟨I,R,_,v,rfl,h3⟩|⟨I,R,_⟩|⟨I,_,rfl,_⟩
 ·rcases h' with ⟨j,C,_,v',rfl,k3⟩|⟨j,C,_⟩|⟨j,_⟩
  ·have Y:=(h3 w hw hp).1;rw[(k3 w hw hp).1] at Y;iterate 2 injection Y with Y
   subst Y;rfl
  ·rw[R] at C;cases C
  rw[I] at j;cases j
 ·rcases h' with ⟨j,C,_⟩|⟨j,C,_⟩|⟨j,_⟩
  ·rw[R] at C;cases C
  ·rw[R] at C;injection C
  rw[I] at j;cases j
 rcases h' with ⟨j,_⟩|⟨j,_⟩|⟨_,_,rfl,_⟩;·rw[I] at j;cases j
 ·rw[I] at j;cases j
 rfl
theorem fq.some_ {o:Oper}{C:Option (Value→Prop)}{d:Bool}{a:Act}{V:Value→Prop}(h:fq P ops S T F X o C d a V){w:World}(hw:S w)(I:ij ops T F o a w):∃u J,V u∧om S T F o w J u:=by
 rcases h with ⟨_,_,_,v,rfl,j⟩|⟨_,_,_,j⟩|⟨_,_,rfl,j⟩;·exact⟨v,w,rfl,hw,fun _ _ _ h=>h,(j w hw I).2⟩
 ·exact j w hw I
 exact⟨undef,w,rfl,hw,fun _ _ _ h=>h,fun d R Y=>absurd Y (j d R)⟩
theorem fq.put {o:Oper}{j:Option (Value→Prop)}{b:Bool}{a:Act}{V:Value→Prop}{dst:Option Tmp}{u:Value}(C:∀cs b,o.op≠.select cs b)(h:∀d,dst=some d→d∉o.looksAt ops):
 fq P ops S T F X o j b (a.put dst u) V↔fq P ops S T F X o j b a V:=by
 unfold fq Iq;rw[execOp_put o C a dst u h,wanted_put o a dst u h];simp only[ij.put h]
def qM (P:Program)(md:Region.Mode)(ops:Array Oper)(S:World→Prop)(T:List Tmp)(F:Tmp→Value→World→Prop)(L:Nat→Option (Value→Prop))(D:Nat→Bool)(X:List PanicEntry→World→Prop)(n:Nat)(Q:Array Bool→Act→Prop):Nat→Bool→Array Bool→Act→Prop
 |0,dead,C,a=>(∃w,S w∧eU ops T F C a w)→(∀j∈Region.ready md ops C,n≤j)∧(dead=false→Q C a)
 |I+1,dead,C,a=>(∃w,S w∧eU ops T F C a w)→Region.ready md ops C≠[]∧
  ∀i∈Region.ready md ops C,i<n∧∀o,ops[i]? =some o→∃V,fq P ops S T F X o (L i) (D i) a V∧∀v,V v→qM P md ops S T F L D X n Q I (dead||D i) (C.setIfInBounds i true) (a.put o.dst v)
theorem tA (a:Act)(d:Option Tmp)(v:Value):(a.put d v).defers=a.defers:=by cases d<;>rfl
theorem gM {n g:Nat}{Q:Array Bool→Act→Prop}{Q':Exit→Act→World→Prop}{J:Act→Prop}(hm:lk md ops T)(hJ:∀(i:Nat) (o:Oper) (a:Act) (v:Value),ops[i]? =some o→J a→J (a.put o.dst v))(hX:∀a ch w,X ch w→J a→Q' (.panic ch) a w)
 (hQ:∀j a w,S w→eU ops T F j a w→Q j a→wpAny P md ops Q' g j a w):∀(C:Nat) (j:Array Bool) (a:Act) (w:World),J a→S w→eU ops T F j a w→
 qM P md ops S T F L D X n Q C false j a→wpAny P md ops Q' (C+g) j a w
 |0,j,a,w,_,hw,Y,h=>by rw[cN];exact hQ _ _ _ hw Y ((h ⟨w,hw,Y⟩).2 rfl)
 |C+1,j,a,w,h0,hw,Y,h=>by(
 rw[show C+1+g=(C+g)+1 by omega];refine⟨fun h1=>absurd h1 (h ⟨w,hw,Y⟩).1,fun i hi=>?_⟩;obtain⟨_,o,R,_⟩:=mem_ready.1 hi;obtain⟨V,hy,hn⟩:=((h ⟨w,hw,Y⟩).2 i hi).2 o R;have hp:=Y.pre hm hi R;unfold wpOp;simp only[R];rcases hy with ⟨h1,_,hd,v,rfl,h3⟩|⟨h1,_,h3,_⟩|⟨h1,hd,rfl,h3⟩;·rw[ap h1];left;obtain⟨I,a1⟩:=h3 w hw hp;unfold Oper.wp;rw[I];have:=hn v rfl;rw[hd] at this;exact gM hm hJ hX hQ C _ _ w (hJ _ _ _ _ R h0) hw (Y.next R ⟨hw,fun _ _ _ h=>h,a1⟩) this
 ·(
 rw[ap h1];left;have I:=h3 w hw hp;unfold Oper.wp;generalize (execOp a.eval o).run P w=r at I;cases r with
 |ok nx w'=>
  cases nx<;>simp only[xG] at I<;>simp only[Oper.upon]
  case value u=>(have:=hn u I.2.1;rw[I.1] at this;exact gM hm hJ hX hQ C _ _ w' (hJ _ _ _ _ R h0) I.2.2.1 (Y.next R I.2.2) this)
  case skip=>(have:=hn undef I.2.1;rw[I.1] at this;exact gM hm hJ hX hQ C _ _ w' (hJ _ _ _ _ R h0) I.2.2.1 (Y.next R I.2.2) this)
  case enter f args=>(
 refine I.mono ?_;rintro e a6 (⟨hd,u,rfl,hv,hg⟩|⟨ch,rfl,hx⟩)
 ·have:=hn u hv
  rw[hd] at this;exact gM hm hJ hX hQ C _ _ a6 (hJ _ _ _ _ R h0) hg.1 (Y.next R hg) this
 exact hX _ _ _ hx h0)
 |halt x w'=>simp only[xG] at I)
 rw[ae (by rw[h1];exact oG)];have:=hn undef rfl;rw[hd] at this;exact gM hm hJ hX hQ C _ _ w (hJ _ _ _ _ R h0) hw (Y.next R ⟨hw,fun _ _ _ h=>h,fun d hd ht=>absurd ht (h3 d hd)⟩) this)
theorem xx {n:Nat}{Q:Array Bool→Act→Prop}{i:Nat}{oi:Oper}{V:Value→Prop}(hm:lk md ops T)(hi:ops[i]? =some oi)(a8:∀(j:Nat) (o:Oper) cs b,ops[j]? =some o→o.op≠.select cs b)
 (hR:∀C,HeadInv md ops n C→∀i,i<n→C.getD i true=false→∀j∈Region.ready md ops C,j<n) (b2:i<n):
 ∀(I:Nat) (dead:Bool) (C:Array Bool) (a:Act),HeadInv md ops n C→
  (∀j oj,ops[j]? =some oj→j≠i→C.getD j true=false→(∀e∈oj.after,Region.binds md e=true→e.on≠i)→oi.apart ops oj=true)→
  i∈Region.ready md ops C→fq P ops S T F X oi (L i) (D i) a V→
  (∀v,V v→qM P md ops S T F L D X n Q I (dead||D i) (C.setIfInBounds i true) (a.put oi.dst v))→qM P md ops S T F L D X n Q (I+1) dead C a:=by
 intro I;induction I with
 |zero=>
  intro dead C a inv _ hr hy H Y;obtain⟨w0,b3,a7⟩:=Y;obtain⟨v0,w1,b7,hg⟩:=hy.some_ b3 (a7.pre hm hr hi);have h1:=H v0 b7 ⟨w1,hg.1,a7.next hi hg⟩;have a6:=(mem_ready.1 hr).1;refine⟨fun h=>(by rw[h] at hr;cases hr),fun j hj=>⟨hR _ inv i b2 a6 j hj,fun o ho=>?_⟩⟩;by_cases J:j=i;·subst J;rw[hi] at ho;cases ho;exact⟨V,hy,H⟩
  have h2:=h1.1 j (ready_mono hj J);have h3:=hR _ inv i b2 a6 j hj;omega
 |succ I ih=>
  intro dead C a inv b0 hr hy H Y;obtain⟨w0,b3,a7⟩:=Y;obtain⟨v0,w1,b7,hg⟩:=hy.some_ b3 (a7.pre hm hr hi);have h1:=H v0 b7 ⟨w1,hg.1,a7.next hi hg⟩;have a6:=(mem_ready.1 hr).1;refine⟨fun h=>(by rw[h] at hr;cases hr),fun j hj=>⟨hR _ inv i b2 a6 j hj,fun oj R=>?_⟩⟩;have c4:=hR _ inv i b2 a6 j hj;by_cases J:j=i;·subst J;rw[hi] at R;cases R;exact⟨V,hy,H⟩
  obtain⟨b1,e0,b5,b9⟩:=mem_ready.1 hj;rw[R] at b5;cases b5;have c0:∀e∈oj.after,Region.binds md e=true→e.on≠i:=fun e he hb heq=>by have h1:=b9 e he hb;rw[heq,getD_both a6] at h1;cases h1
  obtain⟨a1,a2,a3⟩:=Oper.apart_spec (b0 j oj R J b1 c0);obtain⟨Vj,c5,_⟩:=(h1.2 j (ready_mono hj J)).2 oj R;have b6:=(fq.put (fun cs b=>a8 j oj cs b R) a1).1 c5;have c6:=a7.pre hm hj R
  have b4:∀k ok,ops[k]? =some ok→k≠i→(C.setIfInBounds j true).getD k true=false→
   (∀e∈ok.after,Region.binds md e=true→e.on≠i)→oi.apart ops ok=true:=fun k ok hk c7 a6 c8=>by
   refine b0 k ok hk c7 ?_ c8;by_cases c1:j=k;·subst c1;exact b1
   rw[getD_set_ne true c1] at a6;exact a6
  refine⟨Vj,b6,fun u hu=>ih (dead||D j) (C.setIfInBounds j true) (a.put oj.dst u) (inv.set hj c4) b4 (ready_mono hr (Ne.symm J)) ((fq.put (fun cs b=>a8 i oi cs b hi) a3).2 hy) fun v hv=>?_⟩;have comm:=Act.put_comm a v u a2;have key:(∃w,S w∧eU ops T F ((C.setIfInBounds j true).setIfInBounds i true) ((a.put oj.dst u).put oi.dst v) w)→qM P md ops S T F L D X n Q I (dead||D j||D i) ((C.setIfInBounds j true).setIfInBounds i true) ((a.put oj.dst u).put oi.dst v):=by(
 rintro⟨w2,c9,c2⟩;rw[←comm,Array.setIfInBounds_comm _ _ J] at c2⊢;have b8:(C.setIfInBounds i true).getD j true=false:=by rw[getD_set_ne true (Ne.symm J)];exact b1
 have d7:=c2.less hm R b8;obtain⟨V2,d8,d9⟩:=((H v hv ⟨w2,c9,d7⟩).2 j (ready_mono hj J)).2 oj R;have c3:=(fq.put (fun cs b=>a8 j oj cs b R) a1).1 d8;have:=b6.unique c3 b3 c6;subst this;rw[Bool.or_right_comm];exact d9 u hu)
  cases I with
  |zero=>exact fun Y=>key Y Y
  |succ I=>exact fun Y=>key Y Y
def oC (P:Program)(ops:Array Oper)(S:World→Prop)(T:List Tmp)(F:Tmp→Value→World→Prop)(L:Nat→Option (Value→Prop))(D:Nat→Bool)(X:List PanicEntry→World→Prop)(Q:Act→Prop):List Oper→Nat→Bool→Act→Prop
 | [],_,dead,a=>dead=false→Q a
 |o::rest,k,dead,a=>∃V,fq P ops S T F X o (L k) (D k) a V∧∀v,V v→oC P ops S T F L D X Q rest (k+1) (dead||D k) (a.put o.dst v)
theorem tU {n g:Nat}{Q:Act→Prop}(hm:lk md ops T)(hs:Region.noSelect ops=true)
 (hR:∀C,HeadInv md ops n C→∀i,i<n→C.getD i true=false→∀j∈Region.ready md ops C,j<n):
 ∀(l:List Oper) (k:Nat) (dead:Bool) (C:Array Bool) (a:Act),(∀j,j<l.length→l[j]? =ops[k+j]?)→k+l.length=n→HeadInv md ops n C→(∀j,j<k→C.getD j false=true)→
 Region.lexHead md ops g l.length k C=true→oC P ops S T F L D X Q l k dead a→
 qM P md ops S T F L D X n (fun I a'=>Region.seqB md ops g n I=true∧(∀j,j<n→I.getD j false=true)∧Q a') l.length dead C a
 | [],k,dead,C,a,_,hk,_,hd,J,h=>by
  have:k=n:=by simpa using hk
  subst this;have J:Region.seqB md ops g k C=true:=by simpa [Region.lexHead] using J
  exact fun _=>⟨seqB_ready J,fun R=>⟨J,hd,h R⟩⟩
 |o::l,k,dead,C,a,hl,hk,inv,hd,J,h=>by(
 have h0:ops[k]? =some o:=by simpa using(hl 0 (by simp)).symm
 simp only[kI,Region.lexHead,gE] at J;obtain⟨⟨hr,hf⟩,a6⟩:=J;have Y:k<n:=by simp only[kI] at hk;omega
 have a1:k∈Region.ready md ops C:=by simpa using hr
 obtain⟨V,hy,hK⟩:=h;have a7:k<C.size:=by rw[inv.size];exact(mV.1 h0).1
 refine xx hm h0 (Region.noSelect_spec hs) hR Y l.length dead C a inv (Region.free_spec h0 hf) a1 hy
  fun v hv=>tU hm hs hR l (k+1) _ _ _ (fun j hj=>by have:=hl (j+1) (by simp;omega);simpa [Nat.add_assoc,Nat.add_comm 1 j] using this) (by simp only[kI] at hk;omega) (inv.set a1 Y) (fun j hj=>?_) a6 (hK v hv)
 by_cases e:k=j;·subst e;simp[a7]
 rw[getD_set_ne false e];exact hd j (by omega))
def yZ (md:Region.Mode)(ops:Array Oper)(n:Nat):Bool:=
 Region.noSelect ops&&(n==ops.size||(decide (n<ops.size)&&Region.sinkB md ops n&&Region.chainB md ops n))&&Region.lexHead md ops (ops.size-n) n 0 (Array.replicate ops.size false)
def pM (ops:Array Oper)(T:List Tmp)(n:Nat):Bool:=T.all fun t=>(List.range n).any fun k=>match ops[k]? with|some x=>x.dst==some t|none=>false
theorem kG {id:Nat}{Q:Exit→Act→World→Prop}{a:Act}{w:World}{l:List Oper}(n:Nat)(S:World→Prop)(T:List Tmp)(F:Tmp→Value→World→Prop)(L:Nat→Option (Value→Prop))(D:Nat→Bool)(X:List PanicEntry→World→Prop)(J:Act→Prop)
 (hm:P.follows .mixedOrders=true) (hB:yZ .any l.toArray n=true) (hT:ns .any l.toArray T=true) (b1:pM l.toArray T n=true)
 (hS:S w.drew) (b2:J a) (hJ:∀(i:Nat) (o:Oper) (a:Act) (v:Value),l.toArray[i]? =some o→J a→J (a.put o.dst v)) (hX:∀Y ch w,X ch w→J Y→Q (.panic ch) Y w) (h:oC P l.toArray S T F L D X (fun Y=>∀w',S w'→(∀t∈T,∀v,Y.tmps[t]? =some v→F t v w')→wpList P l.toArray Q (l.drop n) Y w') (l.take n) 0 false a):(Code.region id l.toArray true).wp P Q a w:=by
 simp only[yZ,gE,Bool.or_eq_true,cy,qal] at hB;obtain⟨⟨a1,hn⟩,a6⟩:=hB;have a7:=sU hT;have b7:n≤l.length:=by rcases hn with h|⟨⟨h,_⟩,_⟩<;>simp at h<;>omega
 have I:(l.take n).length=n:=by simp;omega
 have a8:(l.drop n).length=l.toArray.size-n:=by simp
 have b0:HeadInv .any l.toArray n (Array.replicate l.toArray.size false):=
  ⟨by simp,fun j oj _ hl=>(by rw[getD_replicate_false] at hl;cases hl),fun t _ ht=>getD_in (by simpa using ht) (getD_replicate_false _ _)⟩
 have hR:∀C,HeadInv .any l.toArray n C→∀i,i<n→C.getD i true=false→∀j∈Region.ready .any l.toArray C,j<n:=by(
 intro C inv i hi b3 j hj;obtain⟨_,oj,b4,_⟩:=mem_ready.1 hj;have b8:=(mV.1 b4).1;rcases hn with h|⟨⟨h,hs⟩,hc⟩;·omega
 rcases Nat.lt_or_ge j n with h'|h';·exact h'
 exact absurd hj (tail_waits hs hc h inv _ i rfl hi b3 j h'))
 have H:=tU (md:=.any) (g:=l.toArray.size-n) a7 a1 hR (l.take n) 0 false _ a (fun j hj=>by
  have b5:j<n:=by rw[I] at hj;exact hj
  simp[b5]) (by simpa using I) b0 (fun j hj=>by omega) (by rw[I];exact a6) h
 refine wp_region_any hm ?_;have:=gM (Q':=Q) (J:=J) (g:=l.toArray.size-n) a7 hJ hX (fun C Y w' b6 hf hL=>by
  have R:∀t∈T,∀v,Y.tmps[t]? =some v→F t v w':=fun t ht v hv=>by(
 have h1:=List.all_eq_true.1 b1 t ht;obtain⟨k,hk,h2⟩:=mW.1 h1;cases hx:l.toArray[k]? with
 |none=>simp[hx] at h2
 |some x=>simp only[hx,cy] at h2;exact hf k x t (hL.2.1 k (fg.1 hk)) hx h2 ht v hv)
  have:=wpAny_of_seq (md:=.any) (Q':=Q) (l.drop n) n C Y w' (fun j=>by simp[List.getElem?_drop]) (by rw[a8];exact hL.1) (hL.2.2 w' b6 R);rwa [a8] at this) _ _ _ w.drew b2 hS (fun k o d hk=>by exfalso;rw[getD_replicate_false] at hk;cases hk) H
 rw[I,show n+(l.toArray.size-n)=l.toArray.size by omega] at this;exact this
theorem bq {id:Nat}{Q:Exit→Act→World→Prop}{a:Act}{w:World}{l:List Oper}(n:Nat)(S:World→Prop)(T:List Tmp)(F:Tmp→Value→World→Prop)(L:Nat→Option (Value→Prop))(D:Nat→Bool)(X:List PanicEntry→World→Prop)
 (hm:P.follows .mixedOrders=true) (J:yZ .any l.toArray n=true) (R:ns .any l.toArray T=true) (o:pM l.toArray T n=true)
 (Y:S w.drew) (hX:∀j I w,X I w→j.defers=a.defers→Q (.panic I) j w) (h:oC P l.toArray S T F L D X (fun j=>∀C,S C→(∀t∈T,∀v,j.tmps[t]? =some v→F t v C)→wpList P l.toArray Q (l.drop n) j C) (l.take n) 0 false a):(Code.region id l.toArray true).wp P Q a w:=
 kG n S T F L D X (fun j=>j.defers=a.defers) hm J R o Y rfl (fun _ _ _ _ _ h=>(tA _ _ _).trans h) hX h
section steps
variable {Q:Act→Prop} {o:Oper} {rest:List Oper} {k:Nat} {dead:Bool} {a:Act}
theorem aG (h:Q a):oC P ops S T F L D X Q [] k dead a:=fun _=>h
theorem dG:oC P ops S T F L D X Q [] k true a:=fun h=>by cases h
theorem xy {v:Value}(hw:Region.wanted o (yielded ops a.tmps)=true)(C:L k=none)(j:D k=false)(I:∀d,o.dst=some d→d∉T)(h:∀w,S w→ij ops T F o a w→(execOp a.eval o).run P w=.ok (.value v) w)(J:oC P ops S T F L D X Q rest (k+1) dead (a.put o.dst v)):oC P ops S T F L D X Q (o::rest) k dead a:=
 ⟨_,.inl ⟨hw,C,j,v,rfl,fun w R Y=>⟨h w R Y,fun d j hT=>absurd hT (I d j)⟩⟩,fun _ e=>by subst e;rw[j,Bool.or_false];exact J⟩
theorem tW {v:Value}(hw:Region.wanted o (yielded ops a.tmps)=true)(hl:L k=some (·=v))(R:D k=false)(Y:∀d,o.dst=some d→d∉T)
 (h:∀w,S w→ij ops T F o a w→∃f args,(execOp a.eval o).run P w=.ok (.enter f args) w∧Calls P f args w fun e C=>e=.returned v∧S C∧∀t∈T,∀v,F t v w→F t v C) (hk:oC P ops S T F L D X Q rest (k+1) dead (a.put o.dst v)):oC P ops S T F L D X Q (o::rest) k dead a:=
 ⟨_,.inr (.inl ⟨hw,hl,fun w I hp=>by obtain⟨f,args,hr,hc⟩:=h w I hp;rw[hr];exact hc.mono fun e C ⟨h1,h2,h3⟩=>.inl ⟨R,v,h1,rfl,h2,h3,fun d j J=>absurd J (Y d j)⟩,fun w I _=>⟨v,w,rfl,I,fun _ _ _ h=>h,fun d j J=>absurd J (Y d j)⟩⟩),fun _ e=>by subst e;rw[R,Bool.or_false];exact hk⟩
theorem Ic (v:Value)(hw:Region.wanted o (yielded ops a.tmps)=true)(R:L k=some (·=v))(Y:D k=true)(ht:∀d,o.dst=some d→d∉T)
 (h:∀w,S w→ij ops T F o a w→∃f args,(execOp a.eval o).run P w=.ok (.enter f args) w∧Calls P f args w fun e I=>∃J,e=.panicked J∧X J I) (hk:oC P ops S T F L D X Q rest (k+1) true (a.put o.dst v)):oC P ops S T F L D X Q (o::rest) k dead a:=
 ⟨_,.inr (.inl ⟨hw,R,fun w j hp=>by obtain⟨f,args,hr,hc⟩:=h w j hp;rw[hr];exact hc.mono fun e I h'=>.inr h',fun w j _=>⟨v,w,rfl,j,fun _ _ _ h=>h,fun d C hT=>absurd hT (ht d C)⟩⟩),fun _ e=>by subst e;rw[Y,Bool.or_true];exact hk⟩
theorem Ey {V:Value→Prop}(hw:Region.wanted o (yielded ops a.tmps)=true)(I:L k=some V)(C:D k=false)(h:∀w,S w→ij ops T F o a w→xG P S T F X false V o w ((execOp a.eval o).run P w))(j:∀w,S w→ij ops T F o a w→∃u J,V u∧om S T F o w J u)(R:∀v,V v→oC P ops S T F L D X Q rest (k+1) dead (a.put o.dst v)):oC P ops S T F L D X Q (o::rest) k dead a:=
 ⟨V,.inr (.inl ⟨hw,I,by rw[C];exact h,j⟩),fun v Y=>by rw[C,Bool.or_false];exact R v Y⟩
theorem Ib (hw:Region.wanted o (yielded ops a.tmps)=false)(j:D k=false)(C:∀d,o.dst=some d→d∉T)(I:oC P ops S T F L D X Q rest (k+1) dead (a.put o.dst undef)):oC P ops S T F L D X Q (o::rest) k dead a:=
 ⟨_,.inr (.inr ⟨hw,j,rfl,C⟩),fun _ e=>by subst e;rw[j,Bool.or_false];exact I⟩
end steps
def mR (a:Act)(C:List Tmp)(j:Act):Prop:=j.defers=a.defers∧∀t∈C,j.tmps[t]? =a.tmps[t]?
def JN (ops:Array Oper)(j:List Tmp):Bool:=ops.all fun o=>match o.dst with|some d=>!j.contains d|none=>true
theorem mR.refl (a:Act)(j:List Tmp):mR a j a:=⟨rfl,fun _ _=>rfl⟩
theorem tN {ops:Array Oper}{a:Act}{j:List Tmp}(h:JN ops j=true)(i:Nat)(o:Oper)(C:Act)(v:Value)(hi:ops[i]? =some o)(I:mR a j C):mR a j (C.put o.dst v):=by
 refine⟨(tA _ _ _).trans I.1,fun t J=>?_⟩;have R:=Array.all_eq_true'.1 h o (Array.mem_of_getElem? hi);cases hd:o.dst with
 |none=>exact I.2 t J
 |some d=>
  rw[hd] at R;have Y:d≠t:=by intro e;subst e;simp at R;exact R J
  show(C.tmps.setIfInBounds d v)[t]? =_;rw[Array.getElem?_setIfInBounds_ne Y];exact I.2 t J
end
end
section
section
variable {P:Program} {ops:Array Oper} {S:World→Prop} {T:List Tmp} {F:Tmp→Value→World→Prop} {L:Nat→Option (Value→Prop)} {D:Nat→Bool} {X:List PanicEntry→World→Prop} {Q:Act→Prop} {o:Oper} {rest:List Oper} {k:Nat} {dead:Bool} {a:Act}
theorem O3 {v:Value}{C:Act}(h:∀w,S w→ij ops T F o a w→(execOp a.eval o).run P w=.ok (.value v) w)(I:oC P ops S T F L D X Q rest (k+1) dead C)(hw:Region.wanted o (yielded ops a.tmps)=true:=by rfl)(J:L k=none:=by rfl)(j:D k=false:=by rfl)(R:∀d,o.dst=some d→d∉T:=by intro d j;first|(intro Y;cases Y;done)|(cases j;decide))(hp:a.put o.dst v=C:=by conv=>lhs;simp only[PS]):oC P ops S T F L D X Q (o::rest) k dead a:=xy hw J j R h (by rw[hp];exact I)
theorem O0 {v:Value}{C:Act}(I:oC P ops S T F L D X Q rest (k+1) dead C)(h:∀w,S w→ij ops T F o a w→(execOp a.eval o).run P w=.ok (.value v) w:=by intro wn I J;go_simp;with_reducible rfl)(hw:Region.wanted o (yielded ops a.tmps)=true:=by rfl)(R:L k=none:=by rfl)(j:D k=false:=by rfl)(Y:∀d,o.dst=some d→d∉T:=by intro d j;first|(intro hT;cases hT;done)|(cases j;decide))(J:a.put o.dst v=C:=by conv=>lhs;simp only[PS]):oC P ops S T F L D X Q (o::rest) k dead a:=xy hw R j Y h (by rw[J];exact I)
theorem O4 {v:Value}{R:Act}{C:World→Prop}(f:∀w,S w→C w)(Y:oC P ops S T F L D X Q rest (k+1) dead R)(h:∀w,S w→C w→ij ops T F o a w→(execOp a.eval o).run P w=.ok (.value v) w:=by intro wn Y I j;(try dsimp only at I);(repeat obtain⟨_,I⟩:=I);go_simp;with_reducible rfl)(hw:Region.wanted o (yielded ops a.tmps)=true:=by rfl)(hl:L k=none:=by rfl)(J:D k=false:=by rfl)(ht:∀d,o.dst=some d→d∉T:=by intro d J;first|(intro hT;cases hT;done)|(cases J;decide))(j:a.put o.dst v=R:=by conv=>lhs;simp only[PS]):oC P ops S T F L D X Q (o::rest) k dead a:=xy hw hl J ht (fun w hs j=>h w hs (f w hs) j) (by rw[j];exact Y)
theorem O2 {C:Act}(I:oC P ops S T F L D X Q rest (k+1) dead C)(hw:Region.wanted o (yielded ops a.tmps)=false:=by rfl)(j:D k=false:=by rfl)(J:∀d,o.dst=some d→d∉T:=by intro d j;first|(intro R;cases R;done)|(cases j;decide))(Y:a.put o.dst undef=C:=by conv=>lhs;simp only[PS]):oC P ops S T F L D X Q (o::rest) k dead a:=Ib hw j J (by rw[Y];exact I)
theorem O6 {V:Value→Prop}(h:∀w,S w→ij ops T F o a w→xG P S T F X false V o w ((execOp a.eval o).run P w))(j:∀w,S w→ij ops T F o a w→∃u C,V u∧om S T F o w C u)(I:∀v,V v→oC P ops S T F L D X Q rest (k+1) dead (a.put o.dst v))(hw:Region.wanted o (yielded ops a.tmps)=true:=by rfl)(J:L k=some V:=by rfl)(R:D k=false:=by rfl):oC P ops S T F L D X Q (o::rest) k dead a:=Ey hw J R h j I
theorem O5 {v:Value}{C:Act}(h:∀w,S w→ij ops T F o a w→∃f args,(execOp a.eval o).run P w=.ok (.enter f args) w∧Calls P f args w fun e I=>e=.returned v∧S I∧∀t∈T,∀v,F t v w→F t v I)(J:oC P ops S T F L D X Q rest (k+1) dead C)(hw:Region.wanted o (yielded ops a.tmps)=true:=by rfl)(R:L k=some (·=v):=by rfl)(j:D k=false:=by rfl)(Y:∀d,o.dst=some d→d∉T:=by intro d j;first|(intro hT;cases hT;done)|(cases j;decide))(hp:a.put o.dst v=C:=by conv=>lhs;simp only[PS]):oC P ops S T F L D X Q (o::rest) k dead a:=tW hw R j Y h (by rw[hp];exact J)
theorem O7 (v:Value){C:Act}(h:∀w,S w→ij ops T F o a w→∃f args,(execOp a.eval o).run P w=.ok (.enter f args) w∧Calls P f args w fun e J=>∃I,e=.panicked I∧X I J)(R:oC P ops S T F L D X Q rest (k+1) true C)(hw:Region.wanted o (yielded ops a.tmps)=true:=by rfl)(Y:L k=some (·=v):=by rfl)(j:D k=true:=by rfl)(ht:∀d,o.dst=some d→d∉T:=by intro d j;first|(intro hT;cases hT;done)|(cases j;decide))(hp:a.put o.dst v=C:=by conv=>lhs;simp only[PS]):oC P ops S T F L D X Q (o::rest) k dead a:=Ic v hw Y j ht h (by rw[hp];exact R)
theorem qaf {Q:Act→Prop}(b:Bool){v:Value}(hw:Region.wanted o (yielded ops a.tmps)=true)(hl:L k=some (·=v))(R:D k=!b)(Y:∀d,o.dst=some d→d∉T)
 (h:∀w,S w→ij ops T F o a w→∃f args,(execOp a.eval o).run P w=.ok (.enter f args) w∧Calls P f args w fun e C=>(b=true∧e=.returned v∧S C∧∀t∈T,∀v,F t v w→F t v C)∨∃ch,e=.panicked ch∧X ch C) (hk:oC P ops S T F L D X Q rest (k+1) (dead||!b) (a.put o.dst v)):oC P ops S T F L D X Q (o::rest) k dead a:=
 ⟨_,.inr (.inl ⟨hw,hl,fun w I hp=>by
  obtain⟨f,args,hr,hc⟩:=h w I hp;rw[hr];refine hc.mono fun e C h'=>?_;rcases h' with ⟨hb,h1,h2,h3⟩|h';·exact .inl ⟨by rw[R,hb];rfl,v,h1,rfl,h2,h3,fun d j J=>absurd J (Y d j)⟩
  exact .inr h',fun w I _=>⟨v,w,rfl,I,fun _ _ _ h=>h,fun d j J=>absurd J (Y d j)⟩⟩),fun _ e=>by subst e;rw[R];exact hk⟩
theorem O8 {v:Value}{Y:Act}{C:World→Prop}{f:FuncId}{args:Array Value}(g:∀w,S w→C w)(h:∀w,S w→Calls P f args w fun e w'=>e=.returned v∧S w'∧∀t∈T,∀v,F t v w→F t v w')(hk:oC P ops S T F L D X Q rest (k+1) dead Y)(he:∀w,S w→C w→ij ops T F o a w→(execOp a.eval o).run P w=.ok (.enter f args) w:=by intro wn hk I j;(try dsimp only at I);(repeat obtain⟨_,I⟩:=I);go_simp<;>first|with_reducible rfl|exact⟨rfl,rfl⟩|rfl)(hw:Region.wanted o (yielded ops a.tmps)=true:=by rfl)(hl:L k=some (·=v):=by rfl)(J:D k=false:=by rfl)(ht:∀d,o.dst=some d→d∉T:=by intro d J;first|(intro hT;cases hT;done)|(cases J;decide))(j:a.put o.dst v=Y:=by conv=>lhs;simp only[PS]):oC P ops S T F L D X Q (o::rest) k dead a:=tW hw hl J ht (fun w R j=>⟨f,args,he w R (g w R) j,h w R⟩) (by rw[j];exact hk)
theorem O9 (b:Bool){v:Value}{a':Act}{C:World→Prop}{f:FuncId}{args:Array Value}(g:∀w,S w→C w)(h:∀w,S w→Calls P f args w fun e I=>(b=true∧e=.returned v∧S I∧∀t∈T,∀v,F t v w→F t v I)∨∃ch,e=.panicked ch∧X ch I)(hk:oC P ops S T F L D X Q rest (k+1) (dead||!b) a')(he:∀w,S w→C w→ij ops T F o a w→(execOp a.eval o).run P w=.ok (.enter f args) w:=by intro wn hk J j;(try dsimp only at J);(repeat obtain⟨_,J⟩:=J);go_simp<;>first|with_reducible rfl|exact⟨rfl,rfl⟩|rfl)(hw:Region.wanted o (yielded ops a.tmps)=true:=by rfl)(hl:L k=some (·=v):=by rfl)(R:D k=!b:=by rfl)(ht:∀d,o.dst=some d→d∉T:=by intro d R;first|(intro hT;cases hT;done)|(cases R;decide))(j:a.put o.dst v=a':=by conv=>lhs;simp only[PS]):oC P ops S T F L D X Q (o::rest) k dead a:=qaf b hw hl R ht (fun w Y j=>⟨f,args,he w Y (g w Y) j,h w Y⟩) (by rw[j];exact hk)
theorem ZS {Q:Act→Prop}(h:dead=false→Q a):oC P ops S T F L D X Q [] k dead a:=h
theorem OB {Q':Exit→Act→World→Prop}{W:World}{j:Tmp}{e:TypeId}{cs:Array Value}{dr R:List Oper}{J:Nat→Act}(hk:∀g wt,dead=false→aa All W wt→W.heap.size≤g→al wt g e cs→wpList P ops Q' R (J g) wt)
 (h:∀w,aa All W w→ij ops [j] (fun _ v wn=>∃g,v=.slice (some ⟨g,0,none⟩) 1 1∧W.heap.size≤g∧al wn g e cs) o a w→(execOp a.eval o).run P w=.ok (.value (.slice (some ⟨w.heap.size,0,none⟩) 1 1)) (w.alloc (.cells cs e)):=by intro wn hk hp;go_simp<;>with_reducible rfl) (hw:Region.wanted o (yielded ops a.tmps)=true:=by rfl) (hl:L k=some (fun v=>∃g,v=.slice (some ⟨g,0,none⟩) 1 1):=by rfl) (hd:D k=false:=by rfl) (Y:o.dst=some j:=by rfl)
 (hp:∀g,a.put (some j) (.slice (some ⟨g,0,none⟩) 1 1)=J g:=by intro g;conv=>lhs;simp only[PS]) (ht:∀g,(J g).tmps[j]? =some (.slice (some ⟨g,0,none⟩) 1 1):=by intro g;rfl) (a6:dr=R:=by conv=>lhs;simp only[dK]):
 oC P ops (aa All W) [j] (fun _ v wn=>∃g,v=.slice (some ⟨g,0,none⟩) 1 1∧W.heap.size≤g∧al wn g e cs) L D X (fun J=>∀w',aa All W w'→(∀t∈[j],∀v,J.tmps[t]? =some v→∃g,v=.slice (some ⟨g,0,none⟩) 1 1∧W.heap.size≤g∧al w' g e cs)→wpList P ops Q' dr J w') [o] k dead a:=by
 have good:∀w,aa All W w→om (aa All W) [j] (fun _ v wn=>∃g,v=.slice (some ⟨g,0,none⟩) 1 1∧W.heap.size≤g∧al wn g e cs) o w (w.alloc (.cells cs e)) (.slice (some ⟨w.heap.size,0,none⟩) 1 1):=fun w C=>⟨C.alloc _,fun t _ v ⟨g,e,h1,h2⟩=>⟨g,e,h1,h2.alloc _⟩,fun d hd hT=>⟨_,rfl,C.size,al.new _ _ _⟩⟩;refine Ey hw hl hd (fun w C a1=>?_) (fun w C a1=>⟨_,_,⟨_,rfl⟩,good w C⟩) ?_
 ·rw[h w C a1]
  exact⟨rfl,⟨_,rfl⟩,good w C⟩
 rintro v ⟨g,rfl⟩;rw[Y,hp g];refine ZS fun a7 wt a8 hF=>?_;obtain⟨g',I,h1,h2⟩:=hF j (by simp) _ (ht g);injection I with I;injection I with I;injection I with I;subst I;rw[a6];exact hk g wt a7 a8 h1 h2
theorem R3 {id:Nat}{Q':Exit→Act→World→Prop}{a:Act}{w:World}{l J:List Oper}(n:Nat)(W:World)(T:List Tmp)(F:Tmp→Value→World→Prop)(L:Nat→Option (Value→Prop))(D:Nat→Bool)(X:List PanicEntry→World→Prop)(Y:∀j R w,X R w→j.defers=a.defers→Q' (.panic R) j w)(h:oC P l.toArray (aa All W) T F L D X (fun j=>∀C,aa All W C→(∀t∈T,∀v,j.tmps[t]? =some v→F t v C)→wpList P l.toArray Q' (l.drop n) j C) J 0 false a)(hm:P.follows .mixedOrders=true:=by kernel_rfl)(hB:yZ .any l.toArray n=true:=by kernel_rfl)(hT:ns .any l.toArray T=true:=by kernel_rfl)(I:pM l.toArray T n=true:=by kernel_rfl)(hS:aa All W w.drew:=by exact(aa.refl _ _).drew)(ht:l.take n=J:=by conv=>lhs;simp only[tK]):(Code.region id l.toArray true).wp P Q' a w:=bq n (aa All W) T F L D X hm hB hT I hS Y (by rw[ht];exact h)
theorem R2 {id:Nat}{Q':Exit→Act→World→Prop}{a:Act}{w:World}{l I:List Oper}(n:Nat)(W:World)(L:Nat→Option (Value→Prop))(D:Nat→Bool)(X:List PanicEntry→World→Prop)(Y:∀j J w,X J w→j.defers=a.defers→Q' (.panic J) j w)(h:oC P l.toArray (aa All W) [] (fun _ _ _=>True) L D X (fun j=>∀R,aa All W R→(∀t∈([]:List Tmp),∀v,j.tmps[t]? =some v→True)→wpList P l.toArray Q' (l.drop n) j R) I 0 false a)(hm:P.follows .mixedOrders=true:=by kernel_rfl)(hB:yZ .any l.toArray n=true:=by kernel_rfl)(hT:ns .any l.toArray []=true:=by kernel_rfl)(C:pM l.toArray [] n=true:=by kernel_rfl)(hS:aa All W w.drew:=by exact(aa.refl _ _).drew)(ht:l.take n=I:=by conv=>lhs;simp only[tK]):(Code.region id l.toArray true).wp P Q' a w:=R3 n W [] (fun _ _ _=>True) L D X Y h hm hB hT C hS ht
theorem R1 {id:Nat}{Q':Exit→Act→World→Prop}{a:Act}{w:World}{l I:List Oper}(n:Nat)(W:World)(T:List Tmp)(F:Tmp→Value→World→Prop)(L:Nat→Option (Value→Prop))(h:oC P l.toArray (aa All W) T F L (fun _=>false) (fun _ _=>False) (fun J=>∀j,aa All W j→(∀t∈T,∀v,J.tmps[t]? =some v→F t v j)→wpList P l.toArray Q' (l.drop n) J j) I 0 false a)(hm:P.follows .mixedOrders=true:=by kernel_rfl)(R:yZ .any l.toArray n=true:=by kernel_rfl)(Y:ns .any l.toArray T=true:=by kernel_rfl)(C:pM l.toArray T n=true:=by kernel_rfl)(hS:aa All W w.drew:=by exact(aa.refl _ _).drew)(ht:l.take n=I:=by conv=>lhs;simp only[tK]):(Code.region id l.toArray true).wp P Q' a w:=R3 n W T F L (fun _=>false) (fun _ _=>False) (fun _ _ _ h=>False.elim h) h hm R Y C hS ht
theorem R0 {id:Nat}{Q':Exit→Act→World→Prop}{a:Act}{w:World}{l C:List Oper}(n:Nat)(W:World)(L:Nat→Option (Value→Prop))(h:oC P l.toArray (aa All W) [] (fun _ _ _=>True) L (fun _=>false) (fun _ _=>False) (fun I=>∀J,aa All W J→(∀t∈([]:List Tmp),∀v,I.tmps[t]? =some v→True)→wpList P l.toArray Q' (l.drop n) I J) C 0 false a)(hm:P.follows .mixedOrders=true:=by kernel_rfl)(R:yZ .any l.toArray n=true:=by kernel_rfl)(Y:ns .any l.toArray []=true:=by kernel_rfl)(j:pM l.toArray [] n=true:=by kernel_rfl)(hS:aa All W w.drew:=by exact(aa.refl _ _).drew)(ht:l.take n=C:=by conv=>lhs;simp only[tK]):(Code.region id l.toArray true).wp P Q' a w:=R1 n W [] (fun _ _ _=>True) L h hm R Y j hS ht
end
end
section
open Go
section
variable {P:Program} {ops:Array Oper} {md:Region.Mode} {S:Bool→World→Prop} {c:Nat} {T:List Tmp} {F:Tmp→Value→World→Prop} {L:Nat→Option (Value→Prop)} {D:Nat→Bool} {X:List PanicEntry→World→Prop}
def wv (P:Program)(ops:Array Oper)(S:Bool→World→Prop)(c:Nat)(T:List Tmp)(F:Tmp→Value→World→Prop)(X:List PanicEntry→World→Prop)(k:Nat)(o:Oper)(j:Option (Value→Prop))(d:Bool)(a:Act)(V:Value→Prop):Prop:=
 (Region.wanted o (yielded ops a.tmps)=true∧j=none∧d=false∧k≠c∧∃v,V=(·=v)∧∀b,Iq P ops (S b) T F o a v)∨
 (Region.wanted o (yielded ops a.tmps)=true∧j=some V∧(∀w,S (k !=c) w→ij ops T F o a w→xG P (S true) T F X d V o w ((execOp a.eval o).run P w))∧∀w,S (k !=c) w→ij ops T F o a w→∃u C,V u∧om (S true) T F o w C u)∨
 (Region.wanted o (yielded ops a.tmps)=false∧d=false∧k≠c∧V=(·=undef)∧∀d,o.dst=some d→d∉T)
theorem wv.unique {k:Nat}{o:Oper}{J:Option (Value→Prop)}{d b:Bool}{a:Act}{V V':Value→Prop}(h:wv P ops S c T F X k o J d a V)(h':wv P ops S c T F X k o J d a V'){w:World}(hw:S b w)(hp:ij ops T F o a w):V=V':=by
 rcases h with ⟨I,R,_,_,v,rfl,h3⟩|⟨I,R,_⟩|⟨I,_,_,rfl,_⟩
 ·rcases h' with ⟨j,C,_,_,v',rfl,k3⟩|⟨j,C,_⟩|⟨j,_⟩
  ·have Y:=(h3 b w hw hp).1;rw[(k3 b w hw hp).1] at Y;iterate 2 injection Y with Y
   subst Y;rfl
  ·rw[R] at C;cases C
  rw[I] at j;cases j
 ·rcases h' with ⟨j,C,_⟩|⟨j,C,_⟩|⟨j,_⟩
  ·rw[R] at C;cases C
  ·rw[R] at C;injection C
  rw[I] at j;cases j
 rcases h' with ⟨j,_⟩|⟨j,_⟩|⟨_,_,_,rfl,_⟩;·rw[I] at j;cases j
 ·rw[I] at j;cases j
 rfl
theorem wv.some_ {k:Nat}{o:Oper}{j:Option (Value→Prop)}{d b:Bool}{a:Act}{V:Value→Prop}(h:wv P ops S c T F X k o j d a V)(R:j≠none→b=(k !=c)){w:World}(hw:S b w)(J:ij ops T F o a w):∃u Y,V u∧om (S (b||k==c)) T F o w Y u:=by
 rcases h with ⟨_,_,_,I,v,rfl,C⟩|⟨_,h2,_,C⟩|⟨_,_,I,rfl,C⟩
 ·rw[bE.2 I,Bool.or_false]
  exact⟨v,w,rfl,hw,fun _ _ _ h=>h,(C b w hw J).2⟩
 ·have e:=R (by rw[h2];simp)
  subst e;rw[show((k !=c)||k==c)=true by unfold bne;cases (k==c)<;>rfl];exact C w hw J
 rw[bE.2 I,Bool.or_false];exact⟨undef,w,rfl,hw,fun _ _ _ h=>h,fun d hd ht=>absurd ht (C d hd)⟩
theorem wv.put {k:Nat}{o:Oper}{j:Option (Value→Prop)}{b:Bool}{a:Act}{V:Value→Prop}{dst:Option Tmp}{u:Value}(C:∀cs b,o.op≠.select cs b)(h:∀d,dst=some d→d∉o.looksAt ops):
 wv P ops S c T F X k o j b (a.put dst u) V↔wv P ops S c T F X k o j b a V:=by
 unfold wv Iq;rw[execOp_put o C a dst u h,wanted_put o a dst u h];simp only[ij.put h]
theorem wv.single {k:Nat}{o:Oper}{C:Option (Value→Prop)}{d:Bool}{a:Act}{V:Value→Prop}(h:wv P ops S c T F X k o C d a V)(j:C=none∨Region.wanted o (yielded ops a.tmps)=false){u J:Value}(hu:V u)(I:V J):u=J:=by
 rcases h with ⟨_,_,_,_,v,rfl,_⟩|⟨Y,R,_⟩|⟨_,_,_,rfl,_⟩;·exact hu.trans I.symm
 ·rcases j with j|j
  ·rw[j] at R;cases R
  rw[Y] at j;cases j
 exact hu.trans I.symm
def ph (c:Nat)(j:Array Bool):Bool:=j.getD c false
theorem US {j:Array Bool}{i:Nat}(h:j.getD i true=false):ph c (j.setIfInBounds i true)=(ph c j||i==c):=by
 unfold ph;by_cases e:i=c
 ·subst e
  have hi:i<j.size:=by(
 rcases Nat.lt_or_ge i j.size with h'|h';·exact h'
 simp[jK h'] at h)
  simp[hi]
 rw[getD_set_ne false e,bE.2 e,Bool.or_false]
def Wu (md:Region.Mode)(ops:Array Oper)(c n:Nat)(L:Nat→Option (Value→Prop)):Prop:=∀j,HeadInv md ops n j→∀k,k<n→k∈Region.ready md ops j→L k≠none→ph c j=(k !=c)
def UB (P:Program)(md:Region.Mode)(ops:Array Oper)(S:Bool→World→Prop)(c:Nat)(T:List Tmp)(F:Tmp→Value→World→Prop)(L:Nat→Option (Value→Prop))(D:Nat→Bool)(X:List PanicEntry→World→Prop)(n:Nat)(Q:Array Bool→Act→Prop):Nat→Bool→Array Bool→Act→Prop
 |0,dead,C,a=>(∃w,S (ph c C) w∧eU ops T F C a w)→(∀j∈Region.ready md ops C,n≤j)∧(dead=false→Q C a)
 |I+1,dead,C,a=>(∃w,S (ph c C) w∧eU ops T F C a w)→Region.ready md ops C≠[]∧
  ∀i∈Region.ready md ops C,i<n∧∀o,ops[i]? =some o→∃V,wv P ops S c T F X i o (L i) (D i) a V∧∀v,V v→UB P md ops S c T F L D X n Q I (dead||D i) (C.setIfInBounds i true) (a.put o.dst v)
theorem Ag {n g:Nat}{Q:Array Bool→Act→Prop}{Q':Exit→Act→World→Prop}{J:Act→Prop}(hm:lk md ops T)(hR:∀C,HeadInv md ops n C→∀i,i<n→C.getD i true=false→∀j∈Region.ready md ops C,j<n)(hW:Wu md ops c n L)(hJ:∀(i:Nat) (o:Oper) (a:Act) (v:Value),ops[i]? =some o→J a→J (a.put o.dst v))(hX:∀a ch w,X ch w→J a→Q' (.panic ch) a w)
 (hQ:∀C a w,S (ph c C) w→eU ops T F C a w→Q C a→wpAny P md ops Q' g C a w):∀(I:Nat) (C:Array Bool) (a:Act) (w:World),HeadInv md ops n C→J a→S (ph c C) w→eU ops T F C a w→
 UB P md ops S c T F L D X n Q I false C a→wpAny P md ops Q' (I+g) C a w
 |0,C,a,w,_,_,hw,hf,h=>by rw[cN];exact hQ _ _ _ hw hf ((h ⟨w,hw,hf⟩).2 rfl)
 |I+1,C,a,w,inv,h0,hw,hf,h=>by(
 rw[show I+1+g=(I+g)+1 by omega];refine⟨fun h1=>absurd h1 (h ⟨w,hw,hf⟩).1,fun i hi=>?_⟩;obtain⟨a6,o,ho,_⟩:=mem_ready.1 hi;obtain⟨a1,a7⟩:=(h ⟨w,hw,hf⟩).2 i hi;obtain⟨V,hy,hn⟩:=a7 o ho;have hp:=hf.pre hm hi ho;have R:=US (c:=c) a6;have Y:=inv.set hi a1;unfold wpOp;simp only[ho];rcases hy with ⟨h1,_,hd,hk,v,rfl,h3⟩|⟨h1,hl,h3,_⟩|⟨h1,hd,hk,rfl,h3⟩;·rw[ap h1];left;obtain⟨hr,a8⟩:=h3 _ w hw hp;unfold Oper.wp;rw[hr];have:=hn v rfl;rw[hd] at this;rw[bE.2 hk,Bool.or_false] at R;exact Ag hm hR hW hJ hX hQ I _ _ w Y (hJ _ _ _ _ ho h0) (by rw[R];exact hw) (hf.next (S:=S (ph c C)) ho ⟨hw,fun _ _ _ h=>h,a8⟩) this
 ·(
 rw[ap h1];left;have hb:=hW C inv i a1 hi (by rw[hl];simp);rw[hb] at hw;rw[hb,show((i !=c)||i==c)=true by unfold bne;cases (i==c)<;>rfl] at R;have hr:=h3 w hw hp;unfold Oper.wp;generalize (execOp a.eval o).run P w=r at hr;cases r with
 |ok nx w'=>
  cases nx<;>simp only[xG] at hr<;>simp only[Oper.upon]
  case value u=>(have:=hn u hr.2.1;rw[hr.1] at this;exact Ag hm hR hW hJ hX hQ I _ _ w' Y (hJ _ _ _ _ ho h0) (by rw[R];exact hr.2.2.1) (hf.next ho hr.2.2) this)
  case skip=>(have:=hn undef hr.2.1;rw[hr.1] at this;exact Ag hm hR hW hJ hX hQ I _ _ w' Y (hJ _ _ _ _ ho h0) (by rw[R];exact hr.2.2.1) (hf.next ho hr.2.2) this)
  case enter f args=>(
 refine hr.mono ?_;rintro e b0 (⟨hd,u,rfl,hv,hg⟩|⟨ch,rfl,hx⟩)
 ·have:=hn u hv
  rw[hd] at this;exact Ag hm hR hW hJ hX hQ I _ _ b0 Y (hJ _ _ _ _ ho h0) (by rw[R];exact hg.1) (hf.next ho hg) this
 exact hX _ _ _ hx h0)
 |halt x w'=>simp only[xG] at hr)
 rw[ae (by rw[h1];exact oG)];have:=hn undef rfl;rw[hd] at this;rw[bE.2 hk,Bool.or_false] at R;exact Ag hm hR hW hJ hX hQ I _ _ w Y (hJ _ _ _ _ ho h0) (by rw[R];exact hw) (hf.next (S:=S (ph c C)) ho ⟨hw,fun _ _ _ h=>h,fun d hd ht=>absurd ht (h3 d hd)⟩) this)
theorem VB {n:Nat}{Q:Array Bool→Act→Prop}{i:Nat}{oi:Oper}{V:Value→Prop}(hm:lk md ops T)(hW:Wu md ops c n L)(hi:ops[i]? =some oi)(b1:∀(j:Nat) (o:Oper) cs b,ops[j]? =some o→o.op≠.select cs b)
 (hR:∀C,HeadInv md ops n C→∀i,i<n→C.getD i true=false→∀j∈Region.ready md ops C,j<n) (a7:i<n):
 ∀(I:Nat) (dead:Bool) (C:Array Bool) (a:Act),HeadInv md ops n C→
  (∀j oj,ops[j]? =some oj→j≠i→C.getD j true=false→(∀e∈oj.after,Region.binds md e=true→e.on≠i)→oi.apart ops oj=true)→
  i∈Region.ready md ops C→wv P ops S c T F X i oi (L i) (D i) a V→
  (∀v,V v→UB P md ops S c T F L D X n Q I (dead||D i) (C.setIfInBounds i true) (a.put oi.dst v))→UB P md ops S c T F L D X n Q (I+1) dead C a:=by
 intro I;induction I with
 |zero=>
  intro dead C a inv _ hr hy H a6;obtain⟨w0,b4,a8⟩:=a6;have J:=(mem_ready.1 hr).1;obtain⟨v0,w1,b5,hg⟩:=hy.some_ (fun hl=>hW C inv i a7 hr hl) b4 (a8.pre hm hr hi);have h1:=H v0 b5 ⟨w1,by rw[US J];exact hg.1,a8.next hi hg⟩;refine⟨fun h=>(by rw[h] at hr;cases hr),fun j hj=>⟨hR _ inv i a7 J j hj,fun o ho=>?_⟩⟩;by_cases R:j=i;·subst R;rw[hi] at ho;cases ho;exact⟨V,hy,H⟩
  have h2:=h1.1 j (ready_mono hj R);have h3:=hR _ inv i a7 J j hj;omega
 |succ I ih=>
  intro dead C a inv b2 hr hy H a6;obtain⟨w0,b4,a8⟩:=a6;have J:=(mem_ready.1 hr).1;obtain⟨v0,w1,b5,hg⟩:=hy.some_ (fun hl=>hW C inv i a7 hr hl) b4 (a8.pre hm hr hi);have h1:=H v0 b5 ⟨w1,by rw[US J];exact hg.1,a8.next hi hg⟩;refine⟨fun h=>(by rw[h] at hr;cases hr),fun j hj=>⟨hR _ inv i a7 J j hj,fun oj Y=>?_⟩⟩;have c7:=hR _ inv i a7 J j hj;by_cases R:j=i;·subst R;rw[hi] at Y;cases Y;exact⟨V,hy,H⟩
  obtain⟨b0,e3,b7,c1⟩:=mem_ready.1 hj;rw[Y] at b7;cases b7;have c2:∀e∈oj.after,Region.binds md e=true→e.on≠i:=fun e he hb heq=>by have h1:=c1 e he hb;rw[heq,getD_both J] at h1;cases h1
  obtain⟨a1,a2,a3⟩:=Oper.apart_spec (b2 j oj Y R b0 c2);obtain⟨Vj,c8,_⟩:=(h1.2 j (ready_mono hj R)).2 oj Y;have b8:=(wv.put (fun cs b=>b1 j oj cs b Y) a1).1 c8;have c9:=a8.pre hm hj Y
  have b6:∀k ok,ops[k]? =some ok→k≠i→(C.setIfInBounds j true).getD k true=false→
   (∀e∈ok.after,Region.binds md e=true→e.on≠i)→oi.apart ops ok=true:=fun k ok hk d7 J d8=>by
   refine b2 k ok hk d7 ?_ d8;by_cases c3:j=k;·subst c3;exact b0
   rw[getD_set_ne true c3] at J;exact J
  refine⟨Vj,b8,fun u hu=>ih (dead||D j) (C.setIfInBounds j true) (a.put oj.dst u) (inv.set hj c7) b6 (ready_mono hr (Ne.symm R)) ((wv.put (fun cs b=>b1 i oi cs b hi) a3).2 hy) fun v hv=>?_⟩;have comm:=Act.put_comm a v u a2;have key:(∃w,S (ph c ((C.setIfInBounds j true).setIfInBounds i true)) w∧eU ops T F ((C.setIfInBounds j true).setIfInBounds i true) ((a.put oj.dst u).put oi.dst v) w)→UB P md ops S c T F L D X n Q I (dead||D j||D i) ((C.setIfInBounds j true).setIfInBounds i true) ((a.put oj.dst u).put oi.dst v):=by(
 rintro⟨w2,b9,c4⟩;rw[←comm,Array.setIfInBounds_comm _ _ R] at c4⊢;rw[Array.setIfInBounds_comm _ _ R] at b9;have b3:(C.setIfInBounds i true).getD j true=false:=by rw[getD_set_ne true (Ne.symm R)];exact b0
 have d9:=c4.less hm Y b3;have c5:∃w,S (ph c (C.setIfInBounds i true)) w∧eU ops T F (C.setIfInBounds i true) (a.put oi.dst v) w:=by(
 by_cases c0:j=c
 ·have e0:L i=none∨Region.wanted oi (yielded ops a.tmps)=false:=by(
 by_cases hl:L i=none;·exact .inl hl
 exfalso;have h5:=hW C inv i a7 hr hl;have h6:ph c C=false:=by unfold ph;rw[←c0];exact getD_both b0
 have h7:(i !=c)=true:=by rw[bne_iff_ne];exact fun e=>R (c0.trans e.symm)
 rw[h6,h7] at h5;cases h5)
  have ev:=hy.single e0 hv b5;subst ev;exact⟨w1,by rw[US J];exact hg.1,a8.next hi hg⟩
 refine⟨w2,?_,d9⟩;rw[US b3,bE.2 c0,Bool.or_false] at b9;exact b9)
 obtain⟨V2,e1,e2⟩:=((H v hv c5).2 j (ready_mono hj R)).2 oj Y;have c6:=(wv.put (fun cs b=>b1 j oj cs b Y) a1).1 e1;have:=b8.unique c6 b4 c9;subst this;rw[Bool.or_right_comm];exact e2 u hu)
  cases I with
  |zero=>exact fun a6=>key a6 a6
  |succ I=>exact fun a6=>key a6 a6
def WE (P:Program)(ops:Array Oper)(S:Bool→World→Prop)(c:Nat)(T:List Tmp)(F:Tmp→Value→World→Prop)(L:Nat→Option (Value→Prop))(D:Nat→Bool)(X:List PanicEntry→World→Prop)(Q:Act→Prop):List Oper→Nat→Bool→Act→Prop
 | [],_,dead,a=>dead=false→Q a
 |o::rest,k,dead,a=>∃V,wv P ops S c T F X k o (L k) (D k) a V∧∀v,V v→WE P ops S c T F L D X Q rest (k+1) (dead||D k) (a.put o.dst v)
theorem UZ {n g:Nat}{Q:Act→Prop}(hm:lk md ops T)(hW:Wu md ops c n L)(hs:Region.noSelect ops=true)
 (hR:∀C,HeadInv md ops n C→∀i,i<n→C.getD i true=false→∀j∈Region.ready md ops C,j<n):
 ∀(l:List Oper) (k:Nat) (dead:Bool) (C:Array Bool) (a:Act),(∀j,j<l.length→l[j]? =ops[k+j]?)→k+l.length=n→HeadInv md ops n C→(∀j,j<k→C.getD j false=true)→
 Region.lexHead md ops g l.length k C=true→WE P ops S c T F L D X Q l k dead a→
 UB P md ops S c T F L D X n (fun I a'=>Region.seqB md ops g n I=true∧(∀j,j<n→I.getD j false=true)∧Q a') l.length dead C a
 | [],k,dead,C,a,_,hk,_,hd,J,h=>by
  have:k=n:=by simpa using hk
  subst this;have J:Region.seqB md ops g k C=true:=by simpa [Region.lexHead] using J
  exact fun _=>⟨seqB_ready J,fun R=>⟨J,hd,h R⟩⟩
 |o::l,k,dead,C,a,hl,hk,inv,hd,J,h=>by(
 have h0:ops[k]? =some o:=by simpa using(hl 0 (by simp)).symm
 simp only[kI,Region.lexHead,gE] at J;obtain⟨⟨hr,hf⟩,a6⟩:=J;have Y:k<n:=by simp only[kI] at hk;omega
 have a1:k∈Region.ready md ops C:=by simpa using hr
 obtain⟨V,hy,hK⟩:=h;have a7:k<C.size:=by rw[inv.size];exact(mV.1 h0).1
 refine VB hm hW h0 (Region.noSelect_spec hs) hR Y l.length dead C a inv (Region.free_spec h0 hf) a1 hy
  fun v hv=>UZ hm hW hs hR l (k+1) _ _ _ (fun j hj=>by have:=hl (j+1) (by simp;omega);simpa [Nat.add_assoc,Nat.add_comm 1 j] using this) (by simp only[kI] at hk;omega) (inv.set a1 Y) (fun j hj=>?_) a6 (hK v hv)
 by_cases e:k=j;·subst e;simp[a7]
 rw[getD_set_ne false e];exact hd j (by omega))
def VV (md:Region.Mode)(ops:Array Oper)(c:Nat):Nat→Nat→Bool
 |0,_=>false
 |f+1,k=>match ops[k]? with
  |some o=>o.after.any fun e=>Region.binds md e&&(e.on==c||VV md ops c f e.on)
  |none=>false
theorem UY {n:Nat}{j:Array Bool}(inv:HeadInv md ops n j):∀(f k:Nat) (o:Oper),ops[k]? =some o→VV md ops c f k=true→(∀e∈o.after,Region.binds md e=true→j.getD e.on false=true)→j.getD c false=true
 |0,_,_,_,h,_=>by cases h
 |f+1,k,o,Y,h,I=>by(
 unfold VV at h;simp only[Y] at h;obtain⟨e,he,h⟩:=Array.any_eq_true'.1 h;simp only[gE,Bool.or_eq_true,cy] at h;have R:=I e he h.1;rcases h.2 with C|C;·rw[←C];exact R
 cases J:ops[e.on]? with
 |none=>cases f with
  |zero=>cases C
  |succ f=>unfold VV at C;rw[J] at C;cases C
 |some o'=>exact UY inv f e.on o' J C (inv.closed _ _ J R))
def Xw (md:Region.Mode)(ops:Array Oper)(c:Nat)(M:List Nat):Bool:=M.all fun k=>VV md ops c ops.size k
theorem Xx {n:Nat}{M:List Nat}(J:∀k,L k≠none→k=c∨k∈M)(h:Xw md ops c M=true):Wu md ops c n L:=by
 intro C inv k hk R Y;obtain⟨I,o,ho,j⟩:=mem_ready.1 R;by_cases e:k=c
 ·subst e
  rw[bne_self_eq_false];exact getD_both I
 have h1:=(J k Y).resolve_left e;have h2:=List.all_eq_true.1 h k h1;rw[show(k !=c)=true by rw[bne_iff_ne];exact e];exact UY inv _ k o ho h2 j
theorem hH {id:Nat}{Q:Exit→Act→World→Prop}{a:Act}{w:World}{l:List Oper}(n c:Nat)(M:List Nat)(S:Bool→World→Prop)(T:List Tmp)(F:Tmp→Value→World→Prop)(L:Nat→Option (Value→Prop))(D:Nat→Bool)(X:List PanicEntry→World→Prop)
 (hm:P.follows .mixedOrders=true) (hB:yZ .any l.toArray n=true) (hT:ns .any l.toArray T=true) (b2:pM l.toArray T n=true) (hM:∀k,L k≠none→k=c∨k∈M) (b3:Xw .any l.toArray c M=true) (b4:c<n)
 (hS:S false w.drew) (hX:∀I ch w,X ch w→I.defers=a.defers→Q (.panic ch) I w) (h:WE P l.toArray S c T F L D X (fun I=>∀w',S true w'→(∀t∈T,∀v,I.tmps[t]? =some v→F t v w')→wpList P l.toArray Q (l.drop n) I w') (l.take n) 0 false a):(Code.region id l.toArray true).wp P Q a w:=by
 simp only[yZ,gE,Bool.or_eq_true,cy,qal] at hB;obtain⟨⟨a6,hn⟩,a7⟩:=hB;have a8:=sU hT;have hW:=Xx (n:=n) hM b3;have b9:n≤l.length:=by rcases hn with h|⟨⟨h,_⟩,_⟩<;>simp at h<;>omega
 have R:(l.take n).length=n:=by simp;omega
 have b0:(l.drop n).length=l.toArray.size-n:=by simp
 have a1:HeadInv .any l.toArray n (Array.replicate l.toArray.size false):=
  ⟨by simp,fun j oj _ hl=>(by rw[getD_replicate_false] at hl;cases hl),fun t _ ht=>getD_in (by simpa using ht) (getD_replicate_false _ _)⟩
 have hR:∀C,HeadInv .any l.toArray n C→∀i,i<n→C.getD i true=false→∀j∈Region.ready .any l.toArray C,j<n:=by(
 intro C inv i hi b5 j hj;obtain⟨_,oj,b6,_⟩:=mem_ready.1 hj;have c0:=(mV.1 b6).1;rcases hn with h|⟨⟨h,hs⟩,hc⟩;·omega
 rcases Nat.lt_or_ge j n with h'|h';·exact h'
 exact absurd hj (tail_waits hs hc h inv _ i rfl hi b5 j h'))
 have H:=UZ (md:=.any) (g:=l.toArray.size-n) a8 hW a6 hR (l.take n) 0 false _ a (fun j hj=>by
  have b7:j<n:=by rw[R] at hj;exact hj
  simp[b7]) (by simpa using R) a1 (fun j hj=>by omega) (by rw[R];exact a7) h
 refine wp_region_any hm ?_;have:=Ag (Q':=Q) (J:=fun I=>I.defers=a.defers) (g:=l.toArray.size-n) a8 hR hW (fun _ _ _ _ _ h=>(tA _ _ _).trans h) hX (fun C I w' b1 hf hL=>by
  have Y:∀t∈T,∀v,I.tmps[t]? =some v→F t v w':=fun t ht v hv=>by(
 have h1:=List.all_eq_true.1 b2 t ht;obtain⟨k,hk,h2⟩:=mW.1 h1;cases hx:l.toArray[k]? with
 |none=>simp[hx] at h2
 |some x=>simp only[hx,cy] at h2;exact hf k x t (hL.2.1 k (fg.1 hk)) hx h2 ht v hv)
  have b8:ph c C=true:=hL.2.1 c b4;rw[b8] at b1;have:=wpAny_of_seq (md:=.any) (Q':=Q) (l.drop n) n C I w' (fun j=>by simp[List.getElem?_drop]) (by rw[b0];exact hL.1) (hL.2.2 w' b1 Y);rwa [b0] at this) _ _ _ w.drew a1 rfl (by rw[show ph c (Array.replicate l.toArray.size false)=false from getD_replicate_false _ _];exact hS) (fun k o d hk=>by exfalso;rw[getD_replicate_false] at hk;cases hk) H
 rw[R,show n+(l.toArray.size-n)=l.toArray.size by omega] at this;exact this
section steps
variable {Q:Act→Prop} {o:Oper} {rest:List Oper} {k:Nat} {dead:Bool} {a:Act}
theorem TE (h:Q a):WE P ops S c T F L D X Q [] k dead a:=fun _=>h
theorem cg {v:Value}(hw:Region.wanted o (yielded ops a.tmps)=true)(C:L k=none)(j:D k=false)(I:k≠c)(J:∀d,o.dst=some d→d∉T)(h:∀b w,S b w→ij ops T F o a w→(execOp a.eval o).run P w=.ok (.value v) w)(R:WE P ops S c T F L D X Q rest (k+1) dead (a.put o.dst v)):WE P ops S c T F L D X Q (o::rest) k dead a:=
 ⟨_,.inl ⟨hw,C,j,I,v,rfl,fun b w Y hp=>⟨h b w Y hp,fun d j hT=>absurd hT (J d j)⟩⟩,fun _ e=>by subst e;rw[j,Bool.or_false];exact R⟩
theorem UC {V:Value→Prop}(hw:Region.wanted o (yielded ops a.tmps)=true)(I:L k=some V)(C:D k=false)(h:∀w,S (k !=c) w→ij ops T F o a w→xG P (S true) T F X false V o w ((execOp a.eval o).run P w))(j:∀w,S (k !=c) w→ij ops T F o a w→∃u J,V u∧om (S true) T F o w J u)(R:∀v,V v→WE P ops S c T F L D X Q rest (k+1) dead (a.put o.dst v)):WE P ops S c T F L D X Q (o::rest) k dead a:=
 ⟨V,.inr (.inl ⟨hw,I,by rw[C];exact h,j⟩),fun v Y=>by rw[C,Bool.or_false];exact R v Y⟩
theorem OY {v:Value}{C:Act}(h:∀b w,S b w→ij ops T F o a w→(execOp a.eval o).run P w=.ok (.value v) w)(I:WE P ops S c T F L D X Q rest (k+1) dead C)(hw:Region.wanted o (yielded ops a.tmps)=true:=by rfl)(J:L k=none:=by rfl)(j:D k=false:=by rfl)(R:k≠c:=by decide)(Y:∀d,o.dst=some d→d∉T:=by intro d j;cases j;decide)(hp:a.put o.dst v=C:=by conv=>lhs;simp only[Act.put,List.setIfInBounds_toArray,List.set_cons_zero,List.set_cons_succ]):WE P ops S c T F L D X Q (o::rest) k dead a:=cg hw J j R Y h (by rw[hp];exact I)
end steps
end
end
section
open Go Go.RowKit
section
variable {P:Program}
theorem NO (w:World)(base:Nat)(t ty e:TypeId)(i:TypeInfo)(z:Value)(size bytes:Nat)(ht:P.underlying t=some (.slice e))(hi:P.info? e=some i)(hz:i.zero=some z)
 (b2:i.size=size) (b8:i.bytes=bytes) (v:Value) (n:Nat) (xs:List Value) (o:w.ownsRow base e size v n xs)
 (b off c:Nat) (news:List Value) (hl:news.length=size) (hA:∀(j:Nat) u,news[j]? =some u→w.cell? ⟨b,off+j,none⟩=some u)
 (h1:∀u∈news,u.oneCell'=true) (b9:n+1≤maxLen) (a6:(n+1)*bytes≤140737488355328)
 (a8:0<size) (v':Value) (w':World) (hr:(Builtin.append_ #[t,t] ty #[v,.slice (some ⟨b,off,none⟩) 1 c]).run P w=.ok v' w'):
 w'.ownsRow base e size v n xs∧∀u ys,w.ownsRow base e size u (n+1) ys→u.ownBlock=v.ownBlock→w'.ownsRow base e size u (n+1) (xs++news):=by
 have b5:∀(j:Nat) u,news[j]? =some u→w.cell? ((⟨b,off,none⟩:Addr).add j)=some u:=fun j u hu=>by(
 have:=hA j u hu;unfold Addr.add;split;·rename_i h;subst h;exact this
 exact this)
 subst b2;subst b8;have I:(xs++news).length=(n+1)*i.size:=by rw[iQ,o.1,hl,Nat.succ_mul]
 rcases o.2 with hn|⟨g,cap,cur,rfl,hb,hh,hc,hm,a7,b3⟩
 ·refine⟨⟨o.1,.inl hn⟩,fun u _ hu e=>?_⟩
  rcases hu.2 with ⟨_,h0⟩|⟨g2,C,b0,rfl,_⟩;·omega
  rw[hn.1] at e;cases e
 by_cases J:n+1≤cap;·(
 have b6:n*i.size+news.length≤cur.size:=by rw[hl,a7,←Nat.succ_mul];exact Nat.mul_le_mul_right _ J
 have h2:=run_append_room (P:=P) w t ty e i ht hi g n cap cur hh ⟨b,off,none⟩ 1 c news (by rw[hl,Nat.one_mul]) b5 h1 J b6;rw[hr] at h2;injection h2 with _ h2;subst h2;have Y:(cur.toList.take (n*i.size)).length=n*i.size:=by rw[fN,Array.length_toList];omega
 have b1:=setRow_heap w g cur (cur.toList.take (n*i.size)++news++cur.toList.drop (n*i.size+news.length)).toArray e _ hh;have R:(cur.toList.take (n*i.size)++news++cur.toList.drop (n*i.size+news.length)).toArray.size=cap*i.size:=by simp only[List.size_toArray,iQ,Y,List.length_drop,Array.length_toList];omega
 refine⟨⟨o.1,.inr ⟨g,cap,_,rfl,hb,b1,hc,hm,R,?_⟩⟩,fun u _ hu eu=>⟨I,?_⟩⟩
 ·rw[jM]
  show((cur.toList.take (n*i.size))++_).take (n*i.size)=xs;rw[List.take_append_of_le_length (eE Y.symm),oF (eE Y)];exact b3
 rcases hu.2 with ⟨_,h0⟩|⟨g2,C,b0,rfl,c0,a1,c1,c2,b4,c3⟩;·omega
 cases eu;rw[hh] at a1;cases a1;have b7:C=cap:=Nat.eq_of_mul_eq_mul_right a8 (b4.symm.trans a7);subst b7;refine .inr ⟨g,C,_,rfl,hb,b1,J,hm,R,?_⟩;rw[b3];show((xs++news)++_).take ((n+1)*i.size)=xs++news;rw[List.take_append_of_le_length (eE I.symm),oF (eE I)])
 have holds:∀(j:Nat) u,xs[j]? =some u→w.cell? ((⟨g,0,none⟩:Addr).add j)=some u:=o.cells (g:=g) rfl;have h2:=run_append_grow (P:=P) w t ty e i z ht hi hz ⟨g,0,none⟩ n cap xs o.1 holds ⟨b,off,none⟩ 1 c news (by rw[hl,Nat.one_mul]) b5 (by omega) (by unfold maxLen at b9;omega) (growslice_fits (by omega) a6);rw[hr] at h2;injection h2 with _ h2;subst h2;refine⟨⟨o.1,.inr ⟨g,cap,cur,rfl,hb,al.alloc (w:=w.drew) (t:=e) (cs:=cur) hh _,hc,hm,a7,b3⟩⟩,fun u _ hu eu=>?_⟩;rcases hu.2 with ⟨_,h0⟩|⟨g2,C,b0,rfl,c0,a1,c1,c2,b4,c3⟩;·omega
 cases eu;rw[hh] at a1;cases a1;have b7:C=cap:=Nat.eq_of_mul_eq_mul_right a8 (b4.symm.trans a7);omega
def DL (W:World)(base:Nat)(e:TypeId)(size:Nat)(v:Value)(n:Nat)(xs:List Value)(w:World):Prop:=aa (fun b=>v.ownBlock≠some b) W w∧w.ownsRow base e size v n xs
def Oa (u:Value):Prop:=∃g,u=.slice (some ⟨g,0,none⟩) 1 1
def NT (n:Nat)(u:Value):Prop:=∃A c,u=.slice A (n+1) c
variable {ops:Array Oper} {X:List PanicEntry→World→Prop} {W:World} {base:Nat} {e:TypeId} {size:Nat} {v:Value} {n:Nat} {xs cells:List Value} {tb ta:Tmp} {L:Nat→Option (Value→Prop)} {D:Nat→Bool} {Q:Act→Prop} {o:Oper} {rest:List Oper} {k:Nat} {dead:Bool} {a:Act}
theorem DL.first {w:World}(h:w.ownsRow base e size v n xs):DL w base e size v n xs w.drew:=⟨kR.drew,be h ((aa.refl All w).drew) fun _ _=>trivial⟩
end
end
section
open Go Go.RowKit
section
variable {P:Program}
theorem VJ {c i j:Nat}(x y z:Option (Value→Prop)):∀k,(if k=c then x else if k=i then y else if k=j then z else none)≠none→k=c∨k∈[i,j]:=by
 intro k h;by_cases o:k=c;·exact .inl o
 right;by_cases C:k=i;·rw[C];simp
 by_cases I:k=j;·rw[I];simp
 rw[ae o,ae C,ae I] at h;exact absurd rfl h
def SY (W:World)(E:Nat→Prop)(base:Nat)(e:TypeId)(size:Nat)(v:Value)(n:Nat)(xs:List Value)(PS:Bool→World→Prop)(b:Bool)(w:World):Prop:=
 aa (fun i=>v.ownBlock≠some i∧E i) W w∧w.ownsRow base e size v n xs∧PS b w
def FY (W:World)(E:Nat→Prop)(base:Nat)(e:TypeId)(size:Nat)(v:Value)(n:Nat)(xs:List Value)(o:Value→List Value)(C:Value→World→Prop)(I J t:Tmp)(u:Value)(w:World):Prop:=
 if t=I then∃g y,u=.slice (some ⟨g,0,none⟩) 1 1∧W.heap.size≤g∧al w g e (o y).toArray∧C y w
 else if t=J then C u w
 else∃y j,w.ownsRow base e size u (n+1) (xs++o y)∧C y j∧W.heap.size≤j.heap.size∧aa (fun b=>v.ownBlock≠some b∧E b) j w∧(u.ownBlock=v.ownBlock∨∀g,u.ownBlock=some g→j.heap.size≤g)
structure Vb (W:World)(E:Nat→Prop)(v:Value)(PS:Bool→World→Prop)(C:Value→World→Prop):Prop where
 big:∀i,W.heap.size≤i→E i
 own:∀b,v.ownBlock=some b→E b∧b<W.heap.size
 ps:∀b w w',aa (fun i=>v.ownBlock≠some i) w w'→PS b w→PS b w'
 c:∀y w w',aa (fun i=>v.ownBlock≠some i∧E i) w w'→C y w→C y w'
variable {ops:Array Oper} {X:List PanicEntry→World→Prop} {W:World} {E:Nat→Prop} {base:Nat} {e:TypeId} {size:Nat} {v:Value} {n:Nat} {xs:List Value} {PS:Bool→World→Prop} {cl:Value→List Value} {C:Value→World→Prop} {tb tc ta:Tmp} {L:Nat→Option (Value→Prop)} {D:Nat→Bool} {Q:Act→Prop} {o:Oper} {rest:List Oper} {k c:Nat} {dead:Bool} {a:Act}
theorem SY.first {w:World}(h:w.ownsRow base e size v n xs)(j:PS false w.drew):SY w E base e size v n xs PS false w.drew:=⟨kR.drew,be h ((aa.refl All w).drew) fun _ _=>trivial,j⟩
theorem FY.keep (G:Vb W E v PS C){w Y:World}(k:aa All w Y)(t:Tmp)(u:Value)(h:FY W E base e size v n xs cl C tb tc t u w):FY W E base e size v n xs cl C tb tc t u Y:=by
 unfold FY at h⊢;split
 ·rename_i e;rw[ap e] at h
  obtain⟨g,y,j,I,J,R⟩:=h;exact⟨g,y,j,I,J.kept k trivial,G.c _ _ _ k.all R⟩
 rename_i e;rw[ae e] at h;split
 ·rename_i e;rw[ap e] at h
  exact G.c _ _ _ k.all h
 rename_i e;rw[ae e] at h;obtain⟨y,wz,j,I,J,R,h5⟩:=h;exact⟨y,wz,be j k fun _ _=>trivial,I,J,R.trans k.all,h5⟩
theorem Hy (G:Vb W E v PS C){V:Value→Prop}(hw:Region.wanted o (yielded ops a.tmps)=true)(hl:L c=some V)(hd:D c=false)(J:o.dst=some tc)(a6:tc≠tb)
 (h:∀w,SY W E base e size v n xs PS false w→∃f args,(execOp a.eval o).run P w=.ok (.enter f args) w∧Calls P f args w fun e j=>∃u,e=.returned u∧V u∧aa E w j∧PS true j∧C u j)
 (Y:∀u,V u→WE P ops (SY W E base e size v n xs PS) c [tc,tb,ta] (FY W E base e size v n xs cl C tb tc) L D X Q rest (c+1) dead (a.put (some tc) u)):
 WE P ops (SY W E base e size v n xs PS) c [tc,tb,ta] (FY W E base e size v n xs cl C tb tc) L D X Q (o::rest) c dead a:=by
 have good:∀w j u,SY W E base e size v n xs PS false w→aa E w j→PS true j→C u j→om (SY W E base e size v n xs PS true) [tc,tb,ta] (FY W E base e size v n xs cl C tb tc) o w j u:=by(
 intro w j u I Y hp hc;have hK:aa (fun i=>v.ownBlock≠some i∧E i) w j:=Y.mono fun i hi=>hi.2;refine⟨⟨I.1.trans hK,be I.2.1 Y fun b hb=>(G.own b hb).1,hp⟩,fun t _ u hu=>?_,fun d a1 _=>?_⟩;·(
 unfold FY at hu⊢;split
 ·rename_i et;rw[ap et] at hu
  obtain⟨g2,y2,q1,q2,R,q4⟩:=hu;exact⟨g2,y2,q1,q2,R.kept Y (G.big _ q2),G.c _ _ _ hK q4⟩
 rename_i et;rw[ae et] at hu;split
 ·rename_i ec;rw[ap ec] at hu
  exact G.c _ _ _ hK hu
 rename_i ec;rw[ae ec] at hu;obtain⟨y2,wz,q1,q2,q4,q5,R⟩:=hu;have a7:∀b,u.ownBlock=some b→E b:=fun b hb=>by
  rcases R with R|R;·rw[R] at hb;exact(G.own b hb).1
  have:=R b hb;exact G.big _ (by omega)
 exact⟨y2,wz,be q1 Y a7,q2,q4,q5.trans hK,R⟩)
 rw[J] at a1;cases a1;unfold FY;rw[ae a6,ap rfl];exact hc)
 refine UC hw hl hd (fun w I hp=>?_) (fun w I hp=>?_) (fun u hu=>by rw[J];exact Y u hu)
 ·rw[bne_self_eq_false] at I
  obtain⟨f,args,hr,hc⟩:=h w I;rw[hr];exact hc.mono fun e j ⟨u,h1,h2,h3,h4,h5⟩=>.inl ⟨rfl,u,h1,h2,good w j u I h3 h4 h5⟩
 rw[bne_self_eq_false] at I;obtain⟨f,args,hr,hc⟩:=h w I;obtain⟨e,j,_,⟨u,_,h2,h3,h4,h5⟩,_⟩:=hc [];exact⟨u,j,h2,good w j u I h3 h4 h5⟩
theorem Tv (G:Vb W E v PS C)(a1:k≠c)(hw:Region.wanted o (yielded ops a.tmps)=true)(hl:L k=some Oa)(hd:D k=false)(I:o.dst=some tb)(a6:tc≠tb)(y:Value)(hy:a.tmps[tc]? =some y)(J:tc∈o.looksAt ops)
 (h:∀w,SY W E base e size v n xs PS true w→(execOp a.eval o).run P w=.ok (.value (.slice (some ⟨w.heap.size,0,none⟩) 1 1)) (w.alloc (.cells (cl y).toArray e)))
 (hk:∀g,WE P ops (SY W E base e size v n xs PS) c [tc,tb,ta] (FY W E base e size v n xs cl C tb tc) L D X Q rest (k+1) dead (a.put (some tb) (.slice (some ⟨g,0,none⟩) 1 1))):
 WE P ops (SY W E base e size v n xs PS) c [tc,tb,ta] (FY W E base e size v n xs cl C tb tc) L D X Q (o::rest) k dead a:=by
 have hb:(k !=c)=true:=by rw[bne_iff_ne];exact a1
 have good:∀w,SY W E base e size v n xs PS true w→ij ops [tc,tb,ta] (FY W E base e size v n xs cl C tb tc) o a w→om (SY W E base e size v n xs PS true) [tc,tb,ta] (FY W E base e size v n xs cl C tb tc) o w (w.alloc (.cells (cl y).toArray e)) (.slice (some ⟨w.heap.size,0,none⟩) 1 1):=fun w j R=>by have hc:=R tc J (by simp) _ hy;unfold FY at hc;rw[ae a6,ap rfl] at hc;have Y:aa All w (w.alloc (.cells (cl y).toArray e)):=kR.alloc _;refine⟨⟨j.1.trans Y.all,be j.2.1 Y fun _ _=>trivial,G.ps _ _ _ Y.all j.2.2⟩,fun t _ u hu=>hu.keep G Y t u,fun d hd _=>?_⟩;rw[I] at hd;cases hd;unfold FY;rw[ap rfl];exact⟨_,y,rfl,j.1.size,al.new _ _ _,G.c _ _ _ Y.all hc⟩
 refine UC hw hl hd (fun w j R=>?_) (fun w j R=>?_) ?_
 ·rw[hb] at j
  rw[h w j];exact⟨rfl,⟨_,rfl⟩,good w j R⟩
 ·rw[hb] at j
  exact⟨_,_,⟨_,rfl⟩,good w j R⟩
 rintro u ⟨g,rfl⟩;rw[I];exact hk g
theorem Tu (G:Vb W E v PS C)(b8:k≠c)(hw:Region.wanted o (yielded ops a.tmps)=true)(hl:L k=some (NT n))(hd:D k=false)(a6:o.dst=some ta)(b9:ta≠tb)(c0:ta≠tc)(s:Operand)(t:TypeId)
 (ho:o.op=.call {callee:=.builtin .append,args:=#[s,.tmp tb],argTypes:=#[t,t]}) (i:TypeInfo) (z:Value) (bytes:Nat) (ht:P.underlying t=some (.slice e)) (hi:P.info? e=some i) (hz:i.zero=some z)
 (Y:i.size=size) (b2:i.bytes=bytes) (c1:z.cells.size=size) (b3:0<size) (hs:a.eval s=v) (g:Nat) (hx:a.tmps[tb]? =some (.slice (some ⟨g,0,none⟩) 1 1)) (b0:tb∈o.looksAt ops)
 (h1:∀y w,C y w→(cl y).length=size∧∀u∈cl y,u.oneCell'=true) (b4:n+1≤maxLen) (J:(n+1)*bytes≤140737488355328) (b1:base≤W.heap.size)
 (hk:∀A c',WE P ops (SY W E base e size v n xs PS) c [tc,tb,ta] (FY W E base e size v n xs cl C tb tc) L D X Q rest (k+1) dead (a.put (some ta) (.slice A (n+1) c'))):
 WE P ops (SY W E base e size v n xs PS) c [tc,tb,ta] (FY W E base e size v n xs cl C tb tc) L D X Q (o::rest) k dead a:=by
 have hb:(k !=c)=true:=by rw[bne_iff_ne];exact b8
 have key:∀w,SY W E base e size v n xs PS true w→ij ops [tc,tb,ta] (FY W E base e size v n xs cl C tb tc) o a w→∃v' w',(Builtin.append_ #[t,t] o.type #[v,.slice (some ⟨g,0,none⟩) 1 1]).run P w=.ok v' w'∧NT n v'∧om (SY W E base e size v n xs PS true) [tc,tb,ta] (FY W E base e size v n xs cl C tb tc) o w w' v':=by(
 intro w I hp;have hf:=hp tb b0 (by simp) _ hx;unfold FY at hf;rw[ap rfl] at hf;obtain⟨g',y,eg,c3,c2,hy⟩:=hf;iterate 3 injection eg with eg
 subst eg;obtain⟨b5,a7⟩:=h1 y w hy;have a1:∀(j:Nat) u,(cl y)[j]? =some u→w.cell? ⟨g,0+j,none⟩=some u:=fun j u hu=>by rw[cN,c2.cell j,List.getElem?_toArray];exact hu
 obtain⟨v',w',hr,h2,h3,h4⟩:=JL (P:=P) w base t o.type e i z size bytes ht hi hz Y b2 c1 b3 v n xs I.2.1 (some ⟨g,0,none⟩) 1 1 (cl y) (by rw[b5,Nat.one_mul]) (fun _=>⟨g,0,rfl,a1⟩) a7 b4 J (fR b1 I.1.size);have b6:=NO (P:=P) w base t o.type e i z size bytes ht hi hz Y b2 v n xs I.2.1 g 0 1 (cl y) b5 a1 a7 b4 J b3 v' w' hr;obtain⟨A,c',rfl⟩:=aU h2;have hK:aa (fun b=>v.ownBlock≠some b) w w':=(aa.refl _ w).grown h3 fun b hb=>.inl fun h=>h hb;have R:aa (fun b=>v.ownBlock≠some b∧E b) w w':=hK.mono fun b hb=>hb.1;refine⟨_,w',hr,⟨A,c',rfl⟩,⟨⟨I.1.trans R,b6.1,G.ps _ _ _ hK I.2.2⟩,fun t' _ u hu=>?_,fun d b7 _=>?_⟩⟩;·(
 unfold FY at hu⊢;split
 ·rename_i et;rw[ap et] at hu
  obtain⟨g2,y2,q1,q2,q3,q4⟩:=hu;exact⟨g2,y2,q1,q2,q3.kept hK fun hb=>by have:=(G.own _ hb).2;omega,G.c _ _ _ R q4⟩
 rename_i et;rw[ae et] at hu;split
 ·rename_i ec;rw[ap ec] at hu
  exact G.c _ _ _ R hu
 rename_i ec;rw[ae ec] at hu;obtain⟨y2,wz,q1,q2,q4,q5,q3⟩:=hu;rcases q3 with q3|q3;·exact⟨y,w,b6.2 u _ q1 q3,hy,I.1.size,R,.inl q3⟩
 exact⟨y2,wz,be q1 hK fun b hb hv=>by have h5:=(G.own _ hv).2;have h6:=q3 b hb;omega,q2,q4,q5.trans R,.inr q3⟩)
 rw[a6] at b7;cases b7;unfold FY;rw[ae b9,ae c0];refine⟨y,w,h2,hy,I.1.size,R,?_⟩;rcases h4 with h4|h4;·exact .inl h4
 exact .inr fun g2 a8=>by rw[h4] at a8;cases a8;exact cf _)
 refine UC hw hl hd (fun w I hp=>?_) (fun w I hp=>?_) ?_;·rw[hb] at I;obtain⟨v',w',hr,h2,h3⟩:=key w I hp;unfold execOp;simp only[ho,resolve,invoke,builtin,Sem.run_bind,Sem.run_pure,Result.andThen_ok,List.map_toArray,List.map_cons,List.map_nil,hs,show a.eval (.tmp tb)=.slice (some ⟨g,0,none⟩) 1 1 from by simp[Act.eval,hx],hr];exact⟨rfl,h2,h3⟩
 ·rw[hb] at I
  obtain⟨v',w',hr,h2,h3⟩:=key w I hp;exact⟨v',w',h2,h3⟩
 rintro u ⟨A,c',rfl⟩;rw[a6];exact hk A c'
end
end
section
open Go Go.RowKit
open Go Go.RowKit
section
variable {P:Program}
def NH (W:World)(base:Nat)(e:TypeId)(size:Nat)(v:Value)(n:Nat)(xs cells:List Value)(j t:Tmp)(u:Value)(w:World):Prop:=
 if t=j then∃g,u=.slice (some ⟨g,0,none⟩) 1 1∧W.heap.size≤g∧al w g e cells.toArray
 else w.ownsRow base e size u (n+1) (xs++cells)∧(u.ownBlock=v.ownBlock∨∀g,u.ownBlock=some g→W.heap.size≤g)
theorem NH.keep {W w j:World}{base:Nat}{e:TypeId}{size:Nat}{v:Value}{n:Nat}{xs cells:List Value}{o:Tmp}(k:aa All w j)(t:Tmp)(u:Value)(h:NH W base e size v n xs cells o t u w):NH W base e size v n xs cells o t u j:=by
 unfold NH at h⊢;split
 ·rename_i e;rw[ap e] at h
  obtain⟨g,C,I,J⟩:=h;exact⟨g,C,I,J.kept k trivial⟩
 rename_i e;rw[ae e] at h;exact⟨be h.1 k fun _ _=>trivial,h.2⟩
variable {ops:Array Oper} {X:List PanicEntry→World→Prop} {W:World} {base:Nat} {e:TypeId} {size:Nat} {v:Value} {n:Nat} {xs cells:List Value} {tb ta:Tmp} {L:Nat→Option (Value→Prop)} {D:Nat→Bool} {Q:Act→Prop} {o:Oper} {rest:List Oper} {k:Nat} {dead:Bool} {a:Act}
theorem DL.keep {w j:World}(h:DL W base e size v n xs w)(k:aa All w j):DL W base e size v n xs j:=⟨h.1.trans k.all,be h.2 k fun _ _=>trivial⟩
theorem PE (hw:Region.wanted o (yielded ops a.tmps)=true)(R:L k=some Oa)(I:D k=false)(j:o.dst=some tb)
 (h:∀w,DL W base e size v n xs w→ij ops [tb,ta] (NH W base e size v n xs cells tb) o a w→(execOp a.eval o).run P w=.ok (.value (.slice (some ⟨w.heap.size,0,none⟩) 1 1)) (w.alloc (.cells cells.toArray e))) (Y:∀g,oC P ops (DL W base e size v n xs) [tb,ta] (NH W base e size v n xs cells tb) L D X Q rest (k+1) dead (a.put (some tb) (.slice (some ⟨g,0,none⟩) 1 1))):
 oC P ops (DL W base e size v n xs) [tb,ta] (NH W base e size v n xs cells tb) L D X Q (o::rest) k dead a:=by
 have good:∀w,DL W base e size v n xs w→om (DL W base e size v n xs) [tb,ta] (NH W base e size v n xs cells tb) o w (w.alloc (.cells cells.toArray e)) (.slice (some ⟨w.heap.size,0,none⟩) 1 1):=fun w C=>
  ⟨C.keep (kR.alloc _),fun t _ u hu=>hu.keep (kR.alloc _) t u,fun d I _=>by rw[j] at I;cases I;unfold NH;rw[ap rfl];exact⟨_,rfl,C.1.size,al.new _ _ _⟩⟩
 refine Ey hw R I (fun w C J=>?_) (fun w C J=>⟨_,_,⟨_,rfl⟩,good w C⟩) ?_
 ·rw[h w C J]
  exact⟨rfl,⟨_,rfl⟩,good w C⟩
 rintro u ⟨g,rfl⟩;rw[j];exact Y g
theorem Ov (hw:Region.wanted o (yielded ops a.tmps)=true)(hl:L k=some (NT n))(hd:D k=false)(a1:o.dst=some ta)(b8:ta≠tb)(s:Operand)(t:TypeId)
 (ho:o.op=.call {callee:=.builtin .append,args:=#[s,.tmp tb],argTypes:=#[t,t]}) (i:TypeInfo) (z:Value) (bytes:Nat) (ht:P.underlying t=some (.slice e)) (hi:P.info? e=some i) (hz:i.zero=some z)
 (J:i.size=size) (b1:i.bytes=bytes) (b9:z.cells.size=size) (b2:0<size) (hs:a.eval s=v) (g:Nat) (hx:a.tmps[tb]? =some (.slice (some ⟨g,0,none⟩) 1 1)) (a7:tb∈o.looksAt ops) (b3:cells.length=size)
 (h1:∀u∈cells,u.oneCell'=true) (b4:n+1≤maxLen) (I:(n+1)*bytes≤140737488355328) (a8:base≤W.heap.size) (b5:∀b,v.ownBlock=some b→b<W.heap.size)
 (hk:∀A c,oC P ops (DL W base e size v n xs) [tb,ta] (NH W base e size v n xs cells tb) L D X Q rest (k+1) dead (a.put (some ta) (.slice A (n+1) c))):
 oC P ops (DL W base e size v n xs) [tb,ta] (NH W base e size v n xs cells tb) L D X Q (o::rest) k dead a:=by
 have key:∀w,DL W base e size v n xs w→ij ops [tb,ta] (NH W base e size v n xs cells tb) o a w→∃v' Y,(Builtin.append_ #[t,t] o.type #[v,.slice (some ⟨g,0,none⟩) 1 1]).run P w=.ok v' Y∧NT n v'∧om (DL W base e size v n xs) [tb,ta] (NH W base e size v n xs cells tb) o w Y v':=by(
 intro w C hp;have hf:=hp tb a7 (by simp) _ hx;unfold NH at hf;rw[ap rfl] at hf;obtain⟨g',eg,c1,c0⟩:=hf;iterate 3 injection eg with eg
 subst eg;have R:∀(j:Nat) u,cells[j]? =some u→w.cell? ⟨g,0+j,none⟩=some u:=fun j u hu=>by rw[cN,c0.cell j,List.getElem?_toArray];exact hu
 obtain⟨v',Y,hr,h2,h3,h4⟩:=JL (P:=P) w base t o.type e i z size bytes ht hi hz J b1 b9 b2 v n xs C.2 (some ⟨g,0,none⟩) 1 1 cells (by rw[b3,Nat.one_mul]) (fun _=>⟨g,0,rfl,R⟩) h1 b4 I (fR a8 C.1.size);have b6:=NO (P:=P) w base t o.type e i z size bytes ht hi hz J b1 v n xs C.2 g 0 1 cells b3 R h1 b4 I b2 v' Y hr;obtain⟨A,c,rfl⟩:=aU h2;have hK:aa (fun b=>v.ownBlock≠some b) w Y:=(aa.refl _ w).grown h3 fun b hb=>.inl fun h=>h hb;refine⟨_,Y,hr,⟨A,c,rfl⟩,⟨C.1.trans hK,b6.1⟩,fun t' _ u hu=>?_,fun d b7 _=>?_⟩
 ·unfold NH at hu⊢;split
  ·rename_i et;rw[ap et] at hu
   obtain⟨g2,q1,q2,q3⟩:=hu;exact⟨g2,q1,q2,q3.kept hK fun hb=>by have:=b5 _ hb;omega⟩
  rename_i et;rw[ae et] at hu;refine⟨?_,hu.2⟩;rcases hu.2 with b0|b0;·exact b6.2 u _ hu.1 b0
  exact be hu.1 hK fun b hb hv=>by have h5:=b5 _ hv;have h6:=b0 b hb;omega
 rw[a1] at b7;cases b7;unfold NH;rw[ae b8];refine⟨h2,?_⟩;rcases h4 with h4|h4;·exact .inl h4
 exact .inr fun g2 a6=>by rw[h4] at a6;cases a6;exact C.1.size)
 refine Ey hw hl hd (fun w C hp=>?_) (fun w C hp=>?_) ?_
 ·obtain⟨v',Y,hr,h2,h3⟩:=key w C hp
  unfold execOp;simp only[ho,resolve,invoke,builtin,Sem.run_bind,Sem.run_pure,Result.andThen_ok,List.map_toArray,List.map_cons,List.map_nil,hs,show a.eval (.tmp tb)=.slice (some ⟨g,0,none⟩) 1 1 from by simp[Act.eval,hx],hr];exact⟨rfl,h2,h3⟩
 ·obtain⟨v',Y,hr,h2,h3⟩:=key w C hp
  exact⟨v',Y,h2,h3⟩
 rintro u ⟨A,c,rfl⟩;rw[a1];exact hk A c
end
end
def XS (W:World)(C:Prop)(j:List PanicEntry)(wn:World):Prop:=¬C∧(∃a n:Int,n≠0∧aV a∧aV n∧j=[{v:=.iface 153 (.agg #[.int .i64 a,.int .i64 n]),recovered:=false}])∧aa All W wn
theorem XS.end_ {W w wn:World}{C:Prop}{j:List PanicEntry}{R:Ending→World→Prop}(h:XS W C j wn)(o:aa All w W):ql C R w (.panicked j) wn:=by obtain⟨I,⟨a,n,J,Y,h4,rfl⟩,h5⟩:=h;exact .inr ⟨I,⟨a,n,J,Y,h4,rfl⟩,o.trans h5⟩
theorem XS.stop {W w wn:World}{C:Prop}{j:List PanicEntry}(h:XS W C j wn)(o:aa All w W):KG (.panicked j)∧aa All w wn:=by obtain⟨h1,⟨a,n,I,J,R,rfl⟩,Y⟩:=h;exact⟨⟨a,n,I,J,R,rfl⟩,o.trans Y⟩
theorem RN {id:Nat}{Q':Exit→Act→World→Prop}{a:Act}{w:World}{l I:List Oper}{b:Bool}{C:Prop}(n nd:Nat)(W:World)(L:Nat→Option (Value→Prop))(_:Hid (b=true↔C))(Y:∀j J w,XS W C J w→j.defers=a.defers→Q' (.panic J) j w)(h:oC prog l.toArray (aa All W) [] (fun _ _ _=>True) L (fun i=>i==nd&&!b) (XS W C) (fun j=>∀R,aa All W R→(∀t∈([]:List Tmp),∀v,j.tmps[t]? =some v→True)→wpList prog l.toArray Q' (l.drop n) j R) I 0 false a)(hm:prog.follows .mixedOrders=true:=by kernel_rfl)(hB:yZ .any l.toArray n=true:=by kernel_rfl)(hT:ns .any l.toArray []=true:=by kernel_rfl)(o:pM l.toArray [] n=true:=by kernel_rfl)(hS:aa All W w.drew:=by exact kR.drew)(ht:l.take n=I:=by conv=>lhs;simp only[tK]):(Code.region id l.toArray true).wp prog Q' a w:=
 R2 n W L (fun i=>i==nd&&!b) (XS W C) Y h hm hB hT o hS ht
theorem ql.reg {W w:World}{c C:Prop}[Decidable c]{R:Ending→World→Prop}{G:World→Prop}{f:FuncId}{args:Array Value}{v:Value}(h:Calls prog f args w (ql c R w))(hc:C→c)(Y:aa All W w)(I:∀e j,R e j→e=.returned v∧aa All w j)(hG:∀j,aa All w j→G j):
 Calls prog f args w fun e j=>(decide c=true∧e=.returned v∧aa All W j∧G j)∨∃ch,e=.panicked ch∧XS W C ch j:=
 h.mono fun e j h=>by
  rcases h with ⟨J,o⟩|⟨J,⟨a,n,o,h3,h4,rfl⟩,h5⟩;·exact .inl ⟨bL J,(I _ _ o).1,Y.trans (I _ _ o).2,hG _ (I _ _ o).2⟩
  exact .inr ⟨_,rfl,fun h=>J (hc h),⟨a,n,o,h3,h4,rfl⟩,Y.trans h5⟩
theorem ZT {W wn:World}{b:Nat}{l:List ByteArray}{s:ByteArray}{a r:Int}{C:Prop}(hm:cK W b l)(J:s.size≤140737488355328)(R:aV a)(Y:r=aO l s)(hC:C→0≤r)(o:aa All W wn):
 Calls prog 201 #[.map (some b),.string s,.int .i64 a] wn fun e j=>(decide (0≤r)=true∧e=.returned (.int .i64 r)∧aa All W j∧∀t∈([]:List Tmp),∀_:Value,True→True)∨∃I,e=.panicked I∧XS W C I j:=by
 subst Y;exact ql.reg (lQ b l s a wn (hm.keep o trivial) J R) hC o (fun e j h=>⟨h.1,h.2▸kR⟩) fun _ _ _ _ _ _=>trivial
theorem ZR {W wn:World}{b:Bool}{a n:Int}{C:Prop}(J:aV a)(R:n≠0)(hi:aV n)(Y:C→b=true)(o:aa All W wn):
 Calls prog 83 #[.bool b,.int .i64 a,.int .i64 n] wn fun e j=>(b=true∧e=.returned (.tuple #[])∧aa All W j∧∀t∈([]:List Tmp),∀_:Value,True→True)∨∃I,e=.panicked I∧XS W C I j:=by
 cases b with
 |true=>exact(dX a n wn).mono fun e j h=>.inl ⟨rfl,h.1,h.2▸o,fun _ _ _ _=>trivial⟩
 |false=>exact(fP a n wn).mono fun e j h=>.inr ⟨_,h.1,fun h=>Bool.noConfusion (Y h),⟨a,n,R,J,hi,rfl⟩,h.2▸o⟩
theorem qab (r a:Int)(w:World)(o:aV a):Calls prog 85 #[.int .i64 (max r 0),.bool (decide (0≤r)),.int .i64 a] w (ql (0≤r) (fun e j=>e=.returned (.int .i64 r)∧w=j) w):=by
 by_cases h:0≤r
 ·rw[Int.max_eq_left h,bL h]
  exact(nQ _ _ _).mono fun e j h'=>.inl ⟨h,h'⟩
 rw[cI h];exact(pK _ _ _ o).mono fun e j h'=>.inr ⟨h,h'.1,h'.2▸kR⟩
def rV (S:Nat→Prop)(w:World)(br:Nat)(p:aH)(q:dN):Prop:=∃j C I J R Y ba o,al w br 158 #[j,C,I,J,.int .i64 p.Nc,R,Y,.map (some ba),.map (some o)]∧dJ S w (.agg #[j,C,I,J,.int .i64 p.Nc]) p∧BF S w (.agg #[R,Y]) q∧
 cK w ba (dz q)∧cK w o (fh q)
theorem rV.keep {S:Nat→Prop}{w C:World}{I:Nat}{p:aH}{q:dN}(h:rV S w I p q)(k:aa All w C):rV S C I p q:=by obtain⟨j,J,R,Y,pa,pf,ba,o,h1,h2,h3,h4,h5⟩:=h;exact⟨j,J,R,Y,pa,pf,ba,o,h1.kept k trivial,cB.keep k.all h2,sI.keep k.all h3,h4.keep k trivial,h5.keep k trivial⟩
def ML (p:aH)(q:dN)(f:cD)(x:cX)(w:World)(e:Ending)(j:World):Prop:=
 ql (0≤dv p q f x∧0≤dy f x) (fun e j=>e=.returned (.tuple #[.int .i64 (dv p q f x),.int .i64 (dy f x)])∧aa All w j) w e j
theorem GO (S:Nat→Prop)(br:Nat)(p:aH)(q:dN)(f:cD)(x:cX)(b1 b2:Nat)(xa xf:Value)(w:World)(hr:rV S w br p q)(a8:cK w b1 (cn f))(b6:gB S w xa x.args)(b7:gB S w xf x.Nh)(hx:uB x):
 Calls prog 200 #[.pointer (some ⟨br,0,none⟩),.agg #[.map (some b1),.map (some b2)],.agg #[.int .u8 x.kind,.int .u8 x.op,.string x.dst,.string x.ref,.string x.Ni,xa,xf,.int .i64 x.num,.int .i64 x.Nj]] w (ML p q f x w):=by
 obtain⟨ua,uc,rfl,_⟩:=b6;obtain⟨va,vc,rfl,_⟩:=b7;obtain⟨c5,vu,vi,vo,pa,pf,ba,b8,h1,h2,h3,h4,h5⟩:=hr;have b9:=h2;obtain⟨P1,P2,P3,P4,a6,c0,c1,c2,c3,c4⟩:=b9;iterate 2 injection a6 with a6
 simp only[List.cons.injEq,and_true] at a6;obtain⟨rfl,rfl,rfl,rfl⟩:=a6;obtain⟨a1,n1,rfl,_⟩:=c0;obtain⟨a2,n2,rfl,_⟩:=c1;obtain⟨a3,n3,rfl,_⟩:=c2;obtain⟨a4,n4,rfl,_⟩:=c3;obtain⟨W1,R⟩:=eQ ((w.alloc (.cells #[.map (some b1),.map (some b2)] 167)).alloc (.cells #[.int .u8 x.kind,.int .u8 x.op,.string x.dst,.string x.ref,.string x.Ni,.slice ua x.args.length uc,.slice va x.Nh.length vc,.int .i64 x.num,.int .i64 x.Nj] 185));have I:=aC2 R;have bS:=aA1 R;have bX:=aB0 R aE1;have bR:=h1.kept I trivial;have x0:=bX.cl 0;have HM:=oH (show∀wn,aa All W1 wn→wn.cell? ⟨br,0,none⟩=some (.slice a1 p.MZ.length n1)∧wn.cell? ⟨br,1,none⟩=some (.slice a2 p.up.length n2)∧wn.cell? ⟨br,2,none⟩=some (.slice a3 p.Nb.length n3)∧wn.cell? ⟨br,3,none⟩=some (.slice a4 p.Na.length n4)∧wn.cell? ⟨br,4,none⟩=some (.int .i64 p.Nc)∧wn.cell? ⟨br,7,none⟩=some (.map (some ba))∧wn.cell? ⟨br,8,none⟩=some (.map (some b8))∧wn.cell? ⟨w.heap.size+1,3,none⟩=some (.string x.ref)∧wn.cell? ⟨w.heap.size+1,4,none⟩=some (.string x.Ni)∧wn.cell? ⟨w.heap.size+1,8,none⟩=some (.int .i64 x.Nj)∧wn.cell? ⟨w.heap.size,0,none⟩=some (.map (some b1)) from fun wn j=>⟨(bR.kept j trivial).cell 0,(bR.kept j trivial).cell 1,(bR.kept j trivial).cell 2,(bR.kept j trivial).cell 3,(bR.kept j trivial).cell 4,(bR.kept j trivial).cell 7,(bR.kept j trivial).cell 8,(bX.kept j trivial).cell 3,(bX.kept j trivial).cell 4,(bX.kept j trivial).cell 8,(bS.kept j trivial).cell 0⟩);have o:=J3 R I hx;have HC:=J3 (h4.keep I trivial) (h5.keep I trivial) (a8.keep I trivial);have Y:=oH (fun wn (j:aa All W1 wn)=>cB.keep (I.trans j).all h2);clear h1 h2 h3 h4 h5 R I bS bX bR hx a8 c4;go_enter func200,ntmps200;go_upto_region 1 with fail;rw[←o.1];by_cases h4:x.kind=4∨x.kind=5∨x.kind=6∨x.kind=7;·(
 rcases h4 with e|e|e|e
 all_goals
  first
  |go_upto_region 5 with fail
  |go_upto_region 7 with fail
  have HA:=oH (show dy f x=0 by unfold dy;simp[e]);refine R2 10 W1 (fun i=>if i=8 then some (·=.int .i64 (dv p q f x)) else none) (fun i=>i==8&&!decide (0≤dv p q f x)) (XS W1 (0≤dv p q f x∧0≤dy f x)) (fun _ _ _ h hd=>⟨hd,h.end_ o.2.1⟩) ?_;repeat first
  |refine O0 ?_
  |refine O4 HM.out ?_
  refine O9 (decide (0≤dv p q f x)) HM.out (fun wn j=>?_) ?_
  ·first
   |exact ZT HC.1 o.2.2.ref o.2.2.Nj (by unfold dv;simp[e]) (·.1) j
   |exact ZT HC.2.1 o.2.2.ref o.2.2.Nj (by unfold dv;simp[e]) (·.1) j
  refine O0 ?_;refine fun hd wt C _=>?_;have HD:=oH (show 0≤dv p q f x by simpa using hd);have J:=oH C;clear C hd;simp only[dK];go_wp2_with fail;go_ret2;exact .inl ⟨⟨HD.out,by rw[HA.out];omega⟩,by rw[HA.out]<;>rfl,o.2.1.trans J.out⟩)
 by_cases h8:x.kind=8∨x.kind=9∨x.kind=10∨x.kind=11;·(
 have HA:=oH (show dy f x=0 by unfold dy;rcases h8 with h|h|h|h<;>simp[h]);by_cases e:x.kind=11
 case' pos=>(have J:=oH (aa.refl All W1);have HE:=oH (show dv p q f x=aO (cn f) x.ref by unfold dv;simp[e]);go_upto_region 18 with fail;clear e;obtain⟨e0,e1,e2,e3,e4,e5,e6,e7,e8,e9,c6⟩:=HM.out W1 kR;go_wp2_with fail;have a7:=lQ b1 (cn f) x.ref x.Nj W1 HC.2.2 o.2.2.ref o.2.2.Nj;rw[←HE.out] at a7;refine a7.mono ?_;clear a7)
 case' neg=>(
 rcases (show x.kind=8∨x.kind=9∨x.kind=10 by omega) with e|e|e
 all_goals
  first
  |go_upto_region 9 with fail
  |go_upto_region 12 with fail
  |go_upto_region 15 with fail
  refine R0 12 W1 (fun i=>if i=6 then some (·=.tuple #[.int .i64 (max (dv p q f x) 0),.bool (decide (0≤dv p q f x))]) else none) ?_;repeat first
  |refine O0 ?_
  |refine O4 HM.out ?_
  refine O8 HM.out (fun wn j=>?_) ?_;·(
 first
 |(rw[show dv p q f x=fD p.Nb x.ref by unfold dv;simp[e]];exact(Dh S _ p x.ref wn (Y.out wn j)).mono fun e w' h=>⟨h.1,j.trans h.2,fun _ h=>by cases h⟩)
 |(rw[show dv p q f x=fD p.Na x.ref by unfold dv;simp[e]];exact(AJ S _ p x.ref wn (Y.out wn j)).mono fun e w' h=>⟨h.1,j.trans h.2,fun _ h=>by cases h⟩)
 |(rw[show dv p q f x=eZ p x.ref by unfold dv;simp[e]];exact(qB S _ p x.ref wn (Y.out wn j)).mono fun e w' h=>⟨h.1,j.trans h.2,fun _ h=>by cases h⟩))
  repeat refine O0 ?_
  refine aG fun wt C _=>?_;have J:=oH C;have e9:=(HM.out wt C).2.2.2.2.2.2.2.2.2.1;clear C;simp only[dK];go_wp2_with fail;refine(qab _ _ _ o.2.2.Nj).mono ?_)
 all_goals
  rintro e w4 (⟨hf,rfl,rfl⟩|⟨hf,⟨an,nn,b0,b3,b4,rfl⟩,b5⟩);·have HF:=oH hf;clear hf;go_wp2_with fail;go_ret2;exact .inl ⟨⟨HF.out,by rw[HA.out];omega⟩,by rw[HA.out]<;>rfl,o.2.1.trans J.out⟩
  have HS:=J4 hf b0 b3 (And.intro b4 b5);clear hf b0 b3 b4 b5;go_wp2_with fail;exact⟨rfl,.inr ⟨fun h=>by have h1:=h.1;have h2:=HS.1;omega,⟨an,nn,HS.2.1,HS.2.2.1,HS.2.2.2.1,rfl⟩,o.2.1.trans (J.out.trans HS.2.2.2.2)⟩⟩)
 by_cases e:x.kind=12;·(
 go_upto_region 20 with fail;refine R2 16 W1 (fun i=>if i=6 then some (·=.int .i64 (dv p q f x)) else if i=13 then some (·=.int .i64 (dy f x)) else none) (fun i=>if i=6 then !decide (0≤dv p q f x) else if i=13 then !decide (0≤dy f x) else false) (XS W1 (0≤dv p q f x∧0≤dy f x)) (fun _ _ _ h hd=>⟨hd,h.end_ o.2.1⟩) ?_;repeat first
 |refine O0 ?_
 |refine O4 HM.out ?_
 refine O9 (decide (0≤dv p q f x)) HM.out (fun wn j=>ZT HC.2.2 o.2.2.ref o.2.2.Nj (by unfold dv;simp[e]) (·.1) j) ?_;repeat first
 |refine O0 ?_
 |refine O4 HM.out ?_
 refine O9 (decide (0≤dy f x)) HM.out (fun wn j=>ZT HC.2.2 o.2.2.Ni o.2.2.Nj (by unfold dy;simp[e]) (·.2) j) ?_;repeat refine O0 ?_
 refine fun hd wt C _=>?_;have HD:=oH (show 0≤dv p q f x∧0≤dy f x by simpa using hd);have J:=oH C;clear C hd;simp only[dK];go_wp2_with fail;go_ret2;exact .inl ⟨HD.out,by rfl,o.2.1.trans J.out⟩)
 have HR:=oH (show dv p q f x=0∧dy f x=0 by unfold dv dy;constructor<;>repeat rw[ae (by omega)]);obtain⟨t4,t5,t6,t7,t8⟩:=And.intro (nK x.kind 4 (by omega)) (And.intro (nK x.kind 5 (by omega)) (And.intro (nK x.kind 6 (by omega)) (And.intro (nK x.kind 7 (by omega)) (nK x.kind 8 (by omega)))));have t9:=nK x.kind 9 (by omega);have t10:=nK x.kind 10 (by omega);have t11:=nK x.kind 11 (by omega);have t12:=nK x.kind 12 (by omega);clear h4 h8 e;go_wp2_with fail;go_ret2;exact .inl ⟨by rw[HR.1,HR.2];omega,by rw[HR.1,HR.2]<;>rfl,o.2.1⟩
end Go.Proofs.YtccbbkopmlnkpaaGreatDoor
