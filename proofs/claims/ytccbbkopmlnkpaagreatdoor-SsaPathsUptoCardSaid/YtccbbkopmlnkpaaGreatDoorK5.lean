/- Part 6 of the proof (its last part says what is proved). No condition. -/
import Derived.StillTail
import Derived.Test.YtccbbkopmlnkpaaGreatDoorK4
namespace Go.Proofs.YtccbbkopmlnkpaaGreatDoor
set_option maxRecDepth 100000
set_option maxHeartbeats 8000000
open Go.RowKit Go.Proofs.Tryz
section
def cq {α:Type}(n:Nat)(e:TypeId)(E:aT α)(B:Nat)(w:World)(v:Value)(l:List α):Prop:=
 ∃(css:List (List Value)) (P:Nat→Prop),w.ownsRow B e n v l.length css.flatten∧css.length=l.length∧(∀cs∈css,cs.length=n)∧(∀b,P b→B≤b∧b<w.heap.size∧v.ownBlock≠some b)∧
  ∀(i:Nat) x,l[i]? =some x→∃cs,css[i]? =some cs∧E P w cs x
section
variable {α:Type} {n:Nat} {e:TypeId} {E:aT α} {B:Nat} {w w':World} {v:Value} {l:List α}
theorem cq.nil:cq n e E B w (.slice none 0 0) ([]:List α):=
 ⟨[],fun _=>False,⟨by simp,.inl ⟨rfl,rfl⟩⟩,rfl,(fun _ h=>by cases h),fun _ h=>h.elim,fun i x h=>by simp at h⟩
theorem cq.form (h:cq n e E B w v l):∃A c,v=.slice A l.length c:=by
 obtain⟨j,P,o,_⟩:=h;rcases o.2 with ⟨rfl,C⟩|⟨g,cap,cur,rfl,_⟩;·exact⟨none,0,by rw[C]⟩
 exact⟨_,_,rfl⟩
theorem cq.own (h:cq n e E B w v l):∃xs,w.ownsRow B e n v l.length xs:=by obtain⟨j,P,o,_⟩:=h;exact⟨_,o⟩
theorem cq.keep (g:aT.Good E){S:Nat→Prop}(h:cq n e E B w v l)(k:aa S w w')(I:∀b,B≤b→b<w.heap.size→S b):cq n e E B w' v l:=by
 obtain⟨C,P,J,R,Y,o,h5⟩:=h;refine⟨C,P,ay J k fun b j=>?_,R,Y,fun b j=>?_,fun i x hx=>?_⟩
 ·have:=au J j
  exact I b this.1 this.2
 ·have:=o b j
  have:=k.size;exact⟨by omega,by omega,(o b j).2.2⟩
 obtain⟨cs,hc,he⟩:=h5 i x hx;exact⟨cs,hc,g.keep (k.mono fun b j=>I b (o b j).1 (o b j).2.1) he⟩
theorem cq.app (g:aT.Good E){o:List (List Value)}{J:Value}{cs:List Value}{x:α}{Q:Nat→Prop}
 (hl:o.length=l.length) (hn:∀c∈o,c.length=n) (R:cs.length=n)
 (P:Nat→Prop) (hP:∀b,P b→B≤b∧b<w.heap.size∧v.ownBlock≠some b) (hE:∀(i:Nat) x,l[i]? =some x→∃cs,o[i]? =some cs∧E P w cs x)
 (hQ:∀b,Q b→B≤b∧b<w.heap.size∧v.ownBlock≠some b) (hx:E Q w cs x)
 (Y:w'.ownsRow B e n J (l.length+1) (o.flatten++cs)) (hg:w.grownBy w' v.ownBlock) (a7:J.ownBlock=v.ownBlock∨J.ownBlock=some w.heap.size):cq n e E B w' J (l++[x]):=by
 have a1:aa P w w':=(aa.refl _ w).grown hg fun b j=>.inl fun h=>(hP b h).2.2 j;have a8:aa Q w w':=(aa.refl _ w).grown hg fun b j=>.inl fun h=>(hQ b h).2.2 j;have a6:∀b,B≤b∧b<w.heap.size∧v.ownBlock≠some b→B≤b∧b<w'.heap.size∧J.ownBlock≠some b:=by(
 intro b j;have:=a1.size;refine⟨j.1,by omega,?_⟩;rcases a7 with h|h;·rw[h];exact j.2.2
 rw[h];intro h';injection h' with h';omega)
 refine⟨o++[cs],fun b=>P b∨Q b,?_,by simp[hl],fun c C=>?_,fun b j=>?_,fun i y I=>?_⟩
 ·rw[List.flatten_append,List.flatten_singleton,eV,List.length_singleton]
  exact Y
 ·rcases dV.1 C with C|C
  ·exact hn c C
  rw[ce.1 C];exact R
 ·rcases j with j|j
  ·exact a6 b (hP b j)
  exact a6 b (hQ b j)
 by_cases hi:i<l.length
 ·rw[lC hi] at I
  obtain⟨c,C,he⟩:=hE i y I;exact⟨c,by rw[lC (by omega)];exact C,g.wide (fun b j=>.inl j) (g.keep a1 he)⟩
 rw[jQ (by omega)] at I;have hz:i-l.length=0:=by have:=(lS.1 I).1;simp at this;omega
 rw[hz] at I;cases I;exact⟨cs,by rw[jQ (by omega),hl,hz];rfl,g.wide (fun b j=>.inr j) (g.keep a8 hx)⟩
theorem BL:∀(o:List (List Value)),(∀c∈o,c.length=n)→∀(i:Nat) cs,o[i]? =some cs→∀(j:Nat) u,cs[j]? =some u→o.flatten[i*n+j]? =some u
 | [],_,i,cs,h,_,_,_=>by simp at h
 |c::o,C,0,cs,h,j,u,hu=>by cases h;rw[List.flatten_cons,Nat.zero_mul,dU,lC (lS.1 hu).1];exact hu
 |c::o,C,i+1,cs,h,j,u,hu=>by have I:=C c (List.mem_cons_self ..);have J:=BL o (fun d R=>C d (List.mem_cons_of_mem _ R)) i cs (by simpa using h) j u hu;rw[List.flatten_cons,jQ (by rw[I,Nat.succ_mul];omega),I,show(i+1)*n+j-n=i*n+j by rw[Nat.succ_mul];omega];exact J
theorem cq.read {bw:Nat}(g:aT.Good E)(h:cq n e E B w v l)(I:l.length*bw≤140737488355328):qT n bw E (fun b=>B≤b∧b<w.heap.size) w v l:=by
 obtain⟨R,P,Y,h2,h3,h4,h5⟩:=h;obtain⟨a8,Y⟩:=Y;rcases Y with ⟨rfl,h0⟩|⟨gb,cap,cur,rfl,a1,hh,hc,hm,b0,a6⟩
 ·have:l=[]:=zv h0
  subst this;exact qT.nil
 refine⟨_,_,rfl,hc,hm,I,fun i x hx=>?_⟩;obtain⟨cs,C,hE⟩:=h5 i x hx;have o:∀(j:Nat) u,cs[j]? =some u→w.cell? ⟨gb,0+i*n+j,none⟩=some u:=by(
 intro j u hu;have J:=BL R h3 i cs C j u hu;rw[dU,al.cell (w:=w) (t:=e) (cs:=cur) hh,←Array.getElem?_toList];rw[←a6] at J;have a7:i*n+j<l.length*n:=by have:=(lS.1 J).1;rw[kQ] at this;omega
 rw[Cu a7] at J;exact J)
 refine⟨gb,0,cs,rfl,⟨a1,(kT.1 hh).1⟩,h3 cs (mG C),o,g.wide (fun b I=>⟨(h4 b I).1,(h4 b I).2.1⟩) hE⟩
theorem bC {P:Program}(w:World){ops:Array Oper}{rest:List Oper}{o:Oper}{a:Act}{Q:Exit→Act→World→Prop}(g:aT.Good E)(a8:o.guard=none)(s x:Operand)(t:TypeId)
 (ho:o.op=.call {callee:=.builtin .append,args:=#[s,x],argTypes:=#[t,t]})
 (i:TypeInfo) (z:Value) (bytes:Nat) (ht:P.underlying t=some (.slice e)) (hi:P.info? e=some i) (hz:i.zero=some z)
 (J:i.size=n) (b0:i.bytes=bytes) (b1:z.cells.size=n) (b2:0<n)
 (v:Value) (l:List α) (hs:a.eval s=v) (a6:cq n e E B w v l) (b off c:Nat) (hx:a.eval x=.slice (some ⟨b,off,none⟩) 1 c) (cs:List Value) (y:α) (a7:cs.length=n)
 (R:∀(j:Nat) u,cs[j]? =some u→w.cell? ⟨b,off+j,none⟩=some u) (h1:∀u∈cs,u.oneCell'=true) (hl:l.length≤1000000000) (C:bytes≤10000) (Y:B≤w.heap.size)
 (Qp:Nat→Prop) (hQ:∀b,Qp b→B≤b∧b<w.heap.size∧v.ownBlock≠some b) (hE:E Qp w cs y)
 (h:∀A c w',cq n e E B w' (.slice A (l.length+1) c) (l++[y])→w.grownBy w' v.ownBlock→(∀b,v.ownBlock=some b→B≤b)→wpList P ops Q rest (a.put o.dst (.slice A (l.length+1) c)) w'):wpList P ops Q (o::rest) a w:=by
 obtain⟨b3,Pp,r1,r2,r3,r4,r5⟩:=a6;have hb:(l.length+1)*bytes≤1000000001*10000:=Nat.mul_le_mul (by omega) C;refine cW w a8 s x t ho B e i z n bytes ht hi hz J b0 b1 b2 v l.length b3.flatten hs r1 (some ⟨b,off,none⟩) 1 c cs hx (by rw[a7,Nat.one_mul]) (fun _=>⟨b,off,rfl,R⟩) h1 (by unfold maxLen;omega) (by omega) Y fun v' w' I hg b4=>?_;have a1:=cq.app g r2 r3 a7 Pp r4 r5 hQ hE I hg b4;obtain⟨A,c',rfl⟩:=cd I;exact h A c' w' a1 hg fun b hb=>(au r1 hb).1
end
end
section
open Go
section
variable {P:Program} {ops:Array Oper} {md:Region.Mode} {S:World→Prop} {T:List Tmp} {F:Tmp→Value→World→Prop} {L:Nat→Option (Value→Prop)} {D:Nat→Bool} {X:List PanicEntry→World→Prop}
def pq (P:Program)(S:World→Prop)(T:List Tmp)(F:Tmp→Value→World→Prop)(X:List PanicEntry→World→Prop)(d:Bool)(V:Value→Prop)(o:Oper)(w:World):Result Next→Prop
 |.ok (.value u) w'=>d=false∧V u∧gw S T F o w w' u
 |.ok .skip w'=>d=false∧V undef∧gw S T F o w w' undef
 |.ok (.enter f args) w'=>Calls P f args w' (fun e w''=>(d=false∧∃u,e=.returned u∧V u∧gw S T F o w w'' u)∨∃ch,e=.panicked ch∧X ch w'')
 |_=>False
def eo (P:Program)(ops:Array Oper)(S:World→Prop)(T:List Tmp)(F:Tmp→Value→World→Prop)(X:List PanicEntry→World→Prop)(o:Oper)(lab:Option (Value→Prop))(d:Bool)(a:Act)(V:Value→Prop):Prop:=
 (Region.wanted o (yielded ops a.tmps)=true∧lab=none∧d=false∧∃v,V=(·=v)∧Cr P ops S T F o a v)∨
 (Region.wanted o (yielded ops a.tmps)=true∧lab=some V∧(∀w,S w→dL ops T F o a w→pq P S T F X d V o w ((execOp a.eval o).run P w))∧∀w,S w→dL ops T F o a w→∃u w',V u∧gw S T F o w w' u)∨
 (Region.wanted o (yielded ops a.tmps)=false∧d=false∧V=(·=undef)∧∀d,o.dst=some d→d∉T)
theorem eo.unique {o:Oper}{J:Option (Value→Prop)}{d:Bool}{a:Act}{V V':Value→Prop}(h:eo P ops S T F X o J d a V)(h':eo P ops S T F X o J d a V'){w:World}(hw:S w)(hp:dL ops T F o a w):V=V':=by
 rcases h with ⟨I,R,_,v,rfl,h3⟩|⟨I,R,_⟩|⟨I,_,rfl,_⟩
 ·rcases h' with ⟨j,C,_,v',rfl,k3⟩|⟨j,C,_⟩|⟨j,_⟩
  ·have Y:=(h3 w hw hp).1;rw[(k3 w hw hp).1] at Y;iterate 2 injection Y with Y
   subst Y;rfl
  ·rw[R] at C;cases C
  rw[I] at j;cases j
 ·rcases h' with ⟨j,C,_⟩|⟨j,C,_⟩|⟨j,_⟩
  ·rw[R] at C;cases C
  ·rw[R] at C;injection C
  rw[I] at j;cases j
 rcases h' with ⟨j,_⟩|⟨j,_⟩|⟨_,_,rfl,_⟩;·rw[I] at j;cases j
 ·rw[I] at j;cases j
 rfl
theorem eo.some_ {o:Oper}{C:Option (Value→Prop)}{d:Bool}{a:Act}{V:Value→Prop}(h:eo P ops S T F X o C d a V){w:World}(hw:S w)(I:dL ops T F o a w):∃u J,V u∧gw S T F o w J u:=by
 rcases h with ⟨_,_,_,v,rfl,j⟩|⟨_,_,_,j⟩|⟨_,_,rfl,j⟩;·exact⟨v,w,rfl,hw,fun _ _ _ h=>h,(j w hw I).2⟩
 ·exact j w hw I
 exact⟨undef,w,rfl,hw,fun _ _ _ h=>h,fun d R Y=>absurd Y (j d R)⟩
theorem eo.put {o:Oper}{j:Option (Value→Prop)}{b:Bool}{a:Act}{V:Value→Prop}{dst:Option Tmp}{u:Value}(C:∀cs b,o.op≠.select cs b)(h:∀d,dst=some d→d∉o.looksAt ops):
 eo P ops S T F X o j b (a.put dst u) V↔eo P ops S T F X o j b a V:=by
 unfold eo Cr;rw[execOp_put o C a dst u h,wanted_put o a dst u h];simp only[dL.put h]
def qK (P:Program)(md:Region.Mode)(ops:Array Oper)(S:World→Prop)(T:List Tmp)(F:Tmp→Value→World→Prop)(L:Nat→Option (Value→Prop))(D:Nat→Bool)(X:List PanicEntry→World→Prop)(n:Nat)(Q:Array Bool→Act→Prop):Nat→Bool→Array Bool→Act→Prop
 |0,dead,listed,a=>(∃w,S w∧cI ops T F listed a w)→(∀j∈Region.ready md ops listed,n≤j)∧(dead=false→Q listed a)
 |fuel+1,dead,listed,a=>(∃w,S w∧cI ops T F listed a w)→Region.ready md ops listed≠[]∧
  ∀i∈Region.ready md ops listed,i<n∧∀o,ops[i]? =some o→∃V,eo P ops S T F X o (L i) (D i) a V∧∀v,V v→qK P md ops S T F L D X n Q fuel (dead||D i) (listed.setIfInBounds i true) (a.put o.dst v)
theorem oR (a:Act)(d:Option Tmp)(v:Value):(a.put d v).defers=a.defers:=by cases d<;>rfl
theorem eK {n g:Nat}{Q:Array Bool→Act→Prop}{Q':Exit→Act→World→Prop}{J:Act→Prop}(hm:gS md ops T)(Y:∀(i:Nat) (o:Oper) (a:Act) (v:Value),ops[i]? =some o→J a→J (a.put o.dst v))(hX:∀a ch w,X ch w→J a→Q' (.panic ch) a w)
 (hQ:∀listed a w,S w→cI ops T F listed a w→Q listed a→wpAny P md ops Q' g listed a w):∀(j:Nat) (listed:Array Bool) (a:Act) (w:World),J a→S w→cI ops T F listed a w→
 qK P md ops S T F L D X n Q j false listed a→wpAny P md ops Q' (j+g) listed a w
 |0,listed,a,w,_,hw,R,h=>by rw[dU];exact hQ _ _ _ hw R ((h ⟨w,hw,R⟩).2 rfl)
 |j+1,listed,a,w,h0,hw,R,h=>by(
 rw[show j+1+g=(j+g)+1 by omega];refine⟨fun h1=>absurd h1 (h ⟨w,hw,R⟩).1,fun i hi=>?_⟩;obtain⟨_,o,I,_⟩:=mem_ready.1 hi;obtain⟨V,hy,hn⟩:=((h ⟨w,hw,R⟩).2 i hi).2 o I;have hp:=R.pre hm hi I;unfold wpOp;simp only[I];rcases hy with ⟨h1,_,hd,v,rfl,h3⟩|⟨h1,_,h3,_⟩|⟨h1,hd,rfl,h3⟩;·rw[am h1];left;obtain⟨C,a1⟩:=h3 w hw hp;unfold Oper.wp;rw[C];have:=hn v rfl;rw[hd] at this;exact eK hm Y hX hQ j _ _ w (Y _ _ _ _ I h0) hw (R.next I ⟨hw,fun _ _ _ h=>h,a1⟩) this
 ·(
 rw[am h1];left;have C:=h3 w hw hp;unfold Oper.wp;generalize (execOp a.eval o).run P w=r at C;cases r with
 |ok nx w'=>
  cases nx<;>simp only[pq] at C<;>simp only[Oper.upon]
  case value u=>(have:=hn u C.2.1;rw[C.1] at this;exact eK hm Y hX hQ j _ _ w' (Y _ _ _ _ I h0) C.2.2.1 (R.next I C.2.2) this)
  case skip=>(have:=hn undef C.2.1;rw[C.1] at this;exact eK hm Y hX hQ j _ _ w' (Y _ _ _ _ I h0) C.2.2.1 (R.next I C.2.2) this)
  case enter f args=>(
 refine C.mono ?_;rintro e a6 (⟨hd,u,rfl,hv,hg⟩|⟨ch,rfl,hx⟩)
 ·have:=hn u hv
  rw[hd] at this;exact eK hm Y hX hQ j _ _ a6 (Y _ _ _ _ I h0) hg.1 (R.next I hg) this
 exact hX _ _ _ hx h0)
 |halt x w'=>simp only[pq] at C)
 rw[ah (by rw[h1];exact lE)];have:=hn undef rfl;rw[hd] at this;exact eK hm Y hX hQ j _ _ w (Y _ _ _ _ I h0) hw (R.next I ⟨hw,fun _ _ _ h=>h,fun d hd ht=>absurd ht (h3 d hd)⟩) this)
theorem xk {n:Nat}{Q:Array Bool→Act→Prop}{i:Nat}{oi:Oper}{V:Value→Prop}(hm:gS md ops T)(hi:ops[i]? =some oi)(a7:∀(j:Nat) (o:Oper) cs b,ops[j]? =some o→o.op≠.select cs b)
 (hR:∀listed,HeadInv md ops n listed→∀i,i<n→listed.getD i true=false→∀j∈Region.ready md ops listed,j<n) (b1:i<n):
 ∀(C:Nat) (dead:Bool) (listed:Array Bool) (a:Act),HeadInv md ops n listed→
  (∀j oj,ops[j]? =some oj→j≠i→listed.getD j true=false→(∀e∈oj.after,Region.binds md e=true→e.on≠i)→oi.apart ops oj=true)→
  i∈Region.ready md ops listed→eo P ops S T F X oi (L i) (D i) a V→
  (∀v,V v→qK P md ops S T F L D X n Q C (dead||D i) (listed.setIfInBounds i true) (a.put oi.dst v))→qK P md ops S T F L D X n Q (C+1) dead listed a:=by
 intro C;induction C with
 |zero=>
  intro dead listed a inv _ hr hy H R;obtain⟨w0,b2,a6⟩:=R;obtain⟨v0,w1,b6,hg⟩:=hy.some_ b2 (a6.pre hm hr hi);have h1:=H v0 b6 ⟨w1,hg.1,a6.next hi hg⟩;have Y:=(mem_ready.1 hr).1;refine⟨fun h=>(by rw[h] at hr;cases hr),fun j hj=>⟨hR _ inv i b1 Y j hj,fun o ho=>?_⟩⟩;by_cases I:j=i;·subst I;rw[hi] at ho;cases ho;exact⟨V,hy,H⟩
  have h2:=h1.1 j (ready_mono hj I);have h3:=hR _ inv i b1 Y j hj;omega
 |succ C ih=>
  intro dead listed a inv a8 hr hy H R;obtain⟨w0,b2,a6⟩:=R;obtain⟨v0,w1,b6,hg⟩:=hy.some_ b2 (a6.pre hm hr hi);have h1:=H v0 b6 ⟨w1,hg.1,a6.next hi hg⟩;have Y:=(mem_ready.1 hr).1;refine⟨fun h=>(by rw[h] at hr;cases hr),fun j hj=>⟨hR _ inv i b1 Y j hj,fun oj J=>?_⟩⟩;have c3:=hR _ inv i b1 Y j hj;by_cases I:j=i;·subst I;rw[hi] at J;cases J;exact⟨V,hy,H⟩
  obtain⟨b0,d9,b4,b8⟩:=mem_ready.1 hj;rw[J] at b4;cases b4;have b9:∀e∈oj.after,Region.binds md e=true→e.on≠i:=fun e he hb heq=>by have h1:=b8 e he hb;rw[heq,getD_both Y] at h1;cases h1
  obtain⟨a1,a2,a3⟩:=Oper.apart_spec (a8 j oj J I b0 b9);obtain⟨Vj,c4,_⟩:=(h1.2 j (ready_mono hj I)).2 oj J;have b5:=(eo.put (fun cs b=>a7 j oj cs b J) a1).1 c4;have c5:=a6.pre hm hj J
  have b3:∀k ok,ops[k]? =some ok→k≠i→(listed.setIfInBounds j true).getD k true=false→
   (∀e∈ok.after,Region.binds md e=true→e.on≠i)→oi.apart ops ok=true:=fun k ok hk c6 Y c7=>by
   refine a8 k ok hk c6 ?_ c7;by_cases c0:j=k;·subst c0;exact b0
   rw[getD_set_ne true c0] at Y;exact Y
  refine⟨Vj,b5,fun u hu=>ih (dead||D j) (listed.setIfInBounds j true) (a.put oj.dst u) (inv.set hj c3) b3 (ready_mono hr (Ne.symm I)) ((eo.put (fun cs b=>a7 i oi cs b hi) a3).2 hy) fun v hv=>?_⟩;have comm:=Act.put_comm a v u a2;have key:(∃w,S w∧cI ops T F ((listed.setIfInBounds j true).setIfInBounds i true) ((a.put oj.dst u).put oi.dst v) w)→qK P md ops S T F L D X n Q C (dead||D j||D i) ((listed.setIfInBounds j true).setIfInBounds i true) ((a.put oj.dst u).put oi.dst v):=by(
 rintro⟨w2,c8,c1⟩;rw[←comm,Array.setIfInBounds_comm _ _ I] at c1⊢;have b7:(listed.setIfInBounds i true).getD j true=false:=by rw[getD_set_ne true (Ne.symm I)];exact b0
 have c9:=c1.less hm J b7;obtain⟨V2,d7,d8⟩:=((H v hv ⟨w2,c8,c9⟩).2 j (ready_mono hj I)).2 oj J;have c2:=(eo.put (fun cs b=>a7 j oj cs b J) a1).1 d7;have:=b5.unique c2 b2 c5;subst this;rw[Bool.or_right_comm];exact d8 u hu)
  cases C with
  |zero=>exact fun R=>key R R
  |succ C=>exact fun R=>key R R
def mr (P:Program)(ops:Array Oper)(S:World→Prop)(T:List Tmp)(F:Tmp→Value→World→Prop)(L:Nat→Option (Value→Prop))(D:Nat→Bool)(X:List PanicEntry→World→Prop)(Q:Act→Prop):List Oper→Nat→Bool→Act→Prop
 | [],_,dead,a=>dead=false→Q a
 |o::rest,k,dead,a=>∃V,eo P ops S T F X o (L k) (D k) a V∧∀v,V v→mr P ops S T F L D X Q rest (k+1) (dead||D k) (a.put o.dst v)
theorem ud {n g:Nat}{Q:Act→Prop}(hm:gS md ops T)(hs:Region.noSelect ops=true)
 (hR:∀listed,HeadInv md ops n listed→∀i,i<n→listed.getD i true=false→∀j∈Region.ready md ops listed,j<n):
 ∀(l:List Oper) (k:Nat) (dead:Bool) (listed:Array Bool) (a:Act),(∀j,j<l.length→l[j]? =ops[k+j]?)→k+l.length=n→HeadInv md ops n listed→(∀j,j<k→listed.getD j false=true)→
 Region.lexHead md ops g l.length k listed=true→mr P ops S T F L D X Q l k dead a→
 qK P md ops S T F L D X n (fun C a'=>Region.seqB md ops g n C=true∧(∀j,j<n→C.getD j false=true)∧Q a') l.length dead listed a
 | [],k,dead,listed,a,_,hk,_,hd,I,h=>by
  have:k=n:=by simpa using hk
  subst this;have I:Region.seqB md ops g k listed=true:=by simpa [Region.lexHead] using I
  exact fun _=>⟨seqB_ready I,fun J=>⟨I,hd,h J⟩⟩
 |o::l,k,dead,listed,a,hl,hk,inv,hd,I,h=>by(
 have h0:ops[k]? =some o:=by simpa using(hl 0 (by simp)).symm
 simp only[lD,Region.lexHead,dX] at I;obtain⟨⟨hr,hf⟩,a1⟩:=I;have R:k<n:=by simp only[lD] at hk;omega
 have Y:k∈Region.ready md ops listed:=by simpa using hr
 obtain⟨V,hy,hK⟩:=h;have a6:k<listed.size:=by rw[inv.size];exact(kT.1 h0).1
 refine xk hm h0 (Region.noSelect_spec hs) hR R l.length dead listed a inv (Region.free_spec h0 hf) Y hy
  fun v hv=>ud hm hs hR l (k+1) _ _ _ (fun j hj=>by have:=hl (j+1) (by simp;omega);simpa [Nat.add_assoc,Nat.add_comm 1 j] using this) (by simp only[lD] at hk;omega) (inv.set Y R) (fun j hj=>?_) a1 (hK v hv)
 by_cases e:k=j;·subst e;simp[a6]
 rw[getD_set_ne false e];exact hd j (by omega))
def tG (md:Region.Mode)(ops:Array Oper)(n:Nat):Bool:=
 Region.noSelect ops&&(n==ops.size||(decide (n<ops.size)&&Region.sinkB md ops n&&Region.chainB md ops n))&&Region.lexHead md ops (ops.size-n) n 0 (Array.replicate ops.size false)
def mS (ops:Array Oper)(T:List Tmp)(n:Nat):Bool:=T.all fun t=>(List.range n).any fun k=>match ops[k]? with|some x=>x.dst==some t|none=>false
theorem jN {id:Nat}{Q:Exit→Act→World→Prop}{a:Act}{w:World}{l:List Oper}(n:Nat)(S:World→Prop)(T:List Tmp)(F:Tmp→Value→World→Prop)(L:Nat→Option (Value→Prop))(D:Nat→Bool)(X:List PanicEntry→World→Prop)(J:Act→Prop)
 (hm:P.follows .mixedOrders=true) (hB:tG .any l.toArray n=true) (hT:lO .any l.toArray T=true) (b1:mS l.toArray T n=true)
 (hS:S w.drew) (b2:J a) (hJ:∀(i:Nat) (o:Oper) (a:Act) (v:Value),l.toArray[i]? =some o→J a→J (a.put o.dst v)) (hX:∀R ch w,X ch w→J R→Q (.panic ch) R w) (h:mr P l.toArray S T F L D X (fun R=>∀Y,S Y→(∀t∈T,∀v,R.tmps[t]? =some v→F t v Y)→wpList P l.toArray Q (l.drop n) R Y) (l.take n) 0 false a):(Code.region id l.toArray true).wp P Q a w:=by
 simp only[tG,dX,Bool.or_eq_true,cX,eq] at hB;obtain⟨⟨a1,hn⟩,a6⟩:=hB;have a7:=pP hT;have b7:n≤l.length:=by rcases hn with h|⟨⟨h,_⟩,_⟩<;>simp at h<;>omega
 have C:(l.take n).length=n:=by simp;omega
 have a8:(l.drop n).length=l.toArray.size-n:=by simp
 have b0:HeadInv .any l.toArray n (Array.replicate l.toArray.size false):=
  ⟨by simp,fun j oj _ hl=>(by rw[getD_replicate_false] at hl;cases hl),fun t _ ht=>getD_in (by simpa using ht) (getD_replicate_false _ _)⟩
 have hR:∀listed,HeadInv .any l.toArray n listed→∀i,i<n→listed.getD i true=false→∀j∈Region.ready .any l.toArray listed,j<n:=by(
 intro listed inv i hi b3 j hj;obtain⟨_,oj,b4,_⟩:=mem_ready.1 hj;have b8:=(kT.1 b4).1;rcases hn with h|⟨⟨h,hs⟩,hc⟩;·omega
 rcases Nat.lt_or_ge j n with h'|h';·exact h'
 exact absurd hj (tail_waits hs hc h inv _ i rfl hi b3 j h'))
 have H:=ud (md:=.any) (g:=l.toArray.size-n) a7 a1 hR (l.take n) 0 false _ a (fun j hj=>by
  have b5:j<n:=by rw[C] at hj;exact hj
  simp[b5]) (by simpa using C) b0 (fun j hj=>by omega) (by rw[C];exact a6) h
 refine wp_region_any hm ?_;have:=eK (Q':=Q) (J:=J) (g:=l.toArray.size-n) a7 hJ hX (fun listed R Y b6 hf hL=>by
  have I:∀t∈T,∀v,R.tmps[t]? =some v→F t v Y:=fun t ht v hv=>by(
 have h1:=List.all_eq_true.1 b1 t ht;obtain⟨k,hk,h2⟩:=od.1 h1;cases hx:l.toArray[k]? with
 |none=>simp[hx] at h2
 |some x=>simp only[hx,cX] at h2;exact hf k x t (hL.2.1 k (dW.1 hk)) hx h2 ht v hv)
  have:=wpAny_of_seq (md:=.any) (Q':=Q) (l.drop n) n listed R Y (fun j=>by simp[List.getElem?_drop]) (by rw[a8];exact hL.1) (hL.2.2 Y b6 I);rwa [a8] at this) _ _ _ w.drew b2 hS (fun k o d hk=>by exfalso;rw[getD_replicate_false] at hk;cases hk) H
 rw[C,show n+(l.toArray.size-n)=l.toArray.size by omega] at this;exact this
theorem aK {id:Nat}{Q:Exit→Act→World→Prop}{a:Act}{w:World}{l:List Oper}(n:Nat)(S:World→Prop)(T:List Tmp)(F:Tmp→Value→World→Prop)(L:Nat→Option (Value→Prop))(D:Nat→Bool)(X:List PanicEntry→World→Prop)
 (hm:P.follows .mixedOrders=true) (J:tG .any l.toArray n=true) (R:lO .any l.toArray T=true) (o:mS l.toArray T n=true)
 (Y:S w.drew) (hX:∀j I w,X I w→j.defers=a.defers→Q (.panic I) j w) (h:mr P l.toArray S T F L D X (fun j=>∀C,S C→(∀t∈T,∀v,j.tmps[t]? =some v→F t v C)→wpList P l.toArray Q (l.drop n) j C) (l.take n) 0 false a):(Code.region id l.toArray true).wp P Q a w:=
 jN n S T F L D X (fun j=>j.defers=a.defers) hm J R o Y rfl (fun _ _ _ _ _ h=>(oR _ _ _).trans h) hX h
section steps
variable {Q:Act→Prop} {o:Oper} {rest:List Oper} {k:Nat} {dead:Bool} {a:Act}
theorem aD (h:Q a):mr P ops S T F L D X Q [] k dead a:=fun _=>h
theorem cZ:mr P ops S T F L D X Q [] k true a:=fun h=>by cases h
theorem rO {v:Value}(hw:Region.wanted o (yielded ops a.tmps)=true)(C:L k=none)(j:D k=false)(I:∀d,o.dst=some d→d∉T)(h:∀w,S w→dL ops T F o a w→(execOp a.eval o).run P w=.ok (.value v) w)(J:mr P ops S T F L D X Q rest (k+1) dead (a.put o.dst v)):mr P ops S T F L D X Q (o::rest) k dead a:=
 ⟨_,.inl ⟨hw,C,j,v,rfl,fun w R Y=>⟨h w R Y,fun d j hT=>absurd hT (I d j)⟩⟩,fun _ e=>by subst e;rw[j,Bool.or_false];exact J⟩
theorem ug {v:Value}(hw:Region.wanted o (yielded ops a.tmps)=true)(hl:L k=some (·=v))(R:D k=false)(Y:∀d,o.dst=some d→d∉T)
 (h:∀w,S w→dL ops T F o a w→∃f args,(execOp a.eval o).run P w=.ok (.enter f args) w∧Calls P f args w fun e C=>e=.returned v∧S C∧∀t∈T,∀v,F t v w→F t v C) (hk:mr P ops S T F L D X Q rest (k+1) dead (a.put o.dst v)):mr P ops S T F L D X Q (o::rest) k dead a:=
 ⟨_,.inr (.inl ⟨hw,hl,fun w I hp=>by obtain⟨f,args,hr,hc⟩:=h w I hp;rw[hr];exact hc.mono fun e C ⟨h1,h2,h3⟩=>.inl ⟨R,v,h1,rfl,h2,h3,fun d j J=>absurd J (Y d j)⟩,fun w I _=>⟨v,w,rfl,I,fun _ _ _ h=>h,fun d j J=>absurd J (Y d j)⟩⟩),fun _ e=>by subst e;rw[R,Bool.or_false];exact hk⟩
theorem Hv (v:Value)(hw:Region.wanted o (yielded ops a.tmps)=true)(R:L k=some (·=v))(Y:D k=true)(ht:∀d,o.dst=some d→d∉T)
 (h:∀w,S w→dL ops T F o a w→∃f args,(execOp a.eval o).run P w=.ok (.enter f args) w∧Calls P f args w fun e I=>∃J,e=.panicked J∧X J I) (hk:mr P ops S T F L D X Q rest (k+1) true (a.put o.dst v)):mr P ops S T F L D X Q (o::rest) k dead a:=
 ⟨_,.inr (.inl ⟨hw,R,fun w j hp=>by obtain⟨f,args,hr,hc⟩:=h w j hp;rw[hr];exact hc.mono fun e I h'=>.inr h',fun w j _=>⟨v,w,rfl,j,fun _ _ _ h=>h,fun d C hT=>absurd hT (ht d C)⟩⟩),fun _ e=>by subst e;rw[Y,Bool.or_true];exact hk⟩
theorem qM {V:Value→Prop}(hw:Region.wanted o (yielded ops a.tmps)=true)(I:L k=some V)(C:D k=false)(h:∀w,S w→dL ops T F o a w→pq P S T F X false V o w ((execOp a.eval o).run P w))(j:∀w,S w→dL ops T F o a w→∃u J,V u∧gw S T F o w J u)(R:∀v,V v→mr P ops S T F L D X Q rest (k+1) dead (a.put o.dst v)):mr P ops S T F L D X Q (o::rest) k dead a:=
 ⟨V,.inr (.inl ⟨hw,I,by rw[C];exact h,j⟩),fun v Y=>by rw[C,Bool.or_false];exact R v Y⟩
theorem Hu (hw:Region.wanted o (yielded ops a.tmps)=false)(j:D k=false)(C:∀d,o.dst=some d→d∉T)(I:mr P ops S T F L D X Q rest (k+1) dead (a.put o.dst undef)):mr P ops S T F L D X Q (o::rest) k dead a:=
 ⟨_,.inr (.inr ⟨hw,j,rfl,C⟩),fun _ e=>by subst e;rw[j,Bool.or_false];exact I⟩
end steps
def my (a:Act)(ts:List Tmp)(a':Act):Prop:=a'.defers=a.defers∧∀t∈ts,a'.tmps[t]? =a.tmps[t]?
def JI (ops:Array Oper)(ts:List Tmp):Bool:=ops.all fun o=>match o.dst with|some d=>!ts.contains d|none=>true
theorem my.refl (a:Act)(j:List Tmp):my a j a:=⟨rfl,fun _ _=>rfl⟩
theorem tN {ops:Array Oper}{a:Act}{j:List Tmp}(h:JI ops j=true)(i:Nat)(o:Oper)(C:Act)(v:Value)(hi:ops[i]? =some o)(I:my a j C):my a j (C.put o.dst v):=by
 refine⟨(oR _ _ _).trans I.1,fun t J=>?_⟩;have R:=Array.all_eq_true'.1 h o (Array.mem_of_getElem? hi);cases hd:o.dst with
 |none=>exact I.2 t J
 |some d=>
  rw[hd] at R;have Y:d≠t:=by intro e;subst e;simp at R;exact R J
  show(C.tmps.setIfInBounds d v)[t]? =_;rw[Array.getElem?_setIfInBounds_ne Y];exact I.2 t J
end
end
section
section
variable {P:Program} {ops:Array Oper} {S:World→Prop} {T:List Tmp} {F:Tmp→Value→World→Prop} {L:Nat→Option (Value→Prop)} {D:Nat→Bool} {X:List PanicEntry→World→Prop} {Q:Act→Prop} {o:Oper} {rest:List Oper} {k:Nat} {dead:Bool} {a:Act}
theorem O3 {v:Value}{C:Act}(h:∀w,S w→dL ops T F o a w→(execOp a.eval o).run P w=.ok (.value v) w)(I:mr P ops S T F L D X Q rest (k+1) dead C)(hw:Region.wanted o (yielded ops a.tmps)=true:=by rfl)(J:L k=none:=by rfl)(j:D k=false:=by rfl)(R:∀d,o.dst=some d→d∉T:=by intro d j;first|(intro Y;cases Y;done)|(cases j;decide))(hp:a.put o.dst v=C:=by conv=>lhs;simp only[PS]):mr P ops S T F L D X Q (o::rest) k dead a:=rO hw J j R h (by rw[hp];exact I)
theorem O0 {v:Value}{C:Act}(I:mr P ops S T F L D X Q rest (k+1) dead C)(h:∀w,S w→dL ops T F o a w→(execOp a.eval o).run P w=.ok (.value v) w:=by intro wn I J;go_simp;with_reducible rfl)(hw:Region.wanted o (yielded ops a.tmps)=true:=by rfl)(R:L k=none:=by rfl)(j:D k=false:=by rfl)(Y:∀d,o.dst=some d→d∉T:=by intro d j;first|(intro hT;cases hT;done)|(cases j;decide))(J:a.put o.dst v=C:=by conv=>lhs;simp only[PS]):mr P ops S T F L D X Q (o::rest) k dead a:=rO hw R j Y h (by rw[J];exact I)
theorem O4 {v:Value}{R:Act}{C:World→Prop}(f:∀w,S w→C w)(Y:mr P ops S T F L D X Q rest (k+1) dead R)(h:∀w,S w→C w→dL ops T F o a w→(execOp a.eval o).run P w=.ok (.value v) w:=by intro wn Y I j;(try dsimp only at I);(repeat obtain⟨_,I⟩:=I);go_simp;with_reducible rfl)(hw:Region.wanted o (yielded ops a.tmps)=true:=by rfl)(hl:L k=none:=by rfl)(J:D k=false:=by rfl)(ht:∀d,o.dst=some d→d∉T:=by intro d J;first|(intro hT;cases hT;done)|(cases J;decide))(j:a.put o.dst v=R:=by conv=>lhs;simp only[PS]):mr P ops S T F L D X Q (o::rest) k dead a:=rO hw hl J ht (fun w hs j=>h w hs (f w hs) j) (by rw[j];exact Y)
theorem O2 {C:Act}(I:mr P ops S T F L D X Q rest (k+1) dead C)(hw:Region.wanted o (yielded ops a.tmps)=false:=by rfl)(j:D k=false:=by rfl)(J:∀d,o.dst=some d→d∉T:=by intro d j;first|(intro R;cases R;done)|(cases j;decide))(Y:a.put o.dst undef=C:=by conv=>lhs;simp only[PS]):mr P ops S T F L D X Q (o::rest) k dead a:=Hu hw j J (by rw[Y];exact I)
theorem O6 {V:Value→Prop}(h:∀w,S w→dL ops T F o a w→pq P S T F X false V o w ((execOp a.eval o).run P w))(j:∀w,S w→dL ops T F o a w→∃u C,V u∧gw S T F o w C u)(I:∀v,V v→mr P ops S T F L D X Q rest (k+1) dead (a.put o.dst v))(hw:Region.wanted o (yielded ops a.tmps)=true:=by rfl)(J:L k=some V:=by rfl)(R:D k=false:=by rfl):mr P ops S T F L D X Q (o::rest) k dead a:=qM hw J R h j I
theorem O5 {v:Value}{C:Act}(h:∀w,S w→dL ops T F o a w→∃f args,(execOp a.eval o).run P w=.ok (.enter f args) w∧Calls P f args w fun e I=>e=.returned v∧S I∧∀t∈T,∀v,F t v w→F t v I)(J:mr P ops S T F L D X Q rest (k+1) dead C)(hw:Region.wanted o (yielded ops a.tmps)=true:=by rfl)(R:L k=some (·=v):=by rfl)(j:D k=false:=by rfl)(Y:∀d,o.dst=some d→d∉T:=by intro d j;first|(intro hT;cases hT;done)|(cases j;decide))(hp:a.put o.dst v=C:=by conv=>lhs;simp only[PS]):mr P ops S T F L D X Q (o::rest) k dead a:=ug hw R j Y h (by rw[hp];exact J)
theorem O7 (v:Value){C:Act}(h:∀w,S w→dL ops T F o a w→∃f args,(execOp a.eval o).run P w=.ok (.enter f args) w∧Calls P f args w fun e J=>∃I,e=.panicked I∧X I J)(R:mr P ops S T F L D X Q rest (k+1) true C)(hw:Region.wanted o (yielded ops a.tmps)=true:=by rfl)(Y:L k=some (·=v):=by rfl)(j:D k=true:=by rfl)(ht:∀d,o.dst=some d→d∉T:=by intro d j;first|(intro hT;cases hT;done)|(cases j;decide))(hp:a.put o.dst v=C:=by conv=>lhs;simp only[PS]):mr P ops S T F L D X Q (o::rest) k dead a:=Hv v hw Y j ht h (by rw[hp];exact R)
theorem R1 {id:Nat}{Q':Exit→Act→World→Prop}{a:Act}{w:World}{l I:List Oper}(n:Nat)(W:World)(T:List Tmp)(F:Tmp→Value→World→Prop)(L:Nat→Option (Value→Prop))(h:mr P l.toArray (aa All W) T F L (fun _=>false) (fun _ _=>False) (fun J=>∀j,aa All W j→(∀t∈T,∀v,J.tmps[t]? =some v→F t v j)→wpList P l.toArray Q' (l.drop n) J j) I 0 false a)(hm:P.follows .mixedOrders=true:=by kernel_rfl)(R:tG .any l.toArray n=true:=by kernel_rfl)(Y:lO .any l.toArray T=true:=by kernel_rfl)(C:mS l.toArray T n=true:=by kernel_rfl)(hS:aa All W w.drew:=by exact(aa.refl _ _).drew)(ht:l.take n=I:=by conv=>lhs;simp only[tK]):(Code.region id l.toArray true).wp P Q' a w:=aK n (aa All W) T F L (fun _=>false) (fun _ _=>False) hm R Y C hS (fun _ _ _ h=>False.elim h) (by rw[ht];exact h)
theorem R0 {id:Nat}{Q':Exit→Act→World→Prop}{a:Act}{w:World}{l C:List Oper}(n:Nat)(W:World)(L:Nat→Option (Value→Prop))(h:mr P l.toArray (aa All W) [] (fun _ _ _=>True) L (fun _=>false) (fun _ _=>False) (fun I=>∀J,aa All W J→(∀t∈([]:List Tmp),∀v,I.tmps[t]? =some v→True)→wpList P l.toArray Q' (l.drop n) I J) C 0 false a)(hm:P.follows .mixedOrders=true:=by kernel_rfl)(R:tG .any l.toArray n=true:=by kernel_rfl)(Y:lO .any l.toArray []=true:=by kernel_rfl)(j:mS l.toArray [] n=true:=by kernel_rfl)(hS:aa All W w.drew:=by exact(aa.refl _ _).drew)(ht:l.take n=C:=by conv=>lhs;simp only[tK]):(Code.region id l.toArray true).wp P Q' a w:=R1 n W [] (fun _ _ _=>True) L h hm R Y j hS ht
end
end
end Go.Proofs.YtccbbkopmlnkpaaGreatDoor
