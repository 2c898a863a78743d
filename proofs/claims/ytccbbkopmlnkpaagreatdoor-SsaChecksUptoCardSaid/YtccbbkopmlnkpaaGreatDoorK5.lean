/- Part 6 of the proof (its last part says what is proved). No condition. -/
import Derived.StillTailTactics
import Derived.RangeFuncNested
import Derived.RangeFuncBound
import Derived.Shelf.RegionOpen
import Derived.OwnWalkIn
import Derived.LoopNIn
import Derived.LoopIn
import Derived.Test.YtccbbkopmlnkpaaGreatDoorK4
namespace Go.Proofs.YtccbbkopmlnkpaaGreatDoor
set_option maxRecDepth 100000
set_option maxHeartbeats 8000000
open Go.RowKit Go.Proofs.Tryz
section
def dR {α:Type}(n:Nat)(e:TypeId)(E:cO α)(B:Nat)(w:World)(v:Value)(l:List α):Prop:=
 ∃(j:List (List Value)) (P:Nat→Prop),w.ownsRow B e n v l.length j.flatten∧j.length=l.length∧(∀cs∈j,cs.length=n)∧(∀b,P b→B≤b∧b<w.heap.size∧v.ownBlock≠some b)∧
  ∀(i:Nat) x,l[i]? =some x→∃cs,j[i]? =some cs∧E P w cs x
section
variable {α:Type} {n:Nat} {e:TypeId} {E:cO α} {B:Nat} {w w':World} {v:Value} {l:List α}
theorem dR.nil:dR n e E B w (.slice none 0 0) ([]:List α):=
 ⟨[],fun _=>False,⟨by simp,.inl ⟨rfl,rfl⟩⟩,rfl,(fun _ h=>by cases h),fun _ h=>h.elim,fun i x h=>by simp at h⟩
theorem dR.form (h:dR n e E B w v l):∃A c,v=.slice A l.length c:=by
 obtain⟨j,P,o,_⟩:=h;rcases o.2 with ⟨rfl,C⟩|⟨g,cap,cur,rfl,_⟩;·exact⟨none,0,by rw[C]⟩
 exact⟨_,_,rfl⟩
theorem dR.own (h:dR n e E B w v l):∃xs,w.ownsRow B e n v l.length xs:=by obtain⟨j,P,o,_⟩:=h;exact⟨_,o⟩
theorem dR.keep (g:cO.Good E){S:Nat→Prop}(h:dR n e E B w v l)(k:aa S w w')(I:∀b,B≤b→b<w.heap.size→S b):dR n e E B w' v l:=by
 obtain⟨C,P,J,R,Y,o,h5⟩:=h;refine⟨C,P,be J k fun b j=>?_,R,Y,fun b j=>?_,fun i x hx=>?_⟩
 ·have:=aD J j
  exact I b this.1 this.2
 ·have:=o b j
  have:=k.size;exact⟨by omega,by omega,(o b j).2.2⟩
 obtain⟨cs,hc,he⟩:=h5 i x hx;exact⟨cs,hc,g.keep (k.mono fun b j=>I b (o b j).1 (o b j).2.1) he⟩
theorem dR.app (g:cO.Good E){o:List (List Value)}{J:Value}{cs:List Value}{x:α}{Q:Nat→Prop}
 (hl:o.length=l.length) (hn:∀c∈o,c.length=n) (R:cs.length=n)
 (P:Nat→Prop) (hP:∀b,P b→B≤b∧b<w.heap.size∧v.ownBlock≠some b) (hE:∀(i:Nat) x,l[i]? =some x→∃cs,o[i]? =some cs∧E P w cs x)
 (hQ:∀b,Q b→B≤b∧b<w.heap.size∧v.ownBlock≠some b) (hx:E Q w cs x)
 (Y:w'.ownsRow B e n J (l.length+1) (o.flatten++cs)) (hg:w.grownBy w' v.ownBlock) (a7:J.ownBlock=v.ownBlock∨J.ownBlock=some w.heap.size):dR n e E B w' J (l++[x]):=by
 have a1:aa P w w':=(aa.refl _ w).grown hg fun b j=>.inl fun h=>(hP b h).2.2 j;have a8:aa Q w w':=(aa.refl _ w).grown hg fun b j=>.inl fun h=>(hQ b h).2.2 j;have a6:∀b,B≤b∧b<w.heap.size∧v.ownBlock≠some b→B≤b∧b<w'.heap.size∧J.ownBlock≠some b:=by(
 intro b j;have:=a1.size;refine⟨j.1,by omega,?_⟩;rcases a7 with h|h;·rw[h];exact j.2.2
 rw[h];intro h';injection h' with h';omega)
 refine⟨o++[cs],fun b=>P b∨Q b,?_,by simp[hl],fun c C=>?_,fun b j=>?_,fun i y I=>?_⟩
 ·rw[List.flatten_append,List.flatten_singleton,iQ,List.length_singleton]
  exact Y
 ·rcases eD.1 C with C|C
  ·exact hn c C
  rw[cx.1 C];exact R
 ·rcases j with j|j
  ·exact a6 b (hP b j)
  exact a6 b (hQ b j)
 by_cases hi:i<l.length
 ·rw[ma hi] at I
  obtain⟨c,C,he⟩:=hE i y I;exact⟨c,by rw[ma (by omega)];exact C,g.wide (fun b j=>.inl j) (g.keep a1 he)⟩
 rw[kH (by omega)] at I;have hz:i-l.length=0:=by have:=(lS.1 I).1;simp at this;omega
 rw[hz] at I;cases I;exact⟨cs,by rw[kH (by omega),hl,hz];rfl,g.wide (fun b j=>.inr j) (g.keep a8 hx)⟩
theorem wN:∀(o:List (List Value)),(∀c∈o,c.length=n)→∀(i:Nat) cs,o[i]? =some cs→∀(j:Nat) u,cs[j]? =some u→o.flatten[i*n+j]? =some u
 | [],_,i,cs,h,_,_,_=>by simp at h
 |c::o,C,0,cs,h,j,u,hu=>by cases h;rw[List.flatten_cons,Nat.zero_mul,cN,ma (lS.1 hu).1];exact hu
 |c::o,C,i+1,cs,h,j,u,hu=>by have I:=C c (List.mem_cons_self ..);have J:=wN o (fun d R=>C d (List.mem_cons_of_mem _ R)) i cs (by simpa using h) j u hu;rw[List.flatten_cons,kH (by rw[I,Nat.succ_mul];omega),I,show(i+1)*n+j-n=i*n+j by rw[Nat.succ_mul];omega];exact J
theorem dR.read {bw:Nat}(g:cO.Good E)(h:dR n e E B w v l)(I:l.length*bw≤140737488355328):rx n bw E (fun b=>B≤b∧b<w.heap.size) w v l:=by
 obtain⟨R,P,Y,h2,h3,h4,h5⟩:=h;obtain⟨a8,Y⟩:=Y;rcases Y with ⟨rfl,h0⟩|⟨gb,cap,cur,rfl,a1,hh,hc,hm,b0,a6⟩
 ·have:l=[]:=oD h0
  subst this;exact rx.nil
 refine⟨_,_,rfl,hc,hm,I,fun i x hx=>?_⟩;obtain⟨cs,C,hE⟩:=h5 i x hx;have o:∀(j:Nat) u,cs[j]? =some u→w.cell? ⟨gb,0+i*n+j,none⟩=some u:=by(
 intro j u hu;have J:=wN R h3 i cs C j u hu;rw[cN,al.cell (w:=w) (t:=e) (cs:=cur) hh,←Array.getElem?_toList];rw[←a6] at J;have a7:i*n+j<l.length*n:=by have:=(lS.1 J).1;rw[fN] at this;omega
 rw[rY a7] at J;exact J)
 refine⟨gb,0,cs,rfl,⟨a1,(mV.1 hh).1⟩,h3 cs (mG C),o,g.wide (fun b I=>⟨(h4 b I).1,(h4 b I).2.1⟩) hE⟩
theorem bN {P:Program}(w:World){ops:Array Oper}{rest:List Oper}{o:Oper}{a:Act}{Q:Exit→Act→World→Prop}(g:cO.Good E)(a8:o.guard=none)(s x:Operand)(t:TypeId)
 (ho:o.op=.call {callee:=.builtin .append,args:=#[s,x],argTypes:=#[t,t]})
 (i:TypeInfo) (z:Value) (bytes:Nat) (ht:P.underlying t=some (.slice e)) (hi:P.info? e=some i) (hz:i.zero=some z)
 (J:i.size=n) (b0:i.bytes=bytes) (b1:z.cells.size=n) (b2:0<n)
 (v:Value) (l:List α) (hs:a.eval s=v) (a6:dR n e E B w v l) (b off c:Nat) (hx:a.eval x=.slice (some ⟨b,off,none⟩) 1 c) (cs:List Value) (y:α) (a7:cs.length=n)
 (R:∀(j:Nat) u,cs[j]? =some u→w.cell? ⟨b,off+j,none⟩=some u) (h1:∀u∈cs,u.oneCell'=true) (hl:l.length≤1000000000) (C:bytes≤10000) (Y:B≤w.heap.size)
 (Qp:Nat→Prop) (hQ:∀b,Qp b→B≤b∧b<w.heap.size∧v.ownBlock≠some b) (hE:E Qp w cs y)
 (h:∀A c w',dR n e E B w' (.slice A (l.length+1) c) (l++[y])→w.grownBy w' v.ownBlock→(∀b,v.ownBlock=some b→B≤b)→wpList P ops Q rest (a.put o.dst (.slice A (l.length+1) c)) w'):wpList P ops Q (o::rest) a w:=by
 obtain⟨b3,Pp,r1,r2,r3,r4,r5⟩:=a6;have hb:(l.length+1)*bytes≤1000000001*10000:=Nat.mul_le_mul (by omega) C;refine aR w a8 s x t ho B e i z n bytes ht hi hz J b0 b1 b2 v l.length b3.flatten hs r1 (some ⟨b,off,none⟩) 1 c cs hx (by rw[a7,Nat.one_mul]) (fun _=>⟨b,off,rfl,R⟩) h1 (by unfold maxLen;omega) (by omega) Y fun v' w' I hg b4=>?_;have a1:=dR.app g r2 r3 a7 Pp r4 r5 hQ hE I hg b4;obtain⟨A,c',rfl⟩:=aU I;exact h A c' w' a1 hg fun b hb=>(aD r1 hb).1
end
end
def dS (m:BitVec 64)(k:Nat):List Nat:=(List.range k).filter fun j=>m.getLsbD j
def Dc (m:BitVec 64)(k:Nat):BitVec 64:=zt (fun j=>decide (k≤j)&&m.getLsbD j) 64
theorem nO (m:BitVec 64)(k j:Nat)(o:j<64):(Dc m k).getLsbD j=(decide (k≤j)&&m.getLsbD j):=by rw[Dc,zu _ _ _ o,bL o];rfl
theorem Mo (m:BitVec 64):Dc m 0=m:=by apply BitVec.eq_of_getLsbD_eq;intro j o;rw[nO _ _ _ o,bL (Nat.zero_le j)];rfl
theorem CJ {x:BitVec 64}{t:Nat}(h:LO x t)(j:Nat)(I:j<64):(x&&&(x-1#64)).getLsbD j=(x.getLsbD j&&decide (j≠t)):=by
 have J:=Cd h;have R:x-1#64= ~~~(-x):=by
  have e:=BitVec.neg_eq_not_add (-x);rw[BitVec.neg_neg] at e;have Y:∀y:BitVec 64,x=y+1#64→x-1#64=y:=by rintro y rfl;exact BitVec.add_sub_cancel y 1#64
  exact Y _ e
 have o:=congrArg (fun y=>y.getLsbD j) J;have h4:(pw t).getLsbD j=decide (j=t):=by(
 rw[pw,BitVec.getLsbD_shiftLeft];by_cases e:j=t;·subst e;simp[I]
 by_cases C:j<t;·simp[C,e]
 have:j-t≠0:=by omega
 simp[C,this,e])
 simp only[BitVec.getLsbD_and,h4] at o;rw[R,BitVec.getLsbD_and,BitVec.getLsbD_not];by_cases e:j=t
 ·subst e
  rw[bL rfl] at o;rw[gE] at o;rw[o.2];simp
 rw[cI e] at o;cases hx:x.getLsbD j with
 |false=>simp
 |true=>
  rw[hx] at o;have h5:(-x).getLsbD j=false:=by simpa using o
  rw[h5];simp[I,e]
theorem FO {m:BitVec 64}{k t:Nat}(h:LO (Dc m k) t):Dc m k&&&(Dc m k-1#64)=Dc m (t+1)∧k≤t∧t<64∧m.getLsbD t=true∧dS m (t+1)=dS m k++[t]:=by
 have ht:=h.1;have R:=h.2.1;rw[nO _ _ _ ht,gE,qal] at R;have o:∀j,k≤j→j<t→m.getLsbD j=false:=by intro j C I;have:=h.2.2 j I;rw[nO _ _ _ (by omega),bL C] at this;simpa using this
 refine⟨?_,R.1,ht,R.2,?_⟩;·(
 apply BitVec.eq_of_getLsbD_eq;intro j I;rw[CJ h j I,nO _ _ _ I,nO _ _ _ I];by_cases C:k≤j;·(
 by_cases Y:j<t;·rw[o j C Y];simp
 by_cases e:j=t
 ·have J:¬t+1≤j:=by omega
  rw[cI J,cI (fun h:j≠t=>h e)];simp
 have J:t+1≤j:=by omega
 simp[C,e,J])
 have J:¬t+1≤j:=by omega
 simp[C,J])
 unfold dS;have e:List.range (t+1)=List.range k++(List.range (t-k)).map (k+·)++[t]:=by rw[List.range_succ];congr 1;have:=List.range_add (n:=k) (m:=t-k);rw[←this];congr 1;omega
 rw[e,mE,mE];have e2:((List.range (t-k)).map (k+·)).filter (fun j=>m.getLsbD j)=[]:=by rw[List.filter_eq_nil_iff];intro a ha;obtain⟨i,hi,rfl⟩:=dr.1 ha;have:=fg.1 hi;rw[o _ (by omega) (by omega)];exact oG
 rw[e2,List.append_nil];simp[R.2]
theorem Jj {m:BitVec 64}{k:Nat}(h:Dc m k=0#64)(Y:k≤64):dS m k=dS m 64:=by
 have o:∀j,k≤j→j<64→m.getLsbD j=false:=by intro j C I;have:=congrArg (fun y=>y.getLsbD j) h;simp only[nO _ _ _ I,bL C,BitVec.getLsbD_zero] at this;simpa using this
 unfold dS;have e:List.range 64=List.range k++(List.range (64-k)).map (k+·):=by have:=List.range_add (n:=k) (m:=64-k);rw[←this];congr 1;omega
 rw[e,mE];have J:((List.range (64-k)).map (k+·)).filter (fun j=>m.getLsbD j)=[]:=by rw[List.filter_eq_nil_iff];intro a R;obtain⟨i,hi,rfl⟩:=dr.1 R;have:=fg.1 hi;rw[o _ (by omega) (by omega)];exact oG
 rw[J,List.append_nil]
theorem ko {m:BitVec 64}{k j:Nat}:j∈dS m k↔j<k∧m.getLsbD j=true:=by unfold dS;rw[List.mem_filter,fg]
theorem xP {m:BitVec 64}{pre:List Nat}{k:Nat}(h:pre++[k]<+:dS m 64):(k<64∧m.getLsbD k=true)∧∀j,j<k→m.getLsbD j=true→j∈pre:=by
 obtain⟨t,C⟩:=h;have I:k∈dS m 64:=by rw[←C];simp
 refine⟨ko.1 I,fun j R hm=>?_⟩;have o:j∈dS m 64:=ko.2 ⟨by have:=(ko.1 I).1;omega,hm⟩;rw[←C,jM,eD] at o;rcases o with h|h;·exact h
 exfalso;have J:(dS m 64).Pairwise (·<·):=List.Pairwise.filter _ List.pairwise_lt_range;rw[←C,jM] at J;have:=(List.pairwise_append.1 J).2.1;simp only[List.cons_append,mF] at h this;rcases fX.1 h with rfl|h;·omega
 have:=(List.pairwise_cons.1 this).1 j h;omega
section
open Go
section
variable {P:Program} {ops:Array Oper} {md:Region.Mode} {S:World→Prop} {T:List Tmp} {F:Tmp→Value→World→Prop} {L:Nat→Option (Value→Prop)} {lp n:Nat}
def sZ (ops:Array Oper):Bool:=ops.all fun o=>match o.op with|.defer _=>false|_=>true
theorem ta (h:sZ ops=true):∀(j:Nat) (o:Oper),ops[j]? =some o→∀c,o.op≠.defer c:=by intro j o I c e;obtain⟨C,rfl⟩:=mV.1 I;have:=(Array.all_eq_true.1 h) j C;simp only[e] at this;cases this
theorem gh {Q:Act→Prop}{Q':Exit→Act→World→Prop}(hm:lk md ops T)(R:∀(j:Nat) (o:Oper),ops[j]? =some o→∀c,o.op≠.defer c)
 (hQ:∀C a w,C.size=ops.size→Region.ready md ops C=[]→S w→eU ops T F C a w→Q a→Q' .normal a w):∀(I:Nat) (C:Array Bool) (a:Act) (w:World),C.size=ops.size→S w→eU ops T F C a w→
 oZ P md ops S T F L Q I C a→wpAnyIn (Fence.wide.inRound lp) n P md ops Q' I C a w
 |0,C,a,w,hz,hw,J,h=>⟨(h ⟨w,hw,J⟩).1,hQ _ _ _ hz (h ⟨w,hw,J⟩).1 hw J (h ⟨w,hw,J⟩).2⟩
 |I+1,C,a,w,hz,hw,J,h=>by(
 refine⟨fun h0=>hQ _ _ _ hz h0 hw J ((h ⟨w,hw,J⟩).1 h0),fun i hi=>?_⟩;have Y:(C.setIfInBounds i true).size=ops.size:=by rw[Array.size_setIfInBounds];exact hz
 obtain⟨_,o,ho,_⟩:=mem_ready.1 hi;obtain⟨V,hy,hn⟩:=(h ⟨w,hw,J⟩).2 i hi o ho;have hp:=J.pre hm hi ho;have a1:Oper.semAt (some lp) a.eval o=execOp a.eval o:=Oper.semAt_some lp a.eval o (R i o ho);unfold wpOpIn;simp only[ho];rcases hy with ⟨h1,_,v,rfl,h3⟩|⟨h1,_,h3⟩|⟨h1,rfl,h3⟩;·rw[ap h1];refine⟨fun _ _=>trivial,?_⟩;obtain⟨hr,hd⟩:=h3 w hw hp;show o.uponIn _ n P a _ _ ((Oper.semAt (some lp) a.eval o).run P w);rw[a1,hr];exact gh hm R hQ I _ _ w Y hw (J.next ho ⟨hw,fun _ _ _ h=>h,hd⟩) (hn v rfl)
 ·(
 rw[ap h1];refine⟨fun _ _=>trivial,?_⟩;have hr:=h3 w hw hp;show o.uponIn _ n P a _ _ ((Oper.semAt (some lp) a.eval o).run P w);rw[a1];generalize (execOp a.eval o).run P w=r at hr;cases r with
 |ok nx w'=>
  cases nx<;>simp only[kl] at hr<;>simp only[Oper.uponIn]
  case value u=>exact gh hm R hQ I _ _ w' Y hr.2.1 (J.next ho hr.2) (hn u hr.1)
  case enter f args=>(refine⟨(fun h=>by cases h),CallsIn.inRound lp (CallsIn.mono (callsIn_wide.2 hr) ?_)⟩;rintro e a6 ⟨u,rfl,hv,hg⟩;exact gh hm R hQ I _ _ a6 Y hg.1 (J.next ho hg) (hn u hv))
 |halt x w'=>simp only[kl] at hr)
 rw[ae (by rw[h1];exact oG)];exact⟨fun _ _=>trivial,gh hm R hQ I _ _ w Y hw (J.next ho ⟨hw,fun _ _ _ h=>h,fun d hd ht=>absurd ht (h3 d hd)⟩) (hn undef rfl)⟩)
theorem fJ {id:Nat}{Q:Exit→Act→World→Prop}{a:Act}{w:World}{l:List Oper}(S:World→Prop)(T:List Tmp)(F:Tmp→Value→World→Prop)(L:Nat→Option (Value→Prop))(hm:P.follows .mixedOrders=true)(R:Region.lexB .any l.toArray=true)(hT:ns .any l.toArray T=true)(hA:BH .any l.toArray=true)(hD:sZ l.toArray=true)
 (hS:S w.drew) (h:nG P l.toArray S T F L (fun I=>∀j,S j→(∀t∈T,∀v,I.tmps[t]? =some v→F t v j)→Q .normal I j) l 0 a):(Code.region id l.toArray true).wpIn (Fence.wide.inRound lp) n P Q a w:=by
 simp only[Region.lexB,gE] at R;have C:=sU hT;refine wpIn_region_any hm (gh (S:=S) (T:=T) (F:=F) (L:=L) (Q:=fun I=>∀j,S j→(∀t∈T,∀v,I.tmps[t]? =some v→F t v j)→Q .normal I j) C (ta hD) (fun J I j hz hr Y hf h=>h j Y fun t ht v hv=>?_) _ _ _ _ (by simp) hS (fun k o d hk=>by exfalso;simp only[Array.getD_eq_getD_getElem?,Array.getElem?_replicate] at hk;split at hk<;>simp at hk) ?_)
 ·obtain⟨k,x,hx,hd⟩:=C.2.2 t ht
  exact hf k x t (vO hz hr (BI hA) _ k (cf _) (mV.1 hx).1) hx hd ht v hv
 have:=pd (P:=P) (S:=S) (F:=F) (L:=L) C R.1 l 0 (Array.replicate l.toArray.size false) a (by simp) (by simpa using R.2) h;simpa using this
theorem JA {o:Oper}{a:Act}{w:World}{K J:Act→World→Prop}{Q:Exit→Act→World→Prop}(I:∀c,o.op≠.defer c)(j:∀a w,K a w→J a w)(h:o.wp P a w K Q):o.wpIn (Fence.wide.inRound lp) n P a w J Q:=by
 refine⟨fun _ _=>trivial,?_⟩;show o.uponIn _ n P a _ _ ((Oper.semAt (some lp) a.eval o).run P w);rw[Oper.semAt_some lp a.eval o I];unfold Oper.wp at h;generalize (execOp a.eval o).run P w=r at h;cases r with
 |ok R Y=>
  cases R<;>simp only[Oper.upon] at h<;>simp only[Oper.uponIn]
  case value u=>exact j _ _ h
  case skip=>exact j _ _ h
  case defer d=>exact j _ _ h
  case enter f args=>(
 refine⟨(fun h=>by cases h),CallsIn.inRound lp (CallsIn.mono (callsIn_wide.2 h) ?_)⟩;intro e C he;cases e with
 |returned v=>exact j _ _ he
 |panicked ch=>exact he
 |outgrown=>exact he)
  case row rw args=>(refine⟨(fun h=>by cases h),fun c cs _=>?_⟩;obtain⟨v,C,r,s⟩:=h c cs;exact⟨v,C,j _ _ r,stepsIn_wide.2 s⟩)
 |halt x Y=>cases x<;>simp only[Oper.upon] at h<;>first|exact h|exact h.elim
theorem wu {Q:Exit→Act→World→Prop}(J:∀(j:Nat) (o:Oper),ops[j]? =some o→∀c,o.op≠.defer c)(R:¬LetsOut Q):∀(C:Nat) (I:Array Bool) (a:Act) (w:World),
 wpAny P md ops Q C I a w→wpAnyIn (Fence.wide.inRound lp) n P md ops Q C I a w
 |0,_,_,_,h=>h
 |C+1,I,a,w,h=>by(
 refine⟨h.1,fun i hi=>?_⟩;have h:=h.2 i hi;unfold wpOp at h;unfold wpOpIn;cases Y:ops[i]? with
 |none=>rw[Y] at h;exact wu J R C _ _ _ h
 |some o=>
  simp only[Y] at h⊢;by_cases hw:Region.wanted o (yielded ops a.tmps)=true
  ·rw[ap hw] at h⊢;rcases h with h|h;·exact JA (J i o Y) (fun a w h=>wu J R C _ _ _ h) h
   exact absurd h.2 R
  rw[ae hw] at h⊢;exact⟨fun _ _=>trivial,wu J R C _ _ _ h⟩)
theorem mv {id:Nat}{Q:Exit→Act→World→Prop}{a:Act}{w:World}{l:List Oper}(m:Nat)(hm:P.follows .mixedOrders=true)(hB:Region.lexTailB .any l.toArray m=true)(hD:sZ l.toArray=true)(a1:¬LetsOut Q)
 (h:wpStill P l.toArray {w with drawn:=w.drawn+1} (fun a'=>wpList P l.toArray Q (l.drop m) a' {w with drawn:=w.drawn+1}) (l.take m) a):(Code.region id l.toArray true).wpIn (Fence.wide.inRound lp) n P Q a w:=by
 simp only[Region.lexTailB,gE,qal] at hB;obtain⟨⟨⟨⟨I,hn⟩,hs⟩,hc⟩,J⟩:=hB;have a7:m<l.length:=by simpa using hn
 have o:(l.take m).length=m:=by simp;omega
 have R:(l.drop m).length=l.toArray.size-m:=by simp
 have Y:HeadInv .any l.toArray m (Array.replicate l.toArray.size false):=
  ⟨by simp,fun j oj _ hl=>(by rw[getD_replicate_false] at hl;cases hl),fun t _ ht=>getD_in (by simpa using ht) (getD_replicate_false _ _)⟩
 have H:=wpAnyL_lex (md:=.any) (g:=l.toArray.size-m) I hs hc hn (l.take m) 0 _ a (fun j hj=>by
  have a6:j<m:=by rw[o] at hj;exact hj
  simp[a6]) (by simpa using o) Y (by rw[o];exact J) h
 refine wpIn_region_any hm ?_;have:=wpAny_of_head (Q':=Q) (g:=l.toArray.size-m) (fun C a' hL=>by have:=wpAny_of_seq (md:=.any) (Q':=Q) (l.drop m) m C a' {w with drawn:=w.drawn+1} (fun j=>by simp[List.getElem?_drop]) (by rw[R];exact hL.1) hL.2;rwa [R] at this) _ _ _ H;rw[o,show m+(l.toArray.size-m)=l.toArray.size by omega] at this;exact wu (ta hD) a1 _ _ _ _ this
end
end
section
open Go.RowKit Go.Shelf
attribute [local go_sem] lh qb xr ju nA nE nB nC ms rq nD wL pD
attribute [local go_sem] Oper.semAt_some
abbrev zD (m:BitVec 64):= {k:Nat//k<64∧m.getLsbD k=true}
def eq (A B:World):Prop:=gz A→gz B
theorem gz.below {w W:World}(h:gz w)(o:Below w.heap.size w W):gz W:=by
 refine⟨fun i hi=>?_,fun i hi=>?_⟩
 ·have j:=h.1 i hi
  exact(o.cell (p:=⟨4,i,none⟩) (jy w _ j)).trans j
 have j:=h.2 i hi;exact(o.cell (p:=⟨3,i,none⟩) (jy w _ j)).trans j
theorem Gb {W:World}{l:Nat}{o J:Obj}(R:W.heap[l]? =some o)(Y:o.isCells=false):eq W (W.putObj l J):=by
 intro h;have j:∀b i v,W.cell? ⟨b,i,none⟩=some v→b≠l:=by rintro b i v I rfl;unfold World.cell? at I;simp only[R] at I;cases o<;>first|(simp[Obj.isCells] at Y;done)|(simp at I)
 refine⟨fun i hi=>?_,fun i hi=>?_⟩
 ·have C:=h.1 i hi
  rw[World.cell?_of_block (World.putObj_heap_other (fun e=>j _ _ _ C e))];exact C
 have C:=h.2 i hi;rw[World.cell?_of_block (World.putObj_heap_other (fun e=>j _ _ _ C e))];exact C
theorem wk (m:BitVec 64)(w:World):Calls prog 210 #[U m] w fun e j=>e=.returned (.func (.func 238) #[] #[.pointer (some ⟨w.heap.size,0,none⟩)])∧j=w.alloc (.cells #[U m] 52):=by have o:∀(fn:Fn) (first cap:Array Value) (w:World),(Instr.makeFunc fn first cap).run prog w=.ok (.func fn first cap) w:=fun _ _ _ _=>rfl;go_enter func210,ntmps210;go_wp2;go_ret;exact⟨rfl,rfl⟩
theorem zM (x:BitVec 64)(h:x≠0#64):(x&&&(x-1#64)).toNat<x.toNat:=by
 have j:x.toNat≠0:=fun e=>h (BitVec.eq_of_toNat_eq (by simpa using e));have o:(x&&&(x-1#64)).toNat≤(x-1#64).toNat:=by rw[BitVec.toNat_and];exact Nat.and_le_right
 have C:(x-1#64).toNat=x.toNat-1:=by rw[BitVec.toNat_sub];have:=x.isLt;simp;omega
 omega
theorem EY (m:BitVec 64)(k:Nat):(dS m k).length≤k:=by unfold dS;exact fR (List.length_filter_le _ _) (by simp)
theorem EZ {m:BitVec 64}{t:Nat}(h:t<64):dS m (t+1)<+:dS m 64:=by
 have e:List.range 64=List.range (t+1)++(List.range (64-(t+1))).map (t+1+·):=by rw[←List.range_add];congr 1;omega
 unfold dS;rw[e,mE];exact List.prefix_append _ _
theorem qm (n:Nat)(hn:1≤n)(m:BitVec 64)(Bn:Nat)(w:World)(hl:gz w)(hc:al w Bn 52 #[U m]):
 SeqStopsK Fence.wide n prog 238 #[.pointer (some ⟨Bn,0,none⟩)] (fun x:zD m=>#[Value.int .i64 (x.1:Nat)]) eq (fun xs=>xs.map Subtype.val=dS m 64) (fun pre=>pre.map Subtype.val<+:dS m 64) 64 w:=fun l J Jx W hW _ _ hY h0=>by
 have b2:W.cell? ⟨Bn,0,none⟩=some (U m):=(hW.cell (p:=⟨Bn,0,none⟩) hc.lt).trans (hc.cell 0);have a1:=hl.below hW;have HL:=J2 a1 hY;clear a1 hY hW hl hc;refine callsIn_of_wp func238 rfl trivial ?_ rfl;simp only[ntmps238,List.size_toArray,kI,List.length_nil,Nat.reduceAdd,Nat.reduceSub,Array.replicate_succ,Array.replicate_zero,List.push_toArray,List.append_toArray,mF,List.cons_append];gi_wp2
 gi_loopw [3] (fun r wr=>∃(k:Nat) (pre:List (zD m)),k≤64∧r=U (Dc m k)∧pre.map Subtype.val=dS m k∧J pre wr∧gz wr) (fun r _=>(intOf r).toNat)
 ·exact⟨0,[],by omega,by rw[Mo],rfl,h0,HL.1⟩
 obtain⟨k,pre,hk,rfl,j,hJ,Y⟩:=hrel;by_cases hz:Dc m k=0#64
 ·have b3:(Dc m k !=0#64)=false:=by simp[hz]
  have HP:=oH (show pre.map Subtype.val=dS m 64 by rw[j,Jj hz hk]);clear hz j;gi_wp2
  go_end0
  exact⟨⟨_,rfl⟩,.inl ⟨pre,HP.out,hJ⟩⟩
 obtain⟨t,ht⟩:=Lf hz;obtain⟨a6,b7,o,I,a7⟩:=FO ht;have a8:pre.length<64:=by have:=EY m k;rw[←j,ce] at this;omega
 obtain⟨fn,tmps,assign,body,hy,hR⟩:=HL.2 pre ⟨t,o,I⟩ wr hJ a8;dsimp only at hy;have b0:=LJ (Dc m k) t wr Y ht;have b3:(Dc m k !=0#64)=true:=by simpa using hz
 have R:=zM _ hz;have C:(pre++[(⟨t,o,I⟩:zD m)]).map Subtype.val=dS m (t+1):=by rw[a7,ic,j];rfl
 have HT:=J5 b0 a6 R C Y;clear b0 a6 R C Y hz ht a7 j;gi_wp2_with (refine⟨trivial,?_⟩;gi_at_call 239;refine(callsIn_wide.2 HT.1).mono ?_;rintro e w' ⟨rfl,rfl⟩);gi_wp2;refine hR.mono ?_;rintro e W3 (⟨rfl,b4,b5⟩|⟨rfl,b1⟩)
 ·have b6:=b5 HT.2.2.2.2;gi_wp2
  go_roundw
  case rel=>exact⟨t+1,pre++[⟨t,o,I⟩],by omega,by rw[HT.2.1],HT.2.2.2.1,b4,b6⟩
  case measure=>exact HT.2.2.1
 gi_wp2;refine bodyPost_ret (results_none rfl _ _ _) rfl ?_;exact⟨⟨_,rfl⟩,.inr ⟨pre++[(⟨t,o,I⟩:zD m)],by rw[HT.2.2.2.1];exact EZ o,b1⟩⟩
end
section
open Go.RowKit Go.Shelf
attribute [local go_sem] lh qb xr ju nA nE nB nC ms rq nD wL pD
attribute [local go_sem] Oper.semAt_some
def MI (D:Nat):Deferred:= {target:=.collected D,args:=#[]}
theorem mj {P:Program}{F:Fence}{n:Nat}{fn:Func}{tmps:Array Value}{R:Ending→World→Prop}:∀(Ds:List Nat) (w:World),Ds.Nodup→(∀D∈Ds,w.heap[D]? =some (.deferred (some [])))→
 (∀o,aa (fun b=>b∉Ds) w o→LeavesInM F n P fn tmps R [] .returning o)→LeavesInM F n P fn tmps R (Ds.map MI) .returning w
 | [],w,_,_,h=>h w kR
 |D::Ds,w,Y,I,h=>by(
 have j:=List.nodup_cons.1 Y;refine⟨by simp,.inl ⟨D,_,rfl,run_takeDeferred (I D (List.mem_cons_self ..)),mj Ds _ j.2 (fun E J=>?_) fun o hk=>h o ?_⟩⟩
 ·have C:E≠D:=fun e=>j.1 (e▸J)
  rw[World.putObj_heap_other C];exact I E (List.mem_cons_of_mem _ J)
 have k1:aa (fun b=>b∉D::Ds) w (w.putObj D (.deferred none)):=(aa.refl _ w).grown (grownBy_putObj' w D _) fun k e=>by cases e;exact .inl fun h=>h (List.mem_cons_self ..)
 exact k1.trans (hk.mono fun b hb h=>hb (List.mem_cons_of_mem _ h)))
theorem KeepsOthers.of_kept {W j:World}(h:aa All W j):KeepsOthers W j:=
 ⟨h.size,fun b _ o _=>(h.block b (mV.1 o).1 trivial).trans o⟩
theorem eq.of_kept {W j:World}(h:aa All W j):eq W j:=fun o=>o.keep h
theorem aa.put {S:Nat→Prop}{w W:World}(h:aa S w W){D:Nat}(j:¬S D∨w.heap.size≤D)(o:Obj):aa S w (W.putObj D o):=
 h.grown (grownBy_putObj' W D o) fun k e=>by cases e;exact j
theorem gL {β:Type}{B:Nat}{S:Nat→Prop}{wl:World}(I:wl.heap.size≤B):OwnFrom B (fun(_:β) W=>aa S wl W):=by intro s W J row h j o;exact h.grown j fun k C=>.inr (by have:=(o k C).1;omega)
theorem iz {β:Type}{B:Nat}{g:Nat}{t:TypeId}{cs:β→Array Value}:OwnFrom B (fun(s:β) W=>al W g t (cs s)):=by intro s W R row h C I;refine h.grown C fun e=>?_;obtain⟨_,o,j,J⟩:=I g e.symm;unfold al at h;rw[h] at j;cases j;cases J
theorem mi {A B C:World}(h:eq A B)(k:eq B C):eq A C:=fun j=>k (h j)
theorem mh (B:Nat):∀(W:World) (l:Nat) (o j:Obj),B≤l→W.heap[l]? =some o→o.isCells=false→o.isWalk=false→eq W (W.putObj l j):=fun _ _ _ _ _ C I _=>Gb C I
theorem lx {S:Nat→Prop}{w:World}{A:Option Addr}{n c:Nat}{l:List (BitVec 64)}(h:nZ S w (.slice A n c) l){i:Nat}(hi:i<l.length):∃b o,A=some ⟨b,o,none⟩∧S b∧w.cell? ⟨b,o+i,none⟩=some (U (aJ l i)):=by obtain⟨a,cap,j,_,_,_,h⟩:=h;injection j with C R Y;subst C;obtain⟨b,o,c',e,I,J,rfl⟩:=h i _ (Hw hi);exact⟨b,o,e,I,J⟩
section
variable {P:Program} {w:World}
theorem pm (x:BitVec 64):(U x).cells= #[U x]:=rfl
theorem lU (t:TypeId)(x:BitVec 64):(Instr.box t (U x)).run P w=.ok (.pointer (some ⟨w.heap.size,0,none⟩)) (w.alloc (.cells #[U x] t)):=rfl
theorem jt (a:Addr)(x:BitVec 64)(m:Mode):(store a (U x) m).run P w=stored P w a (U x) m:=run_store P w a _ m rfl
end
theorem mU (x:BitVec 64)(cs:Array Value):(U x=.agg cs)=False:=eq_false (fun h=>by cases h)
attribute [local go_sem] pm lU jt mU List.getElem?_toArray List.getElem?_cons_zero
def Ip (up:List (BitVec 64))(set:BitVec 64)(pre:List (zD set)):Prop:=∀x∈pre,jB up set x.1=false
def KA (up:List (BitVec 64))(set:BitVec 64)(c:Code)(pre:List (zD set)):Prop:=c=.ret∧∃j x,pre=j++[x]∧(∀y∈j,jB up set y.1=false)∧jB up set x.1=true
theorem Dm (S:Nat→Prop)(v:Value)(up:List (BitVec 64))(set:BitVec 64)(w:World)(hv:nZ S w v up)(hl:gz w)(b5:∀k,k<64→set.getLsbD k=true→k<up.length):
 Calls prog 151 #[v,U set] w fun e w'=>e=.returned (.int .i64 (qan up set))∧aa All w w':=by
 have b6:=hv;obtain⟨A,cap,rfl,h1,h2,_,_⟩:=hv;unfold maxLen at h2;refine(callsIn_wide (n:=8)).1 ?_;refine callsIn_of_wp_marks func151 rfl trivial ?_ rfl;simp only[ntmps151,List.size_toArray,kI,List.length_nil,Nat.reduceAdd,Nat.reduceSub,Array.replicate_succ,Array.replicate_zero,List.push_toArray,List.append_toArray,mF,List.cons_append];rw[wpIn_wide];go_wp2_with fail;refine(wk _ _).mono ?_;rintro e w' ⟨rfl,rfl⟩;go_wp2_with fail;obtain⟨wl,I⟩:=eQ ((((w.alloc (.cells #[.slice A up.length cap] 23)).alloc (.cells #[U set] 52)).alloc (.cells #[.int .i64 0] 3)).alloc (.cells #[U set] 52));have a8:=aA3 I;have b0:=aB2 I aE1;have a1:=aB1 I aE2;have b1:=aB0 I aE3;have Y:=aC4 I;have c2:w.heap.size+4≤wl.heap.size:=by rw[I];simp
 rw[←I];clear I;have b7:=hl.keep Y
 refine wpIn_wide.1 (wpIn_rangeFunc_ownF (F:=Fence.wide) (n:=8) rfl (by omega) (gf:=238) (lb:=#[.pointer (some ⟨w.heap.size+1+1+1,0,none⟩)]) rfl trivial (enters_of func238 (by kernel_rfl) rfl)
  (qm 7 (by omega) set _ wl b7 b1) mi (mh _) (Below.refl _ _) (fun _=>rfl)
  (fun pre W=>Ip up set pre∧aa All wl W)
  (fun c pre W=>(KA up set c pre∧aa (fun b=>b≠w.heap.size+1+1) wl W)∧al W (w.heap.size+1+1) 3 #[.int .i64 ((pre.getLast?.map fun x=>x.1).getD 0:Nat)])
  (OwnFrom.and (ownFrom_pure _ _) (gL (cf _)))
  (fun c=>OwnFrom.and (OwnFrom.and (ownFrom_pure _ _) (gL (cf _))) iz)
  ⟨fun x hx=>by simp at hx,kR⟩
  (fun x=> {tmps:=#[.slice A up.length cap,U set,.pointer (some ⟨w.heap.size,0,none⟩),.pointer (some ⟨w.heap.size+1,0,none⟩),.pointer (some ⟨w.heap.size+1+1,0,none⟩),.int .i64 (x.1:Nat),U set,.func (.func 238) #[] #[.pointer (some ⟨w.heap.size+1+1+1,0,none⟩)],.int .i64 (x.1:Nat),undef,undef,undef,undef,undef,undef,undef,undef],defers:=[]}) ?assign ?body ?done ?stop)
 case assign=>intro l x W K hK;gi_wp2;exact hK
 case body=>(
 rintro l pre x W ⟨J,hk⟩ _;have c0:=b5 x.1 x.2.1 x.2.2;have hf:∀wn,aa All W wn→wn.cell? ⟨w.heap.size,0,none⟩=some (.slice A up.length cap)∧wn.cell? ⟨w.heap.size+1,0,none⟩=some (U set)∧∃b o,A=some ⟨b,o,none⟩∧wn.cell? ⟨b,o+x.1,none⟩=some (U (aJ up x.1)):=fun wn R=>by have a6:=hk.trans R;obtain⟨b,o,e,_,hc⟩:=lx (dU.keep (Y.trans a6).all b6) c0;exact⟨(a8.kept a6 trivial).cell 0,(b0.kept a6 trivial).cell 0,b,o,e,hc⟩
 obtain⟨_,_,ab,ao,rfl,_⟩:=hf W kR;have b4:∀wn,aa All W wn→wn.cell? ⟨w.heap.size,0,none⟩=some (.slice (some ⟨ab,ao,none⟩) up.length cap)∧wn.cell? ⟨w.heap.size+1,0,none⟩=some (U set)∧wn.cell? ⟨ab,ao+x.1,none⟩=some (U (aJ up x.1)):=fun wn R=>by obtain⟨g1,g2,b,o,e,hc⟩:=hf wn R;cases e;exact⟨g1,g2,hc⟩
 have C:=a1.kept hk trivial;have b8:jB up set x.1=(set&&& ~~~(aJ up x.1)==0#64):=by unfold jB;rw[x.2.2];rfl
 have HF:=J5 b4 hk J C b8;clear hf b4 hk J C b8 a8 b0 a1 b1 b7 b6 hl b5;gi_wp2;refine fJ (aa All W) [] (fun _ _ _=>True) (fun _=>none) (by kernel_rfl) (by kernel_rfl) (by kernel_rfl) (by kernel_rfl) (by kernel_rfl) kR.drew ?_;iterate 7 (refine OR (fun wn hk hp=>by(obtain⟨e1,e2,e3⟩:=HF.1 wn hk);go_simp;with_reducible rfl) ?_)
 refine dQ fun wn R _=>?_;have b3:=HF.2.1.trans R;have b2:=HF.2.2.2.1.kept R trivial;have c3:=b2.cl 0;have c4:=b2.free 0;have HN:=J3 R b3 b2;clear R b3 b2;cases hb:(set&&& ~~~(aJ up x.1)==0#64) with
 |true=>
  have HB:=oH hb;clear hb;gi_wp2;refine⟨(KeepsOthers.of_kept HN.1).trans (KeepsOthers.setCell _ _ _),⟨⟨rfl,pre,x,rfl,HF.2.2.1,by rw[HF.2.2.2.2];exact HB.out⟩,?_⟩,?_⟩;·exact HN.2.1.all.setCell (p:=⟨w.heap.size+1+1,0,none⟩) (.inl (by simp)) _
  have:=HN.2.2.set 0 (.int .i64 (x.1:Nat));simpa using this
 |false=>
  have HB:=oH hb;clear hb;gi_wp2;refine⟨KeepsOthers.of_kept HN.1,eq.of_kept HN.1,fun y hy=>?_,HN.2.1⟩;rcases eD.1 hy with hy|hy;·exact HF.2.2.1 y hy
  rw[cx.1 hy,HF.2.2.2.2];exact HB.out)
 case done=>(
 rintro D xs W hD hS ⟨J,hk⟩ hK;have C:=a1.kept hk trivial;have c5:=C.cl 0;have b4:=C.free 0;have hv:qan up set= -1:=by(
 refine jW fun j hj=>?_;cases hb:set.getLsbD j with
 |false=>unfold jB;rw[hb];rfl
 |true=>
  have hm:j∈xs.map Subtype.val:=by rw[hS];exact ko.2 ⟨hj,hb⟩
  obtain⟨x,hx,rfl⟩:=dr.1 hm;exact J x hx)
 have HV:=J4 hv C hk hK;clear hv J hS hk C hK a8 b0 a1 b1;go_wp2;have b9:=(KeepsOthers.setCell W ⟨w.heap.size+1+1,0,none⟩ (.int .i64 (-1))).same D _ HV.2.2.2 rfl;refine⟨by simp,.inl ⟨_,_,rfl,run_takeDeferred b9,?_⟩⟩;have a7:=cell_kept ((HV.2.1.set 0 (.int .i64 (-1))).cell 0) (grownBy_putObj' _ D (.deferred none)) (fun r e=>by cases e;exact⟨_,b9,rfl⟩);refine⟨.int .i64 (-1),?_,by rw[HV.1],((Y.trans HV.2.2.1).setCell (p:=⟨w.heap.size+1+1,0,none⟩) (.inr (by simp;omega)) _).put (.inr (by omega)) _⟩;simp at a7;simp[results,Tryz.f151,go_sem,a7])
 rintro D c pre W hD hS ⟨⟨⟨rfl,c1,x,rfl,J,hx⟩,hk⟩,hb⟩ hK;rw[wpIn_wide];have hv:qan up set=(x.1:Nat):=by(
 rw[ic] at hS;obtain⟨h1,h2⟩:=xP hS;refine lI x.2.1 hx fun j hj=>?_;cases hb:set.getLsbD j with
 |false=>unfold jB;rw[hb];rfl
 |true=>obtain⟨y,hy,rfl⟩:=dr.1 (h2 j hj hb);exact J y hy)
 have HV:=J4 hv hb hk hK;clear hv J hS hk hb hK a8 b0 a1 b1;go_wp2;refine⟨by simp,.inl ⟨_,_,rfl,run_takeDeferred HV.2.2.2,?_⟩⟩;have a7:=cell_kept (HV.2.1.cell 0) (grownBy_putObj' _ D (.deferred none)) (fun r e=>by cases e;exact⟨_,HV.2.2.2,rfl⟩);refine⟨.int .i64 (x.1:Nat),?_,by rw[HV.1],?_⟩
 ·simp at a7
  simp[results,Tryz.f151,go_sem,a7]
 refine aa.put ⟨HV.2.2.1.os.trans Y.os,HV.2.2.1.output.trans Y.output,fR Y.size HV.2.2.1.size,fun b hb _=>?_⟩ (.inr (by omega)) _;rw[HV.2.2.1.block b (by omega) (by omega)];exact Y.block b hb trivial
end
section
open Go.RowKit Go.Shelf
attribute [local go_sem] lh qb xr ju nA nE nB nC ms rq nD wL pD
attribute [local go_sem] Oper.semAt_some
attribute [local go_sem] pm lU jt mU List.getElem?_toArray List.getElem?_cons_zero
theorem Km:(prog.info? 52).map (fun i=>(i.zero,i.size,i.bytes))=some (some (.int .u64 0),1,8):=by kernel_rfl
def kM (N:Nat)(f:Nat→BitVec 64):Array Value:=dM N fun i=>U (f i)
theorem Jv (n:Nat)(R:n≤1048576)(w:World):(Instr.makeSlice 23 (.int .i64 n) (.int .i64 n)).run prog w=.ok (.slice (some ⟨w.heap.size,0,none⟩) n n) (w.alloc (.cells (kM n fun _=>0#64) 52)):=by
 obtain⟨i,hi,C,I,J⟩:=info_parts Km;rw[run_make (P:=prog) w 23 52 i (.int .u64 0) underlying23 hi C .i64 .i64 n n (by omega) (by omega) (by rw[J];omega) (by omega)];have e:madeCells (Value.int .u64 0).cells ((n:Int).toNat*i.size)=kM n fun _=>0#64:=by(
 rw[I,dP,Nat.mul_one];apply Array.ext_getElem?;intro j;by_cases o:j<n;·rw[kM,cq o];simp[madeCells,o,Value.cells,Nat.mod_one,U]
 rw[jK (by rw[size_madeCells];omega),jK (by rw[kM,ew];omega)])
 rw[e,dP]
theorem Co {N:Nat}{f:Nat→BitVec 64}{i:Nat}(h:i<N):(kM N f)[i]? =some (U (f i)):=cq h
def Ee (f:Nat→BitVec 64)(i:Nat)(x:BitVec 64):Nat→BitVec 64:=fun k=>if k=i then x else f k
theorem Hv {N:Nat}{f:Nat→BitVec 64}{i:Nat}{x:BitVec 64}:(kM N f).setIfInBounds i (U x)=kM N (Ee f i x):=by unfold kM;rw[jo];congr 1;funext k;unfold qd Ee;split<;>rfl
theorem oY {N:Nat}{f g:Nat→BitVec 64}(h:∀i,i<N→f i=g i):kM N f=kM N g:=by unfold kM dM;congr 1;exact List.map_congr_left fun i hi=>by rw[h i (fg.1 hi)]
structure Md (up:List (BitVec 64))(g:Nat)(wl:World)(k:Nat)(Ds:List Nat)(wr:World):Prop where
 nodup:Ds.Nodup
 marks:∀D∈Ds,wr.heap[D]? =some (.deferred (some []))
 far:∀D∈Ds,wl.heap.size≤D
 kept:aa (fun b=>b≠g) wl wr
 down:al wr g 52 (kM up.length (ow up k))
def ol (up:List (BitVec 64))(k:Nat)(pre:List Nat)(j:Nat):BitVec 64:=if j∈pre then ow up k j|||1#64<<<k else ow up k j
theorem Gg {up:List (BitVec 64)}{k:Nat}{pre:List Nat}(h:pre=dS (aJ up k) 64)(j:Nat)(C:j<64):ol up k pre j=ow up (k+1) j:=by
 unfold ol ow;rw[zt];by_cases o:(aJ up k).getLsbD j=true;·rw[ap o,ap (by rw[h];exact ko.2 ⟨C,o⟩)]
 rw[ae o,ae (fun hm=>o (by rw[h] at hm;exact(ko.1 hm).2))]
theorem Do {up:List (BitVec 64)}{k:Nat}{pre:List Nat}{x:Nat}(o:x∉pre)(N:Nat):kM N (Ee (ol up k pre) x (ol up k pre x|||1#64<<<k))=kM N (ol up k (pre++[x])):=by
 refine oY fun j _=>?_;unfold Ee;by_cases e:j=x;·subst e;rw[ap rfl];unfold ol;rw[ae o,ap (by simp)]
 rw[ae e];unfold ol;by_cases hm:j∈pre;·rw[ap hm,ap (by simp[hm])]
 rw[ae hm,ae (by simp[hm,e])]
theorem Gw (x y:BitVec 64):x|||y|||y=x|||y:=by rw[BitVec.or_assoc,BitVec.or_self]
theorem AE {up:List (BitVec 64)}{k:Nat}{pre:List Nat}{x:Nat}(N:Nat):kM N (Ee (ol up k pre) x (ol up k pre x|||1#64<<<k))=kM N (ol up k (pre++[x])):=by
 by_cases o:x∈pre
 ·refine oY fun j _=>?_;unfold Ee;by_cases e:j=x;·subst e;rw[ap rfl];unfold ol;rw[ap o,ap (by simp),Gw]
  rw[ae e];unfold ol;by_cases hm:j∈pre;·rw[ap hm,ap (by simp[hm])]
  rw[ae hm,ae (by simp[hm,e])]
 exact Do o N
theorem nl {g:Nat}{W j:World}(o:aa (fun b=>b≠g) W j)(C:g≠4)(I:g≠3):eq W j:=fun h=>
 ⟨fun i hi=>o.cell (p:=⟨4,i,none⟩) (fun e=>C e.symm) (h.1 i hi),fun i hi=>o.cell (p:=⟨3,i,none⟩) (fun e=>I e.symm) (h.2 i hi)⟩
theorem Js {w:World}(h:gz w):4<w.heap.size∧3<w.heap.size:=
 ⟨jy w _ (h.1 0 (by decide)),jy w _ (h.2 0 (by decide))⟩
theorem Bu (S:Nat→Prop)(v:Value)(up:List (BitVec 64))(w:World)(hv:nZ S w v up)(hl:gz w)(j4:up.length≤64)(d8:∀i,i<up.length→∀k,k<64→(aJ up i).getLsbD k=true→k<up.length):
 Calls prog 152 #[v] w fun e w'=>∃u,e=.returned u∧aa All w w'∧nZ (fun b=>w.heap.size≤b) w' u (dE up):=by
 have d9:=hv;obtain⟨A,cap,rfl,h1,h2,_,_⟩:=hv;unfold maxLen at h2;have h8:=Jv up.length (by omega);refine(callsIn_wide (n:=8)).1 ?_;refine callsIn_of_wp_marks func152 rfl trivial ?_ rfl;simp only[ntmps152,List.size_toArray,kI,List.length_nil,Nat.reduceAdd,Nat.reduceSub,Array.replicate_succ,Array.replicate_zero,List.push_toArray,List.append_toArray,mF,List.cons_append];rw[wpIn_wide];go_wp2_with fail;obtain⟨wl,a7⟩:=eQ ((w.alloc (.cells (kM up.length fun _=>0#64) 52)).alloc (.cells #[.slice (some ⟨w.heap.size,0,none⟩) up.length up.length] 23));have e0:al wl w.heap.size 52 (kM up.length fun _=>0#64):=by rw[a7];exact(al.new _ _ _).alloc _
 have e1:=aB0 a7 aE1;have b4:=aC2 a7;have j5:=aD2 a7;rw[←a7];clear a7 h8;have e2:=hl.keep b4;have b3:=Js hl;have I:=J8 d9 hl d8 e0 e1 b4 e2 b3;clear d9 hl d8 e0 e1 b4 e2 b3;refine wp_loop_ghost_k (fun gg a wr=>∃(k:Nat) (Ds:List Nat) (x4 x5 e3 e4 e5 e6 e7 e8 e9 h0 b5 b6 b7 b8 b9 c0 c1 c2 c6 c7:Value),a= {tmps:=#[.slice A up.length cap,undef,.slice none 0 0,.pointer (some ⟨w.heap.size+1,0,none⟩),x4,x5,.slice A up.length cap,.int .i64 up.length,.slice (some ⟨w.heap.size,0,none⟩) up.length up.length,.slice A up.length cap,.int .i64 up.length,.int .i64 k,e3,e4,e5,e6,e7,e8,e9,h0,b5,b6,b7,b8,b9,c0,c1,c2,c6,c7,undef],defers:=Ds.map MI}∧k≤up.length∧gg=up.length-k∧Md up w.heap.size wl k Ds wr) up.length ?start ?round
 case start=>exact⟨0,[],undef,undef,undef,undef,undef,undef,undef,undef,undef,undef,undef,undef,undef,undef,undef,undef,undef,undef,undef,undef,rfl,by omega,by omega,List.nodup_nil,(fun D h=>by simp at h),(fun D h=>by simp at h),kR,I.2.2.2.1⟩
 rintro gg a wr ⟨k,Ds,x4,x5,e3,e4,e5,e6,e7,e8,e9,h0,b5,b6,b7,b8,b9,c0,c1,c2,c6,c7,rfl,hk,rfl,hinv⟩ J K hJ hK;have C:=oH hinv;clear hinv;by_cases b2:k<up.length;·(
 obtain⟨b,o,rfl,_,hc⟩:=lx (dU.keep (S:=S) (I.2.2.2.2.2.1.all) I.1) b2;have h9:wr.cell? ⟨b,o+k,none⟩=some (U (aJ up k)):=by have i1:=jy wl _ hc;refine C.out.kept.cell (p:=⟨b,o+k,none⟩) ?_ hc;rintro rfl;have:=(I.2.2.2.1).cell (o+k);obtain⟨b',o',e,_,i6⟩:=lx I.1 b2;cases e;have:=jy w _ i6;simp only at this;omega
 have i1:b<wr.heap.size:=jy wr _ h9;go_wp2_with fail;refine(wk _ _).mono ?_;rintro e w' ⟨rfl,rfl⟩;go_wp2_with fail;have h3:=I.2.2.2.2.2.1.all.trans C.out.kept;have c8:gz wr:=nl C.out.kept (by have:=I.2.2.2.2.2.2.2;omega) (by have:=I.2.2.2.2.2.2.2;omega) I.2.2.2.2.2.2.1;obtain⟨w1,a8⟩:=eQ ((wr.alloc (.cells #[.int .i64 k] 3)).alloc (.cells #[U (aJ up k)] 52));have c9:=aA1 a8;have d7:=aB0 a8 aE1;have R:=aC2 a8;have j3:=aD2 a8;rw[←a8];clear a8;have b0:=c8.keep R;have j6:=C.out.kept.size;have h4:∀D∈Ds,D<wr.heap.size:=fun D hD=>(mV.1 (C.out.marks D hD)).1
 refine wpIn_wide.1 (wpIn_rangeFunc_ownF (F:=Fence.wide) (n:=8) rfl (by omega) (gf:=238) (lb:=#[.pointer (some ⟨wr.heap.size+1,0,none⟩)]) rfl trivial (enters_of func238 (by kernel_rfl) rfl)
  (qm 7 (by omega) (aJ up k) _ w1 b0 d7) mi (mh _) (Below.refl _ _) (fun _=>rfl)
  (fun pre W=>aa (fun b=>b≠w.heap.size) w1 W∧al W w.heap.size 52 (kM up.length (ol up k (pre.map Subtype.val))))
  (fun _ _ _=>False)
  (OwnFrom.and (gL (cf _)) iz)
  (fun _=>fun _ _ _ _ h _ _=>h)
  ⟨kR,C.out.down.kept R trivial⟩
  (fun x=> {tmps:=#[.slice (some ⟨b,o,none⟩) up.length cap,undef,.slice none 0 0,.pointer (some ⟨w.heap.size+1,0,none⟩),.pointer (some ⟨wr.heap.size,0,none⟩),.int .i64 (x.1:Nat),.slice (some ⟨b,o,none⟩) up.length cap,.int .i64 up.length,.slice (some ⟨w.heap.size,0,none⟩) up.length up.length,.slice (some ⟨b,o,none⟩) up.length cap,.int .i64 up.length,.int .i64 k,.bool true,.int .i64 k,.slice (some ⟨b,o,none⟩) up.length cap,.int .i64 k,.pointer (some ⟨b,o+k,none⟩),U (aJ up k),.func (.func 238) #[] #[.pointer (some ⟨wr.heap.size+1,0,none⟩)],.int .i64 (x.1:Nat),b5,b6,b7,b8,b9,c0,c1,c2,c6,c7,undef],defers:=[]}) ?assign ?body ?done ?stop)
 case assign=>intro l x W K hK;gi_wp2;exact hK
 case stop=>rintro D c pre W _ _ h _;exact h.elim
 case body=>(
 rintro l pre x W ⟨Y,a6⟩ _;have i7:=I.2.2.1 k b2 x.1 x.2.1 x.2.2;have j7:w.heap.size+1<wl.heap.size:=by omega
 have c3:W.cell? ⟨w.heap.size+1,0,none⟩=some (.slice (some ⟨w.heap.size,0,none⟩) up.length up.length):=
  ((((I.2.2.2.2.1).kept C.out.kept (by simp)).kept R trivial).kept Y (by simp)).cell 0
 have c4:W.cell? ⟨wr.heap.size,0,none⟩=some (.int .i64 k):=(c9.kept Y (by omega)).cell 0;have c5:=a6.cell x.1;have f5:=a6.free x.1;rw[Co i7] at c5;have b1:=fun W=>Dq (ol up k (pre.map Subtype.val) x.1) k (by omega) W;have HB:=J3 Y a6 b1;clear Y a6 b1 c8 h3 b0 c9 d7;generalize h5:ol up k (pre.map Subtype.val) x.1=mm at*;have HM:=oH h5;clear h5;gi_wp2;refine mv 9 (by kernel_rfl) (by kernel_rfl) (by kernel_rfl) ?j0 ?_
 case j0=>rintro⟨a,w,h⟩;exact h
 simp only[List.take_succ_cons,List.take_zero,List.drop_succ_cons,List.drop_zero];iterate 7 still_step
 still_call ((HB.2.2 _).mono fun _ _ h=>⟨h.1,h.2.symm⟩)
 still_step
 refine wpStill_nil ?_;go_wp2;have h6:aa (fun b=>b≠w.heap.size) W (W.setCell ⟨w.heap.size,x.1,none⟩ (U (mm|||1#64<<<k))).drew:=((aa.refl _ W).setCell (p:=⟨w.heap.size,x.1,none⟩) (.inl (by simp)) _).drew;refine⟨(KeepsOthers.setCell _ _ _).trans (KeepsOthers.drew _),nl h6 (by have:=I.2.2.2.2.2.2.2;omega) (by have:=I.2.2.2.2.2.2.2;omega),HB.1.trans h6,?_⟩;have h1:=(HB.2.1.set x.1 (U (mm|||1#64<<<k))).drew;rw[Hv,←HM.out,AE] at h1;rw[←HM.out,ic];exact h1)
 rintro D xs W hD hS ⟨Y,a6⟩ h7;have hinv:Md up w.heap.size wl (k+1) (D::Ds) W:=by(
 have j1:∀E∈Ds,E≠w.heap.size:=fun E hE=>by have:=C.out.far E hE;omega
 refine⟨List.nodup_cons.2 ⟨fun h=>by have:=h4 D h;omega,C.out.nodup⟩,fun E hE=>?_,fun E hE=>?_,?_,?_⟩
 ·rcases fX.1 hE with rfl|hE;·exact h7
  have h1:=h4 E hE;rw[Y.block E (by omega) (j1 E hE),R.block E h1 trivial];exact C.out.marks E hE
 ·rcases fX.1 hE with rfl|hE
  ·omega
  exact C.out.far E hE
 ·exact(C.out.kept.trans R.all).trans Y
 have e:kM up.length (ol up k (xs.map Subtype.val))=kM up.length (ow up (k+1)):=oY fun j hj=>Gg hS j (by omega);rw[←e];exact a6)
 have HV:=oH hinv;clear hinv hS Y a6 h7 c8 h3 b0 c9 d7;go_wp2;exact Handed.intro (up.length-(k+1)) (by omega) (hJ _ _ _ ⟨k+1,D::Ds,_,_,_,_,_,_,_,_,_,_,_,_,_,_,_,_,_,_,_,_,rfl,by omega,rfl,HV.out⟩))
 obtain rfl:k=up.length:=by omega
 have c3:wr.cell? ⟨w.heap.size+1,0,none⟩=some (.slice (some ⟨w.heap.size,0,none⟩) up.length up.length):=((I.2.2.2.2.1).kept C.out.kept (by simp)).cell 0;clear b2 hk;go_wp2;refine mj Ds _ C.out.nodup C.out.marks fun w' a1=>⟨_,results_tmp rfl _ _ _,_,rfl,?_,?_⟩;·have h1:aa All w wr:=⟨C.out.kept.os.trans I.2.2.2.2.2.1.os,C.out.kept.output.trans I.2.2.2.2.2.1.output,fR I.2.2.2.2.2.1.size C.out.kept.size,fun b hb _=>by rw[C.out.kept.block b (by omega) (by omega)];exact I.2.2.2.2.2.1.block b hb trivial⟩;exact⟨a1.os.trans h1.os,a1.output.trans h1.output,fR h1.size a1.size,fun b hb _=>by rw[a1.block b (Nat.lt_of_lt_of_le hb h1.size) (fun hm=>by have:=C.out.far b hm;omega)];exact h1.block b hb trivial⟩
 have hd:al w' w.heap.size 52 (kM up.length (ow up up.length)):=C.out.down.kept a1 (fun hm=>by have:=C.out.far _ hm;omega);have j2:=kF up;have:=Sl.of_blk (bw:=8) (E:=Cz) (S:=fun b=>w.heap.size≤b) (l:=dE up) (cap:=up.length) hd (cf _) (by omega) (by unfold maxLen;omega) (by omega) (fun i x hx=>⟨_,Co (by have:=(lS.1 hx).1;omega),by
  have hi:i<up.length:=by have:=(lS.1 hx).1;omega
  have:=JS hx;rw[vW hi] at this;show U _=U _;rw[this]⟩)
 rwa [j2] at this
end
section
open Go.RowKit Go.Shelf
attribute [local go_sem] lh qb xr ju nA nE nB nC ms rq nD wL pD
attribute [local go_sem] Oper.semAt_some
attribute [local go_sem] pm lU jt mU List.getElem?_toArray List.getElem?_cons_zero
def qN (up:List (BitVec 64))(i k:Nat):Prop:=(k≠i→(aJ up k).getLsbD i=false)∧aJ up k&&& ~~~(aJ up i)=0#64
def uC (up:List (BitVec 64))(i:Nat):Prop:=(aJ up i).getLsbD i=true∧(∀k,k<64→(aJ up i).getLsbD k=true→k<up.length)∧∀k,k<64→(aJ up i).getLsbD k=true→qN up i k
theorem fL {up:List (BitVec 64)}:dI up↔1≤up.length∧up.length≤64∧∀i,i<up.length→uC up i:=by
 constructor
 ·rintro⟨C,I,h⟩
  exact⟨C,I,fun i hi=>⟨(h i hi).1,fun k j o=>((h i hi).2 k j o).1,fun k j o=>((h i hi).2 k j o).2⟩⟩
 rintro⟨C,I,h⟩;exact⟨C,I,fun i hi=>⟨(h i hi).1,fun k j o=>⟨(h i hi).2.1 k j o,(h i hi).2.2 k j o⟩⟩⟩
theorem Ce {m:BitVec 64}{n:Nat}:m&&& ~~~(oU n)=0#64↔∀k,k<64→m.getLsbD k=true→k<n:=by
 rw[pZ];refine⟨fun h k j o=>?_,fun h k j o=>?_⟩
 ·have:=h k j o
  rw[yD n k j] at this;exact of_decide_eq_true this
 rw[yD n k j];exact bL (h k j o)
def Ii (up:List (BitVec 64))(i:Nat)(pre:List (zD (aJ up i))):Prop:=∀x∈pre,qN up i x.1
def Ma (up:List (BitVec 64))(c:Code):Prop:=c=.ret∧¬dI up
structure LZ (up:List (BitVec 64))(wl:World)(k:Nat)(Ds:List Nat)(wr:World):Prop where
 nodup:Ds.Nodup
 marks:∀D∈Ds,wr.heap[D]? =some (.deferred (some []))
 far:∀D∈Ds,wl.heap.size≤D
 kept:aa All wl wr
 good:∀i,i<k→uC up i
theorem ld {up:List (BitVec 64)}{w wl W:World}{Ds:List Nat}{tmps:Array Value}{b:Bool}(Y:Ds.Nodup)(h2:∀D∈Ds,W.heap[D]? =some (.deferred (some [])))(J:∀D∈Ds,wl.heap.size≤D)(o:aa All w wl)(a1:wl.heap.size=w.heap.size+2)
 (C:aa (fun c=>c≠w.heap.size+1) wl W) (hb:al W (w.heap.size+1) 4 #[.bool b]) (ht:tmps[2]? =some (.pointer (some ⟨w.heap.size+1,0,none⟩))) (hv:pB (dI up)=b):
 LeavesInM Fence.wide 8 prog Tryz.f149 tmps (fun e R=>e=.returned (.bool (pB (dI up)))∧aa All w R) (Ds.map MI) .returning W:=by
 refine mj Ds _ Y h2 fun R j=>?_;have I:=(hb.kept j (fun hm=>by have:=J _ hm;omega)).cl 0;refine⟨.bool b,?_,by rw[hv],j.os.trans (C.os.trans o.os),j.output.trans (C.output.trans o.output),fR o.size (fR C.size j.size),fun c I _=>?_⟩;·simp[results,Tryz.f149,go_sem,I,ht]
 have:=C.size;rw[j.block c (by omega) (fun hm=>by have:=J _ hm;omega),C.block c (by omega) (by omega)];exact o.block c I trivial
theorem DC (S:Nat→Prop)(v:Value)(up:List (BitVec 64))(w:World)(hv:nZ S w v up)(hl:gz w):
 Calls prog 149 #[v] w fun e w'=>e=.returned (.bool (pB (dI up)))∧aa All w w':=by
 have e0:=hv;obtain⟨A,cap,rfl,h1,h2,_,_⟩:=hv;unfold maxLen at h2;refine(callsIn_wide (n:=8)).1 ?_;refine callsIn_of_wp_marks func149 rfl trivial ?_ rfl;simp only[ntmps149,List.size_toArray,kI,List.length_nil,Nat.reduceAdd,Nat.reduceSub,Array.replicate_succ,Array.replicate_zero,List.push_toArray,List.append_toArray,mF,List.cons_append];rw[wpIn_wide];by_cases hn:up.length<1∨64<up.length
 ·have b0:=oH (au (P:=dI up) fun h=>by have:=h.1;have:=h.2.1;omega);have hr:decide ((up.length:Int)<1)=true∨(decide ((up.length:Int)<1)=false∧decide ((64:Int)<up.length)=true):=by simp only[qal,decide_eq_false_iff_not];omega
  clear hn e0 hl;rcases hr with hr|⟨hr,n9⟩
  all_goals
   go_wp2;refine⟨.bool false,?_,by rw[b0.out],((aa.refl All w).alloc _).alloc _⟩;simp[results,Tryz.f149,go_sem]
 have hr:decide ((up.length:Int)<1)=false:=by simp;omega
 have n9:decide ((64:Int)<up.length)=false:=by simp;omega
 have k1:up.length≤64:=by omega
 have k2:1≤up.length:=by omega
 have b5:=fun W=>AD up.length k1 W;have o0:=oH b5;clear b5 hn;go_wp2_with (go_at_call 209;refine(o0.out _).mono ?_;rintro e w' ⟨rfl,rfl⟩);obtain⟨wl,b7⟩:=eQ ((w.alloc (.cells #[.slice A up.length cap] 23)).alloc (.cells #[.bool false] 4));have k3:=aA1 b7;have a7:=aB0 b7 aE1;have e6:=aC2 b7;have d7:=aD2 b7;rw[←b7];clear b7;have k4:=hl.keep e6;have HL:=J5 e0 k3 a7 e6 k4;clear e0 hl k3 a7 e6 k4;refine wp_loop_ghost_k (fun gg a wr=>∃(k:Nat) (Ds:List Nat) (x4 x5 x6 k5 k6 k7 k8 k9 l0 l1 l2 l3 l4 l5 l6 l7 l8 l9 m9 n0 e7 e8 e9 h0 h3 h4 h5 h6 h7 h8 h9 i1 i6 i7 j0 j1 j2 j3 j4 j5 j6:Value),a= {tmps:=#[.slice A up.length cap,.pointer (some ⟨w.heap.size,0,none⟩),.pointer (some ⟨w.heap.size+1,0,none⟩),U (oU up.length),x4,x5,x6,.slice A up.length cap,.int .i64 up.length,.bool false,.bool false,.slice A up.length cap,.int .i64 up.length,.bool false,.bool false,.slice A up.length cap,.int .i64 up.length,U (oU up.length),.slice A up.length cap,.int .i64 up.length,.int .i64 k,k5,k6,k7,k8,k9,l0,l1,l2,l3,l4,l5,l6,l7,l8,l9,m9,n0,e7,e8,e9,h0,h3,h4,h5,h6,h7,h8,h9,i1,i6,i7,j0,j1,j2,j3,j4,j5,j6],defers:=Ds.map MI}∧k≤up.length∧gg=up.length-k∧LZ up wl k Ds wr) up.length ?start ?round
 case start=>exact⟨0,[],undef,undef,undef,undef,undef,undef,undef,undef,undef,undef,undef,undef,undef,undef,undef,undef,undef,undef,undef,undef,undef,undef,undef,undef,undef,undef,undef,undef,undef,undef,undef,undef,undef,undef,undef,undef,undef,undef,undef,undef,undef,rfl,by omega,by omega,List.nodup_nil,(fun D h=>by simp at h),(fun D h=>by simp at h),kR,fun i hi=>by omega⟩
 rintro gg a wr ⟨k,Ds,x4,x5,x6,k5,k6,k7,k8,k9,l0,l1,l2,l3,l4,l5,l6,l7,l8,l9,m9,n0,e7,e8,e9,h0,h3,h4,h5,h6,h7,h8,h9,i1,i6,i7,j0,j1,j2,j3,j4,j5,j6,rfl,hk,rfl,hinv⟩ J K hJ hK;have R:=oH hinv;have c1:=(HL.2.1.kept hinv.kept trivial).cl 0;have c2:=(HL.2.2.1.kept hinv.kept trivial).cl 0;have c3:=(HL.2.2.1.kept hinv.kept trivial).free 0;have o5:w.heap.size<wr.heap.size:=by have:=hinv.kept.size;omega
 have o6:w.heap.size+1<wr.heap.size:=by have:=hinv.kept.size;omega
 clear hinv;by_cases b8:k<up.length;·(
 obtain⟨b,o,rfl,_,hc⟩:=lx (dU.keep (S:=S) ((HL.2.2.2.1.trans R.out.kept).all) HL.1) b8;have o7:b<wr.heap.size:=jy wr _ hc;have a8:=fun W=>yJ (aJ up k) k (by omega) W;cases a7:(aJ up k).getLsbD k with
 |false=>
  rw[a7] at a8;have HH:=oH a8;have b0:=oH (au (P:=dI up) fun h=>by have:=(fL.1 h).2.2 k b8;rw[uC,a7] at this;exact oG this.1);clear a8 a7;go_wp2_with (go_at_call 119;refine(HH.out _).mono ?_;rintro e w' ⟨rfl,rfl⟩);refine ld (wl:=wl) R.out.nodup (fun D hD=>?_) R.out.far HL.2.2.2.1 d7 ?_ ?_ rfl b0.out;·have h1:=R.out.marks D hD;have h2:=R.out.far D hD;exact((((aa.refl (fun c=>c≠w.heap.size+1) wr).setCell (p:=⟨w.heap.size+1,0,none⟩) (.inl (by simp)) (.bool false)).alloc (.cells #[.int .i64 k] 3)).alloc (.cells #[U (aJ up k)] 52)).block D (mV.1 h1).1 (by omega)|>.trans h1
  ·exact((R.out.kept.all.setCell (p:=⟨w.heap.size+1,0,none⟩) (.inl (by simp)) _).alloc _).alloc _
  have:=(((HL.2.2.1.kept R.out.kept trivial).set 0 (.bool false)).alloc (.cells #[.int .i64 k] 3)).alloc (.cells #[U (aJ up k)] 52);simpa using this
 |true=>
  rw[a7] at a8;have HH:=oH a8;clear a8;cases b9:(aJ up k&&& ~~~oU up.length !=0#64) with
  |true=>
   have b0:=oH (au (P:=dI up) fun h=>by have h2:=(fL.1 h).2.2 k b8;have:=Ce.2 h2.2.1;rw[this] at b9;simp at b9);clear a7;go_wp2_with (go_at_call 119;refine(HH.out _).mono ?_;rintro e w' ⟨rfl,rfl⟩);refine ld (wl:=wl) R.out.nodup (fun D hD=>?_) R.out.far HL.2.2.2.1 d7 ?_ ?_ rfl b0.out;·have h1:=R.out.marks D hD;have h2:=R.out.far D hD;exact((((aa.refl (fun c=>c≠w.heap.size+1) wr).setCell (p:=⟨w.heap.size+1,0,none⟩) (.inl (by simp)) (.bool false)).alloc (.cells #[.int .i64 k] 3)).alloc (.cells #[U (aJ up k)] 52)).block D (mV.1 h1).1 (by omega)|>.trans h1
   ·exact((R.out.kept.all.setCell (p:=⟨w.heap.size+1,0,none⟩) (.inl (by simp)) _).alloc _).alloc _
   have:=(((HL.2.2.1.kept R.out.kept trivial).set 0 (.bool false)).alloc (.cells #[.int .i64 k] 3)).alloc (.cells #[U (aJ up k)] 52);simpa using this
  |false=>
   have n1:∀j,j<64→(aJ up k).getLsbD j=true→j<up.length:=Ce.1 (by simpa using b9);have j7:=J2 n1 a7;clear n1 a7;go_wp2_with (first|(go_at_call 119;refine(HH.out _).mono ?_;rintro e w' ⟨rfl,rfl⟩)|(go_at_call 210;refine(wk _ _).mono ?_;rintro e w' ⟨rfl,rfl⟩));obtain⟨w1,b3⟩:=eQ (((wr.alloc (.cells #[.int .i64 k] 3)).alloc (.cells #[U (aJ up k)] 52)).alloc (.cells #[U (aJ up k)] 52));have n2:=aA2 b3;have n3:=aB1 b3 aE1;have d8:=aB0 b3 aE2;have c4:=aC3 b3;have o4:=aD3 b3;rw[←b3];clear b3;have b6:gz w1:=HL.2.2.2.2.keep (R.out.kept.trans c4);have n4:∀D∈Ds,D<wr.heap.size:=fun D hD=>(mV.1 (R.out.marks D hD)).1;have HA:=J4 n2 n3 c4 n4;clear n2 n3 c4 n4
   refine wpIn_wide.1 (wpIn_rangeFunc_ownF (F:=Fence.wide) (n:=8) rfl (by omega) (gf:=238) (lb:=#[.pointer (some ⟨wr.heap.size+1+1,0,none⟩)]) rfl trivial (enters_of func238 (by kernel_rfl) rfl)
    (qm 7 (by omega) (aJ up k) _ w1 b6 d8) mi (mh _) (Below.refl _ _) (fun _=>rfl)
    (fun pre W=>Ii up k pre∧aa All w1 W)
    (fun c _ W=>(Ma up c∧aa (fun b=>b≠w.heap.size+1) w1 W)∧al W (w.heap.size+1) 4 #[.bool false])
    (OwnFrom.and (ownFrom_pure _ _) (gL (cf _)))
    (fun c=>OwnFrom.and (OwnFrom.and (ownFrom_pure _ _) (gL (cf _))) iz)
    ⟨fun x hx=>by simp at hx,kR⟩
    (fun x=> {tmps:=#[.slice (some ⟨b,o,none⟩) up.length cap,.pointer (some ⟨w.heap.size,0,none⟩),.pointer (some ⟨w.heap.size+1,0,none⟩),U (oU up.length),.pointer (some ⟨wr.heap.size,0,none⟩),.pointer (some ⟨wr.heap.size+1,0,none⟩),.int .i64 (x.1:Nat),.slice (some ⟨b,o,none⟩) up.length cap,.int .i64 up.length,.bool false,.bool false,.slice (some ⟨b,o,none⟩) up.length cap,.int .i64 up.length,.bool false,.bool false,.slice (some ⟨b,o,none⟩) up.length cap,.int .i64 up.length,U (oU up.length),.slice (some ⟨b,o,none⟩) up.length cap,.int .i64 up.length,.int .i64 k,.bool true,.int .i64 k,.pointer (some ⟨b,o+k,none⟩),U (aJ up k),U (aJ up k),.int .i64 k,.bool true,.bool false,.bool false,U (aJ up k),U (oU up.length),U (aJ up k&&& ~~~oU up.length),.bool false,.bool false,U (aJ up k),.func (.func 238) #[] #[.pointer (some ⟨wr.heap.size+1+1,0,none⟩)],.int .i64 (x.1:Nat),e7,e8,e9,h0,h3,h4,h5,h6,h7,h8,h9,i1,i6,i7,j0,j1,j2,j3,j4,j5,j6],defers:=[]}) ?assign ?body ?done ?stop)
   case assign=>(intro l x W K hK;gi_wp2;exact hK)
   case stop=>(
 rintro D c pre W hD _ ⟨⟨⟨rfl,n5⟩,a6⟩,c5⟩ c6;rw[wpIn_wide];have n7:=R.out.kept.all.trans (HA.2.2.1.all.trans a6);have HV:=J5 n5 c5 a6 c6 n7;clear n5 c5 a6 c6 n7 d8 b6 c1 c2 c3 b9;go_wp2;refine ld (Ds:=D::Ds) (wl:=wl) (List.nodup_cons.2 ⟨fun h=>by have:=HA.2.2.2 D h;omega,R.out.nodup⟩) (fun E hE=>?_) (fun E hE=>?_) HL.2.2.2.1 d7 HV.2.2.2.2 HV.2.1 rfl (au HV.1)
 ·rcases fX.1 hE with rfl|hE;·exact HV.2.2.2.1
  have h1:=HA.2.2.2 E hE;have h2:=R.out.far E hE;rw[HV.2.2.1.block E (by omega) (by omega),HA.2.2.1.block E h1 trivial];exact R.out.marks E hE
 rcases fX.1 hE with rfl|hE;·have:=R.out.kept.size;omega
 exact R.out.far E hE)
   case done=>(
 rintro D xs W hD hS ⟨b1,a6⟩ c6;have hinv:LZ up wl (k+1) (D::Ds) W:=by(
 refine⟨List.nodup_cons.2 ⟨fun h=>by have:=HA.2.2.2 D h;omega,R.out.nodup⟩,fun E hE=>?_,fun E hE=>?_,R.out.kept.trans (HA.2.2.1.trans a6),fun i hi=>?_⟩
 ·rcases fX.1 hE with rfl|hE;·exact c6
  have h1:=HA.2.2.2 E hE;rw[a6.block E (by omega) trivial,HA.2.2.1.block E h1 trivial];exact R.out.marks E hE
 ·rcases fX.1 hE with rfl|hE
  ·have:=R.out.kept.size;omega
  exact R.out.far E hE
 by_cases e:i=k
 ·subst e;refine⟨j7.2,j7.1,fun j hj hb=>?_⟩;have hm:j∈xs.map Subtype.val:=by rw[hS];exact ko.2 ⟨hj,hb⟩
  obtain⟨x,hx,rfl⟩:=dr.1 hm;exact b1 x hx
 exact R.out.good i (by omega))
 have HV:=oH hinv;clear hinv hS a6 b1 c6 b6 d8 c1 c2 c3 b9;go_wp2;exact Handed.intro (up.length-(k+1)) (by omega) (hJ _ _ _ ⟨k+1,D::Ds,_,_,_,_,_,_,_,_,_,_,_,_,_,_,_,_,_,_,_,_,_,_,_,_,_,_,_,_,_,_,_,_,_,_,_,_,_,_,_,_,_,rfl,by omega,rfl,HV.out⟩))
   rintro l pre x W ⟨b1,a6⟩ _;have o1:=j7.1 x.1 x.2.1 x.2.2;have c7:∀wn,aa All W wn→wn.cell? ⟨w.heap.size,0,none⟩=some (.slice (some ⟨b,o,none⟩) up.length cap)∧wn.cell? ⟨wr.heap.size,0,none⟩=some (.int .i64 k)∧wn.cell? ⟨wr.heap.size+1,0,none⟩=some (U (aJ up k))∧wn.cell? ⟨b,o+x.1,none⟩=some (U (aJ up x.1))∧True:=fun wn C=>by have c8:=a6.trans C;have n8:=R.out.kept.trans (HA.2.2.1.trans c8);obtain⟨b',o',e,_,o2⟩:=lx (dU.keep (S:=S) ((HL.2.2.2.1.trans n8).all) HL.1) o1;cases e;exact⟨(HL.2.1.kept n8 trivial).cell 0,(HA.1.kept c8 trivial).cell 0,(HA.2.1.kept c8 trivial).cell 0,o2,trivial⟩
   have c5:=HL.2.2.1.kept (R.out.kept.trans (HA.2.2.1.trans a6)) trivial;have HF:=J4 c7 a6 b1 c5;have Y:=fun W=>yJ (aJ up x.1) k (by omega) W;have d9:((x.1:Int)==(k:Int))=decide (x.1=k):=by rw[Bool.eq_iff_iff,cy,qal];omega
   clear c7 a6 b1 c5 d8 b6 c1 c2 c3 b9 hc;cases j8:(aJ up x.1&&& ~~~(aJ up k) !=0#64) with
   |true=>
    have b0:Hid (¬dI up):=oH fun h=>by have h2:=(((fL.1 h).2.2 k b8).2.2 x.1 x.2.1 x.2.2).2;rw[h2] at j8;simp at j8
    clear Y d9;gi_wp2;refine fJ (aa All W) [] (fun _ _ _=>True) (fun _=>none) (by kernel_rfl) (by kernel_rfl) (by kernel_rfl) (by kernel_rfl) (by kernel_rfl) kR.drew ?_;iterate 8 (refine OR (fun wn hk hp=>by(obtain⟨e1,e2,e3,e4,e5⟩:=HF.1 wn hk;go_simp;with_reducible rfl)) ?_)
    iterate 11 (refine jf (by rfl) (by intro d hd;cases hd;decide) ?_;simp only[PS])
    iterate 1 (refine OR (fun wn hk hp=>by(obtain⟨e1,e2,e3,e4,e5⟩:=HF.1 wn hk;go_simp;with_reducible rfl)) ?_)
    refine dQ fun wn C _=>?_;have a1:=HF.2.1.trans C;have I:=HF.2.2.2.kept C trivial;have j9:=I.cl 0;have k0:=I.free 0;have HN:=J3 C a1 I;clear C a1 I;gi_wp2;refine⟨(KeepsOthers.of_kept HN.1).trans (KeepsOthers.setCell _ _ _),⟨⟨rfl,b0.out⟩,HN.2.1.all.setCell (p:=⟨w.heap.size+1,0,none⟩) (.inl (by simp)) _⟩,?_⟩;have:=HN.2.2.set 0 (.bool false);simpa using this
   |false=>
    have b2:aJ up x.1&&& ~~~(aJ up k)=0#64:=by simpa using j8
    by_cases c0:x.1=k;·(
 have o3:((x.1:Int) !=(k:Int))=false:=by simp[c0]
 have c9:Hid (qN up k x.1):=oH ⟨fun h=>absurd c0 h,b2⟩;clear Y d9 b2 c0;gi_wp2;refine fJ (aa All W) [] (fun _ _ _=>True) (fun _=>none) (by kernel_rfl) (by kernel_rfl) (by kernel_rfl) (by kernel_rfl) (by kernel_rfl) kR.drew ?_;iterate 12 (refine OR (fun wn hk hp=>by(obtain⟨e1,e2,e3,e4,e5⟩:=HF.1 wn hk;go_simp;with_reducible rfl)) ?_)
 iterate 6 (refine jf (by rfl) (by intro d hd;cases hd;decide) ?_;simp only[PS])
 iterate 2 (refine OR (fun wn hk hp=>by(obtain⟨e1,e2,e3,e4,e5⟩:=HF.1 wn hk;go_simp;with_reducible rfl)) ?_)
 refine dQ fun wn C _=>?_;have a1:=HF.2.1.trans C;have I:=HF.2.2.2.kept C trivial;have j9:=I.cl 0;have k0:=I.free 0;have HN:=J3 C a1 I;clear C a1 I;gi_wp2;refine⟨KeepsOthers.of_kept HN.1,eq.of_kept HN.1,fun y hy=>?_,HN.2.1⟩;rcases eD.1 hy with hy|hy;·exact HF.2.2.1 y hy
 rw[cx.1 hy];exact c9.out)
    have o3:((x.1:Int) !=(k:Int))=true:=by simp;omega
    cases b4:(aJ up x.1).getLsbD k with
    |true=>
     have b0:Hid (¬dI up):=oH fun h=>by have h2:=(((fL.1 h).2.2 k b8).2.2 x.1 x.2.1 x.2.2).1 c0;rw[h2] at b4;cases b4
     rw[b4] at Y;have H2:=oH Y;clear Y d9 b2 b4 c0;gi_wp2;refine fJ (aa All W) [] (fun _ _ _=>True) (fun k=>if k=17 then some (fun v=>v=.bool true) else none) (by kernel_rfl) (by kernel_rfl) (by kernel_rfl) (by kernel_rfl) (by kernel_rfl) kR.drew ?_;iterate 17 (refine OR (fun wn hk hp=>by(obtain⟨e1,e2,e3,e4,e5⟩:=HF.1 wn hk;go_simp;with_reducible rfl)) ?_)
     (refine gi (by rfl) (by rfl) (fun wn hk hp=>?_) ?_
      ·obtain⟨e1,e2,e3,e4,e5⟩:=HF.1 wn hk;go_simp;simp only[kl];refine(H2.out _).mono ?_;rintro e2 wq ⟨rfl,rfl⟩;exact⟨_,rfl,rfl,hk,fun _ _ _ _=>trivial,fun _ _ _=>trivial⟩
      rintro v rfl;simp only[PS])
     iterate 2 (refine OR (fun wn hk hp=>by(obtain⟨e1,e2,e3,e4,e5⟩:=HF.1 wn hk;go_simp;with_reducible rfl)) ?_)
     refine dQ fun wn C _=>?_;have a1:=HF.2.1.trans C;have I:=HF.2.2.2.kept C trivial;have j9:=I.cl 0;have k0:=I.free 0;have HN:=J3 C a1 I;clear C a1 I;gi_wp2;refine⟨(KeepsOthers.of_kept HN.1).trans (KeepsOthers.setCell _ _ _),⟨⟨rfl,b0.out⟩,HN.2.1.all.setCell (p:=⟨w.heap.size+1,0,none⟩) (.inl (by simp)) _⟩,?_⟩;have:=HN.2.2.set 0 (.bool false);simpa using this
    |false=>
     have c9:Hid (qN up k x.1):=oH ⟨fun _=>b4,b2⟩;rw[b4] at Y;have H2:=oH Y;clear Y d9 b2 b4 c0;gi_wp2;refine fJ (aa All W) [] (fun _ _ _=>True) (fun k=>if k=17 then some (fun v=>v=.bool false) else none) (by kernel_rfl) (by kernel_rfl) (by kernel_rfl) (by kernel_rfl) (by kernel_rfl) kR.drew ?_;iterate 17 (refine OR (fun wn hk hp=>by(obtain⟨e1,e2,e3,e4,e5⟩:=HF.1 wn hk;go_simp;with_reducible rfl)) ?_)
     (refine gi (by rfl) (by rfl) (fun wn hk hp=>?_) ?_
      ·obtain⟨e1,e2,e3,e4,e5⟩:=HF.1 wn hk;go_simp;simp only[kl];refine(H2.out _).mono ?_;rintro e2 wq ⟨rfl,rfl⟩;exact⟨_,rfl,rfl,hk,fun _ _ _ _=>trivial,fun _ _ _=>trivial⟩
      rintro v rfl;simp only[PS])
     iterate 2 (refine OR (fun wn hk hp=>by(obtain⟨e1,e2,e3,e4,e5⟩:=HF.1 wn hk;go_simp;with_reducible rfl)) ?_)
     refine dQ fun wn C _=>?_;have a1:=HF.2.1.trans C;have I:=HF.2.2.2.kept C trivial;have j9:=I.cl 0;have k0:=I.free 0;have HN:=J3 C a1 I;clear C a1 I;gi_wp2;refine⟨KeepsOthers.of_kept HN.1,eq.of_kept HN.1,fun y hy=>?_,HN.2.1⟩;rcases eD.1 hy with hy|hy;·exact HF.2.2.1 y hy
     rw[cx.1 hy];exact c9.out)
 obtain rfl:k=up.length:=by omega
 have HY:=oH (av (P:=dI up) (fL.2 ⟨k2,k1,R.out.good⟩));clear b8 hk;go_wp2;refine ld (wl:=wl) R.out.nodup (fun D hD=>?_) R.out.far HL.2.2.2.1 d7 (R.out.kept.all.setCell (p:=⟨w.heap.size+1,0,none⟩) (.inl (by simp)) _) ?_ rfl HY.out
 ·have h2:=R.out.far D hD
  rw[pI _ _ _ _ (by simp only;omega)];exact R.out.marks D hD
 have:=(HL.2.2.1.kept R.out.kept trivial).set 0 (.bool true);simpa using this
end
section
open Go.RowKit Go.Shelf
attribute [local go_sem] lh qb xr ju nA nE nB nC ms rq nD wL pD
attribute [local go_sem] pm lU jt mU List.getElem?_toArray List.getElem?_cons_zero
def qP (up:List (BitVec 64)):Prop:=∀a,a<up.length→∀b,b<a→0≤qan up (aJ up a&&&aJ up b)
theorem Ax (up:List (BitVec 64))(set:BitVec 64): -1≤qan up set∧qan up set<64:=wP _ _
theorem ye (S:Nat→Prop)(v:Value)(up:List (BitVec 64))(w:World)(hv:nZ S w v up)(hl:gz w)(b9:up.length≤64)(a7:∀i,i<up.length→∀k,k<64→(aJ up i).getLsbD k=true→k<up.length):
 Calls prog 150 #[v] w fun e w'=>e=.returned (.bool (pB (qP up)))∧aa All w w':=by
 have a8:=hv;obtain⟨A,cap,rfl,h1,h2,_,_⟩:=hv;unfold maxLen at h2;have HL:=J3 a8 hl a7;clear a8 hl a7;go_enter func150,ntmps150;go_wp2;go_loopg [7] up.length (fun g i wr=>∃a:Nat,a≤up.length∧g=up.length-a∧i=.int .i64 a∧aa All w wr∧∀x,x<a→∀b,b<x→0≤qan up (aJ up x&&&aJ up b));·exact⟨0,by omega,by omega,rfl,kR,fun x hx=>by omega⟩
 obtain⟨a,ha,rfl,rfl,j,C⟩:=hrel;have HA:=J2 j C;clear j C;by_cases a1:a<up.length;·(
 go_wp2;obtain⟨wa,b4⟩:=eQ wr;go_loopg [11] a (fun g i wr=>∃b:Nat,b≤a∧g=a-b∧i=.int .i64 b∧aa All w wr∧∀x,x<b→0≤qan up (aJ up a&&&aJ up x));·exact⟨0,by omega,by omega,rfl,HA.1,fun x hx=>by omega⟩
 clear b4;obtain⟨b,hb,rfl,rfl,j,C⟩:=hrel;have Y:=J2 j C;clear j C;by_cases b0:b<a;·(
 have I:∀wn,aa All wr wn→∃bb o,A=some ⟨bb,o,none⟩∧wn.cell? ⟨bb,o+a,none⟩=some (U (aJ up a))∧wn.cell? ⟨bb,o+b,none⟩=some (U (aJ up b)):=fun wn a6=>by have hu:=dU.keep (S:=S) ((Y.1.trans a6).all) HL.1;obtain⟨bb,o,e,_,hc⟩:=lx hu a1;obtain⟨c0,o',e',_,b5⟩:=lx hu (show b<up.length by omega);rw[e] at e';cases e';exact⟨bb,o,e,hc,b5⟩
 obtain⟨bb,o,rfl,_⟩:=I wr kR;have J:∀wn,aa All wr wn→wn.cell? ⟨bb,o+a,none⟩=some (U (aJ up a))∧wn.cell? ⟨bb,o+b,none⟩=some (U (aJ up b)):=fun wn a6=>by obtain⟨b',o',e,h3,h4⟩:=I wn a6;cases e;exact⟨h3,h4⟩
 have R:=fun wn (j:aa All wr wn)=>Dm S _ up (aJ up a&&&aJ up b) wn (dU.keep ((Y.1.trans j).all) HL.1) (HL.2.1.keep (Y.1.trans j)) (fun k b1 b2=>by rw[BitVec.getLsbD_and,gE] at b2;exact HL.2.2 a a1 k b1 b2.1);have c1:=Ax up (aJ up a&&&aJ up b);have HC:=J2 J R;have hx:qan up (aJ up a&&&aJ up b)=qan up (aJ up a&&&aJ up b):=rfl;clear I J R;generalize hr:qan up (aJ up a&&&aJ up b)=r at*;have HR:=oH hr;clear hr hx;have b8:b<up.length:=by omega
 go_wp2_with fail;refine eK (aa All wr) [] (fun _ _ _=>True) (fun k=>if k=10 then some (fun v=>v=.int .i64 r) else none) (by kernel_rfl) (by kernel_rfl) (by kernel_rfl) (by kernel_rfl) kR.drew ?_;iterate 10 (refine OR (fun wn j hp=>by(obtain⟨e1,e2⟩:=HC.1 wn j;go_simp;with_reducible rfl)) ?_)
 refine gi (by rfl) (by rfl) (fun wn j hp=>?_) ?_;·go_simp;simp only[kl];refine(HC.2 wn j).mono ?_;rintro e2 wq ⟨rfl,b6⟩;exact⟨_,rfl,rfl,j.trans b6,fun _ _ _ _=>trivial,fun _ _ _=>trivial⟩
 rintro v rfl;simp only[PS];by_cases b3:r<0
 ·have hd:decide (r<0)=true:=by simpa using b3
  have b7:=oH (au (P:=qP up) fun h=>by have:=h a a1 b b0;rw[HR.out] at this;omega);iterate 1 (refine OR (fun wn j hp=>by(go_simp;with_reducible rfl)) ?_)
  refine dQ fun wn j _=>?_;have HN:=oH (Y.1.trans j);clear j;go_wp2;go_ret;exact⟨by rw[b7.out];rfl,HN.out⟩
 have hd:decide (r<0)=false:=by simpa using b3
 iterate 1 (refine OR (fun wn j hp=>by(go_simp;with_reducible rfl)) ?_)
 refine dQ fun wn j _=>?_;have HN:=oH (Y.1.trans j);clear j;go_wp2;go_roundg (a-(b+1))
 ·refine⟨b+1,by omega,rfl,by go_num,HN.out,fun x hx=>?_⟩
  by_cases e:x=b;·subst e;rw[HR.out];omega
  exact Y.2 x (by omega)
 omega)
 obtain rfl:b=a:=by omega
 go_wp2;go_roundg (up.length-(b+1))
 ·refine⟨b+1,by omega,rfl,by go_num,Y.1,fun x hx=>?_⟩
  by_cases e:x=b;·subst e;exact Y.2
  exact HA.2 x (by omega)
 omega)
 obtain rfl:a=up.length:=by omega
 have HY:=oH (av (P:=qP up) HA.2);go_wp2;go_ret;exact⟨by rw[HY.out];rfl,HA.1⟩
theorem Eo {up:List (BitVec 64)}:∀i,i<(dE up).length→∀k,k<64→(aJ (dE up) i).getLsbD k=true→k<(dE up).length:=by intro i hi k o j;rw[kF] at hi⊢;rw[eI hi o,gE,qal] at j;exact j.1
theorem Gc {up:List (BitVec 64)}(C:dI up):ue up↔qP up∧qP (dE up):=by
 constructor
 ·rintro⟨_,h⟩;refine⟨fun a j b o=>?_,fun a j b o=>?_⟩;·rw[sQ C j (by omega)];exact(h a j b o).1
  rw[kF] at j;rw[sR C j (by omega)];exact(h a j b o).2
 rintro⟨I,J⟩;refine⟨C,fun a j b o=>⟨?_,?_⟩⟩;·rw[←sQ C j (by omega)];exact I a j b o
 rw[←sR C j (by omega)];exact J a (by rw[kF];exact j) b o
theorem AK {P Q:Prop}:pB (P∧Q)=(pB P&&pB Q):=by
 by_cases h:P
 ·by_cases k:Q
  ·rw[av h,av k,av ⟨h,k⟩];rfl
  rw[av h,au k,au fun x=>k x.2];rfl
 rw[au h,au fun x=>h x.1];rfl
theorem kC {P Q:Prop}(h:P↔Q):pB P=pB Q:=by rw[propext h]
theorem wU (S:Nat→Prop)(v:Value)(up:List (BitVec 64))(w:World)(hv:nZ S w v up)(hl:gz w):
 Calls prog 103 #[v] w fun e w'=>e=.returned (.bool (pB (ue up)))∧aa All w w':=by
 have j:=DC S v up w hv hl;by_cases Y:dI up
 ·rw[av Y] at j;have a1:∀i,i<up.length→∀k,k<64→(aJ up i).getLsbD k=true→k<up.length:=fun i hi k hk hb=>((Y.2.2 i hi).2 k hk hb).1;have C:=fun wn (hk:aa All w wn)=>ye S v up wn (dU.keep hk.all hv) (hl.keep hk) Y.2.1 a1;have I:=fun wn (hk:aa All w wn)=>Bu S v up wn (dU.keep hk.all hv) (hl.keep hk) Y.2.1 a1;have HP:=J5 (kC (Gc Y)) j C I hl;have a8:=Y.2.1;clear j C I a1 hv Y hl;have HX:=oH (AK (P:=qP up) (Q:=qP (dE up)));cases he:pB (qP up) with
  |false=>have HE:=oH he;clear he;go_enter func103,ntmps103;go_wp2_with fail;refine HP.2.1.mono ?_;rintro e w1 ⟨rfl,o⟩;have H1:=oH o;clear o;go_wp2_with fail;refine(HP.2.2.1 w1 H1.out).mono ?_;rw[HE.out];rintro e w2 ⟨rfl,J⟩;have H2:=oH (H1.out.trans J);clear J;go_wp2_with fail;go_ret;exact⟨by rw[HP.1,HX.out,HE.out];rfl,H2.out⟩
  |true=>have HE:=oH he;clear he;go_enter func103,ntmps103;go_wp2_with fail;refine HP.2.1.mono ?_;rintro e w1 ⟨rfl,o⟩;have H1:=oH o;clear o;go_wp2_with fail;refine(HP.2.2.1 w1 H1.out).mono ?_;rw[HE.out];rintro e w2 ⟨rfl,J⟩;have H2:=oH (H1.out.trans J);clear J;go_wp2_with fail;refine(HP.2.2.2.1 w2 H2.out).mono ?_;rintro e w3 ⟨u,rfl,a6,hu⟩;have R:=ye _ u (dE up) w3 hu (HP.2.2.2.2.keep (H2.out.trans a6)) (by rw[kF];exact a8) Eo;have H3:=J2 (H2.out.trans a6) R;clear a6 R hu;go_wp2_with fail;refine H3.2.mono ?_;rintro e w4 ⟨rfl,a7⟩;have H4:=oH (H3.1.trans a7);clear a7;go_wp2_with fail;go_ret;exact⟨by rw[HP.1,HX.out,HE.out,Bool.true_and];rfl,H4.out⟩
 rw[au Y] at j;have b0:=oH (au (P:=ue up) fun h=>Y h.1);have HP:=oH j;clear j Y hv hl;go_enter func103,ntmps103;go_wp2_with fail;refine HP.out.mono ?_;rintro e w1 ⟨rfl,o⟩;have H1:=oH o;clear o;go_wp2_with fail;go_ret;exact⟨by rw[b0.out];rfl,H1.out⟩
end
theorem AC {p:aH}{k:Nat}{s:ByteArray}(h:p.MZ[k]? =some s):0≤eZ p s:=by unfold eZ gJ;have:p.MZ.any (fun y=>y.toList==s.toList)=true:=mW.2 ⟨s,mG h,by simp⟩;rw[ap this];omega
theorem Bs {S:Nat→Prop}{w:World}{A:Option Addr}{n c:Nat}{l:List ByteArray}(h:gB S w (.slice A n c) l){i:Nat}{s:ByteArray}(hi:l[i]? =some s):∃b o,A=some ⟨b,o,none⟩∧S b∧w.cell? ⟨b,o+i,none⟩=some (.string s):=by obtain⟨a,cap,j,_,_,_,h⟩:=h;injection j with C R Y;subst C;obtain⟨b,o,c',e,I,J,rfl⟩:=h i _ hi;exact⟨b,o,e,I,J⟩
def pk (p:aH)(i:Nat)(s:ByteArray):Prop:=aB s=true∧eZ p s=i
theorem mo (S:Nat→Prop)(v:Value)(p:aH)(w:World)(hv:dJ S w v p)(hl:gz w):
 Calls prog 52 #[v] w fun e w'=>e=.returned (.bool (pB (dD p)))∧aa All w w':=by
 have b3:=hv;obtain⟨a,b,c,d,rfl,h1,h2,h3,h4,h5⟩:=hv;have c3:=h1;have c5:=h2;obtain⟨a1,a8,rfl,k1,k2,k3,_⟩:=h1;obtain⟨a2,b0,rfl,m1,m2,m3,_⟩:=h2;unfold maxLen at k2 m2;have c6:aa All w (w.alloc (.cells #[.slice a1 p.MZ.length a8,.slice a2 p.up.length b0,c,d,.int .i64 p.Nc] 26)):=(aa.refl All w).alloc _;have c7:al (w.alloc (.cells #[.slice a1 p.MZ.length a8,.slice a2 p.up.length b0,c,d,.int .i64 p.Nc] 26)) w.heap.size 26 #[.slice a1 p.MZ.length a8,.slice a2 p.up.length b0,c,d,.int .i64 p.Nc]:=al.new _ _ _;have b6:=fun wn (hk:aa All w wn)=>wU S _ p.up wn (dU.keep hk.all c5) (hl.keep hk);have b7:=fun wn s (hk:aa All w wn)=>qB S _ p s wn (cB.keep hk.all b3);have c8:=fun wn (hk:aa All w wn)=>qU S S _ _ p p.Nb wn (cB.keep hk.all b3) (aX.keep hk.all h3);have b8:=fun wn (hk:aa All w wn)=>qU S S _ _ p p.Na wn (cB.keep hk.all b3) (aX.keep hk.all h4);obtain⟨d1,d2⟩:=rs h5;have HV:=J6 c3 b7 c8 b8 c6 c7;have b4:=oH b6;obtain⟨ai,h6,rfl,_⟩:=h3;obtain⟨ao,h7,rfl,_⟩:=h4;clear c3 c5 b7 c8 b8 c6 c7 b6 b3 hl h5;go_enter func52,ntmps52;by_cases j:p.MZ.length=p.up.length;·(
 have e6:((p.up.length:Int) !=(p.MZ.length:Int))=false:=by simp[j]
 by_cases hL:ue p.up;·(
 have c1:=oH (av hL);by_cases c9:p.Nc<1
 ·have e7:decide (p.Nc<1)=true:=by simpa using c9
  have R:=oH (au (P:=dD p) fun h=>by have:=h.2.2.1;omega);have HE:=oH j;clear j hL;go_wp2_with (go_at_call 103;refine(b4.out _ HV.2.2.2.2.1).mono ?_;rw[c1.out];rintro e w1 ⟨rfl,J⟩;have C:=HV.2.2.2.2.2.kept J trivial;have c4:=C.cell 4;simp only[gc] at c4;have H1:=J2 J C;clear J C);go_ret;exact⟨by rw[R.out];rfl,HV.2.2.2.2.1.trans H1.1⟩
 have e7:decide (p.Nc<1)=false:=by simpa using c9
 by_cases d7:64<p.Nc
 ·have e8:decide (64<p.Nc)=true:=by simpa using d7
  have R:=oH (au (P:=dD p) fun h=>by have:=h.2.2.2.1;omega);have HE:=oH j;clear j hL;go_wp2_with (go_at_call 103;refine(b4.out _ HV.2.2.2.2.1).mono ?_;rw[c1.out];rintro e w1 ⟨rfl,J⟩;have C:=HV.2.2.2.2.2.kept J trivial;have c4:=C.cell 4;simp only[gc] at c4;have H1:=J2 J C;clear J C);go_ret;exact⟨by rw[R.out];rfl,HV.2.2.2.2.1.trans H1.1⟩
 have e8:decide (64<p.Nc)=false:=by simpa using d7
 have HP:Hid ((∀(i:Nat) s,p.MZ[i]? =some s→pk p i s)∧cE p p.Nb∧cE p p.Na↔dD p):=oH ⟨fun h=>⟨j,hL,by omega,by omega,h.1,h.2.1,h.2.2⟩,fun h=>⟨h.2.2.2.2.1,h.2.2.2.2.2.1,h.2.2.2.2.2.2⟩⟩;have HE:=oH j;clear j hL;go_wp2_with (go_at_call 103;refine(b4.out _ HV.2.2.2.2.1).mono ?_;rw[c1.out];rintro e w1 ⟨rfl,J⟩;have C:=HV.2.2.2.2.2.kept J trivial;have c4:=C.cell 4;have c0:=C.cell 0;simp only[gc] at c4 c0;have H1:=J2 J C;clear J C);clear c4 c0;go_loopg [33] p.MZ.length (fun g i wr=>∃k:Nat,k≤p.MZ.length∧g=p.MZ.length-k∧i=.int .i64 k∧aa All w1 wr∧∀(i:Nat) s,i<k→p.MZ[i]? =some s→pk p i s);·exact⟨0,by omega,by omega,rfl,kR,fun i s hi=>by omega⟩
 obtain⟨k,hk,rfl,rfl,b5,b9⟩:=hrel;have d8:=(HV.2.2.2.2.1.trans H1.1).trans b5;have C:=H1.2.kept b5 trivial;obtain⟨h8,h9,i1,i6,i7⟩:=C.c5;have HA:=J4 b5 b9 d8 C;clear b5 b9 d8 C;by_cases d9:k<p.MZ.length;·(
 obtain⟨s,hs⟩:=eG d9;obtain⟨bb,o,rfl,_,hc⟩:=Bs (ax.keep (S:=S) HA.2.2.1.all HV.1) hs;have b1:=AC hs;have c2:=HV.2.1 wr s HA.2.2.1;have e9:=kT (fun x:ByteArray=>x.toList==s.toList) p.MZ;rw[show gJ (fun x:ByteArray=>x.toList==s.toList) p.MZ=eZ p s from rfl] at e9;rw[show lH (eZ p s)=.tuple #[.int .i64 (eZ p s),.bool true] by rw[lH,Int.max_eq_left b1,bL b1]] at c2;have a6:pk p k s↔aB s=true∧eZ p s=k:=Iff.rfl;have e0:=fun wn=>vK s wn;have HC:=J3 c2 e0 hs;clear c2 e0 hs;generalize aB s=nm at*;generalize eZ p s=r at*;cases nm with
 |false=>
  have R:=oH (au (P:=dD p) fun h=>by have:=a6.1 ((HP.2 h).1 k s HC.2.2);exact Bool.noConfusion this.1);clear a6
  go_wp2_with (first
   |(go_at_call 84;refine HC.1.mono ?_;rintro e w2 ⟨rfl,I⟩;have H2:=oH I;clear I)
   |(go_at_call 104;refine(HC.2.1 _).mono ?_;rintro e w3 ⟨rfl,Y⟩;have H3:=oH Y;clear Y))
  go_ret;exact⟨by rw[R.out];rfl,(HA.2.2.1.trans H2.out).trans H3.out⟩
 |true=>
  by_cases a7:r=(k:Int);·(
 have hx:(r !=(k:Int))=false:=by simpa using a7
 have e1:=oH (a6.2 ⟨rfl,a7⟩);clear a6 a7
 go_wp2_with (first
  |(go_at_call 84;refine HC.1.mono ?_;rintro e w2 ⟨rfl,I⟩;have H2:=oH I;clear I)
  |(go_at_call 104;refine(HC.2.1 _).mono ?_;rintro e w3 ⟨rfl,Y⟩;have H3:=oH Y;clear Y))
 go_roundg (p.MZ.length-(k+1))
 ·refine⟨k+1,by omega,rfl,by go_num,(HA.1.trans H2.out).trans H3.out,fun i t hi ht=>?_⟩
  by_cases e:i=k;·subst e;rw[HC.2.2] at ht;cases ht;exact e1.out
  exact HA.2.1 i t (by omega) ht
 omega)
  have hx:(r !=(k:Int))=true:=by simpa using a7
  have R:=oH (au (P:=dD p) fun h=>by have:=a6.1 ((HP.2 h).1 k s HC.2.2);exact a7 this.2);clear a6 a7
  go_wp2_with (first
   |(go_at_call 84;refine HC.1.mono ?_;rintro e w2 ⟨rfl,I⟩;have H2:=oH I;clear I)
   |(go_at_call 104;refine(HC.2.1 _).mono ?_;rintro e w3 ⟨rfl,Y⟩;have H3:=oH Y;clear Y))
  go_ret;exact⟨by rw[R.out];rfl,(HA.2.2.1.trans H2.out).trans H3.out⟩)
 obtain rfl:k=p.MZ.length:=by omega
 have b2:∀(i:Nat) s,p.MZ[i]? =some s→pk p i s:=fun i s hs=>HA.2.1 i s (lS.1 hs).1 hs;have e2:=oH (kC (P:=dD p) (Q:=cE p p.Nb∧cE p p.Na) ⟨fun h=>(HP.2 h).2,fun h=>HP.1 ⟨b2,h⟩⟩);have HX:=oH (AK (P:=cE p p.Nb) (Q:=cE p p.Na));have e3:=HV.2.2.1 wr HA.2.2.1;have e4:=HV.2.2.2.1;generalize pB (cE p p.Nb)=bi at*;generalize pB (cE p p.Na)=bo at*;have HC:=J2 e3 e4;clear e3 e4 b2 hk d9;cases bi with
 |false=>go_wp2_with fail;refine HC.1.mono ?_;rintro e w2 ⟨rfl,I⟩;have H2:=oH I;clear I;go_wp2_with fail;go_ret;exact⟨by rw[e2.out,HX.out];rfl,HA.2.2.1.trans H2.out⟩
 |true=>go_wp2_with fail;refine HC.1.mono ?_;rintro e w2 ⟨rfl,I⟩;have e5:=HA.2.2.2.kept I trivial;obtain⟨j0,j1,j2,j3,j4⟩:=e5.c5;have H2:=oH (HA.2.2.1.trans I);clear I e5;go_wp2_with fail;refine(HC.2 w2 H2.out).mono ?_;rintro e w3 ⟨rfl,Y⟩;have H3:=oH (H2.out.trans Y);clear Y;go_wp2_with fail;go_ret;exact⟨by rw[e2.out,HX.out,Bool.true_and];rfl,H3.out⟩)
 have h0:=oH (au hL);have R:=oH (au (P:=dD p) fun h=>hL h.2.1);have HE:=oH j;clear j hL;go_wp2_with (go_at_call 103;refine(b4.out _ HV.2.2.2.2.1).mono ?_;rw[h0.out];rintro e w1 ⟨rfl,J⟩;have H1:=oH J;clear J);go_ret;exact⟨by rw[R.out];rfl,HV.2.2.2.2.1.trans H1.out⟩)
 have e6:((p.up.length:Int) !=(p.MZ.length:Int))=true:=by simp;omega
 have R:=oH (au (P:=dD p) fun h=>j h.1);clear j;go_wp2_with fail;go_ret;exact⟨by rw[R.out];rfl,HV.2.2.2.2.1⟩
section
structure kP:Prop where
 num:∀(c:UInt8) (n:Int),c=97∨c=98∨c=102∨c=118→aV n→aB (aL c n)=decide (0≤n)
 main:aB fO=true
 no:aB gR=false
def ru (n:Nat)(r:Int):Int:=if 0≤r∧r<n then r else-1
theorem ix {n:Nat}{r:Int}:ru n r=r↔(0≤r∧r<n)∨r= -1:=by unfold ru;split<;>omega
theorem mg {n:Nat}{r:Int}:0≤ru n r↔0≤r∧r<n:=by unfold ru;split<;>omega
theorem nS (c:UInt8)(n:Int):aL c n≠gR:=by unfold aL gR tr;intro h;injection h with h;simpa using congrArg Array.toList h
theorem kZ {c:UInt8}(j:c=97∨c=98∨c=102∨c=118)(n:Int):aL c n≠fO:=by unfold aL fO tr;intro h;injection h with h;have:=congrArg Array.toList h;simp only[List.cons.injEq] at this;rcases j with rfl|rfl|rfl|rfl<;>exact absurd this.1 (by decide)
theorem wO {main i j:Int}(hi:aV i)(I:aV j)(h:qY main i=qY main j):i=j:=by
 unfold qY at h;by_cases C:i=main
 ·by_cases o:j=main
  ·omega
  rw[ap C,ae o] at h;exact absurd h.symm (kZ (.inr (.inr (.inl rfl))) _)
 by_cases o:j=main
 ·rw[ae C,ap o] at h
  exact absurd h (kZ (.inr (.inr (.inl rfl))) _)
 rw[ae C,ae o] at h;exact(pQ hi I h).2
theorem ym (L:kP){main i:Int}(hi:aV i):aB (qY main i)=true↔i=main∨0≤i:=by
 unfold qY;by_cases h:i=main;·rw[ap h];simp[L.main,h]
 rw[ae h,L.num 102 i (.inr (.inr (.inl rfl))) hi];simp[h]
theorem lT {g:Int→ByteArray}{n:Nat}(hn:n≤1000000)(C:∀i j,aV i→aV j→g i=g j→i=j){r:Int}(I:aV r):aO ((List.range n).map fun(i:Nat)=>g i) (g r)=ru n r:=by
 have o:∀i:Nat,i<n→aV (i:Int):=fun i hi=>by unfold aV;omega
 by_cases h:0≤r∧r<n
 ·unfold ru
  rw[ap h];have:aO ((List.range n).map fun(i:Nat)=>g i) (g r)=(r.toNat:Nat):=by(
 refine vL (k:=r.toNat) ?_ ?_
 ·rw[cL,ln (by omega)]
  simp only[Option.map_some];rw[Int.toNat_of_nonneg h.1]
 rw[List.nodup_iff_pairwise_ne,List.pairwise_map];refine List.Pairwise.imp_of_mem (R:=fun a b=>a≠b) ?_ (List.nodup_iff_pairwise_ne.1 List.nodup_range);intro a b J Y a1 e;have:=C a b (o a (fg.1 J)) (o b (fg.1 Y)) e;omega)
  rw[this];omega
 unfold ru;rw[ae h];refine jb fun hm=>?_;obtain⟨i,hi,e⟩:=dr.1 hm;have hi:=fg.1 hi;have:=C i r (o i hi) I e;omega
theorem kY {g:Int→ByteArray}{n:Nat}(hn:n≤1000000)(C:∀i j,aV i→aV j→g i=g j→i=j):((List.range n).map fun(i:Nat)=>g i).Nodup:=by
 have o:∀i:Nat,i<n→aV (i:Int):=fun i hi=>by unfold aV;omega
 rw[List.nodup_iff_pairwise_ne,List.pairwise_map];refine List.Pairwise.imp_of_mem (R:=fun a b=>a≠b) ?_ (List.nodup_iff_pairwise_ne.1 List.nodup_range);intro a b I J Y e;have:=C a b (o a (fg.1 I)) (o b (fg.1 J)) e;omega
structure iM (x:bz):Prop where
 dst:aV x.dst
 ref:aV x.ref
 Ni:aV x.Ni
 args:∀a∈x.args,aV a
 Nh:∀a∈x.Nh,aV a
structure If (p:aH)(c:aE)(b:aw)(q:dN)(f:cD)(N:Nat):Prop where
 posA:∀r,aV r→aO (dz q) (aL 97 r)=ru c.Nd.length r
 posF:∀r,aV r→aO (fh q) (qY c.main r)=ru c.Nf.length r
 posB:∀r,aV r→aO (cn f) (aL 98 r)=ru b.Ng.length r
 posV:∀r,aV r→aO (bh f) (aL 118 r)=ru N r
 parG:∀(i:Nat),i<c.Nf.length→∃g,q.Nf[i]? =some g∧(g.params.length:Int)=(c.Nf.getD i ⟨0,0,[]⟩).params
theorem Cf {n:Nat}{l:List Int}:(∀a∈l,0≤a∧a<n)→l.map (ru n)=l:=by intro h;have:l.map (ru n)=l.map id:=List.map_congr_left fun a j=>ix.2 (.inl (h a j));rw[this,List.map_id]
section
variable {p:aH} {c:aE} {b:aw} {q:dN} {f:cD} {N:Nat}
theorem rD (o:dD p){r:Int}(C:0≤r)(I:r<p.MZ.length):eZ p (p.MZ.getD r.toNat gR)=r∧aB (p.MZ.getD r.toNat gR)=true:=by
 have j:r.toNat<p.MZ.length:=by omega
 have:=o.2.2.2.2.1 r.toNat _ (lG j);rw[iG,lG j,Option.getD_some];exact⟨by rw[this.2];omega,this.1⟩
theorem wB {l:List (ByteArray×Int)}(o:cE p l){r:Int}(C:0≤r)(I:r<l.length):fD l (l.getD r.toNat (gR,0)).1=r∧aB (l.getD r.toNat (gR,0)).1=true:=by
 have j:r.toNat<l.length:=by omega
 have:=o.2 r.toNat _ (lG j);rw[iG,lG j,Option.getD_some];exact⟨by rw[this.2.1];omega,this.1⟩
def zI (p:aH)(c:aE)(b:aw)(N:Nat)(x:bz):Prop:=
 ∃n dst ref Ni,cw x.kind=some (n,dst,ref,Ni)∧(dst=true→0≤x.dst∧x.dst<N)∧(dst=false→x.dst= -1)∧(ref=false→x.ref=0)∧(Ni=false→x.Ni=0)∧
 (x.kind≠1→x.num=0)∧(x.kind≠2→x.op=0)∧(x.kind=2→1≤x.op∧x.op≤12)∧(ref=true→0≤x.ref∧x.ref<cW p c b x.kind)∧(Ni=true→0≤x.Ni∧x.Ni<b.Ng.length)∧
 (if x.kind=3 then x.Nh.length=x.args.length∧1≤x.Nh.length∧x.Nh.length≤64 else x.Nh=[]∧(x.args.length:Int)=if x.kind=7 then(c.Nf.getD x.ref.toNat ⟨0,0,[]⟩).params else n)∧
 (∀a∈x.args,0≤a∧a<N)∧∀a∈x.Nh,0≤a∧a<b.Ng.length
def oq (c:aE)(b:aw)(x:bz):Int:=
 if x.kind=4∨x.kind=5∨x.kind=6 then ru c.Nd.length x.ref
 else if x.kind=7 then ru c.Nf.length x.ref
 else if x.kind=8∨x.kind=9∨x.kind=10 then x.ref
 else if x.kind=11∨x.kind=12 then ru b.Ng.length x.ref
 else 0
theorem xh (hp:dD p)(C:If p c b q f N){x:bz}(hx:iM x)(hc:dx p x):dv p q f (jC p c.main x)=oq c b x:=by
 unfold dv oq jC gW;simp only;by_cases j:x.kind=4∨x.kind=5∨x.kind=6;·rw[ap j,ap j,ap j,C.posA _ hx.ref]
 rw[ae j,ae j];by_cases o:x.kind=7;·rw[ap o,ap o,ae j,ap o,C.posF _ hx.ref]
 rw[ae o,ae o];by_cases I:x.kind=8
 ·have:=hc.1 I
  have R:x.kind=8∨x.kind=9∨x.kind=10:=.inl I;simp only[ae j,ae o,ap I,ap R,(wB hp.2.2.2.2.2.1 this.1 this.2).1]
 rw[ae I];by_cases J:x.kind=9
 ·have:=hc.2.1 J
  have R:x.kind=8∨x.kind=9∨x.kind=10:=.inr (.inl J);simp only[ae j,ae o,ae I,ap J,ap R,(wB hp.2.2.2.2.2.2 this.1 this.2).1]
 rw[ae J];by_cases Y:x.kind=10
 ·have:=hc.2.2 Y
  have R:x.kind=8∨x.kind=9∨x.kind=10:=.inr (.inr Y);simp only[ae j,ae o,ae I,ae J,ap Y,ap R,(rD hp this.1 this.2).1]
 have a1:¬(x.kind=8∨x.kind=9∨x.kind=10):=by omega
 rw[ae Y,ae a1];by_cases h6:x.kind=11∨x.kind=12;·simp only[ap h6,ae j,ae o,ae I,ae J,ae Y,C.posB _ hx.ref]
 simp only[ae h6,ae j,ae o]
def rG (b:aw)(x:bz):Int:=if x.kind=12 then ru b.Ng.length x.Ni else 0
theorem wm (C:If p c b q f N){x:bz}(j:iM x):dy f (jC p c.main x)=rG b x:=by
 unfold dy rG jC;simp only;by_cases h:x.kind=12;·rw[ap h,ap h,ap h,C.posB _ j.Ni]
 rw[ae h,ae h]
theorem DQ (L:kP)(o:dD p){x:bz}(C:iM x)(I:dx p x):aB (gW p c.main x)=true↔
 (x.kind=4∨x.kind=5∨x.kind=6∨x.kind=11∨x.kind=12→0≤x.ref)∧(x.kind=7→x.ref=c.main∨0≤x.ref)∧4≤x.kind∧x.kind≤12:=by
 unfold gW;by_cases h1:x.kind=4∨x.kind=5∨x.kind=6
 ·rw[ap h1,L.num _ _ (.inl rfl) C.ref,qal]
  constructor;·intro h;exact⟨fun _=>h,fun j=>by omega,by omega,by omega⟩
  intro h;exact h.1 (by omega)
 rw[ae h1];by_cases J:x.kind=7
 ·rw[ap J,ym L C.ref]
  constructor;·intro h;exact⟨fun j=>by omega,fun _=>h,by omega,by omega⟩
  intro h;exact h.2.1 J
 rw[ae J];by_cases R:x.kind=8
 ·have:=I.1 R
  rw[ap R,(wB o.2.2.2.2.2.1 this.1 this.2).2];exact⟨fun _=>⟨fun _=>this.1,fun j=>by omega,by omega,by omega⟩,fun _=>rfl⟩
 rw[ae R];by_cases Y:x.kind=9
 ·have:=I.2.1 Y
  rw[ap Y,(wB o.2.2.2.2.2.2 this.1 this.2).2];exact⟨fun _=>⟨fun _=>this.1,fun j=>by omega,by omega,by omega⟩,fun _=>rfl⟩
 rw[ae Y];by_cases h5:x.kind=10
 ·have:=I.2.2 h5
  rw[ap h5,(rD o this.1 this.2).2];exact⟨fun _=>⟨fun _=>this.1,fun j=>by omega,by omega,by omega⟩,fun _=>rfl⟩
 rw[ae h5];by_cases h6:x.kind=11∨x.kind=12
 ·rw[ap h6,L.num _ _ (.inr (.inl rfl)) C.ref,qal]
  constructor;·intro h;exact⟨fun _=>h,fun j=>by omega,by omega,by omega⟩
  intro h;exact h.1 (by omega)
 rw[ae h6,L.no];constructor;·intro h;cases h
 intro h;omega
theorem Cm {x:bz}(h:¬(4≤x.kind∧x.kind≤12)):gW p c.main x=gR:=by unfold gW;rw[ae (by omega),ae (by omega),ae (by omega),ae (by omega),ae (by omega),ae (by omega)]
theorem ib {k:Nat}{s:rT}(h:cJ k=some s):k≠3∧1≤k∧k≤13∧(s.ref=true↔4≤k∧k≤12∧k≠3)∧(s.Ni=true↔k=12)∧(s.args<0↔k=7)∧s.args≤2∧cw k=some (if k=7 then 9 else s.args,s.dst,s.ref,s.Ni):=by
 unfold cJ at h
 split at h<;>first
  |(cases h;refine⟨by decide,by decide,by decide,by decide,by decide,by decide,by decide,rfl⟩)
  |cases h
theorem ny {k:Nat}{t:Int×Bool×Bool×Bool}(h:cw k=some t)(j:k≠3):∃s,cJ k=some s:=by
 unfold cw at h
 split at h<;>first
  |exact⟨_,rfl⟩
  |exact absurd rfl j
  |cases h
def rO (N:Nat)(d:Int):Int:=if 0≤d then ru N d else-1
theorem wY (I:dD p)(C:If p c b q f N){x:bz}(j:iM x)(J:dx p x):iE (pg p q f (jC p c.main x))=iE x↔
 rO N x.dst=x.dst∧oq c b x=x.ref∧rG b x=x.Ni∧x.args.map (ru N)=x.args∧x.Nh.map (ru b.Ng.length)=x.Nh:=by
 have R:(if(jC p c.main x).dst=gR then(-1:Int) else aO (bh f) (jC p c.main x).dst)=rO N x.dst:=by(
 unfold rO jC;simp only;by_cases h:0≤x.dst;·rw[ap h,ap h,ae (nS _ _),C.posV _ j.dst]
 rw[ae h,ae h,ap rfl])
 have Y:(jC p c.main x).args.map (aO (bh f))=x.args.map (ru N):=by unfold jC;rw[List.map_map];exact List.map_congr_left fun a o=>C.posV a (j.args a o)
 have e3:(jC p c.main x).Nh.map (aO (cn f))=x.Nh.map (ru b.Ng.length):=by unfold jC;rw[List.map_map];exact List.map_congr_left fun a o=>C.posB a (j.Nh a o)
 unfold iE pg;rw[R,Y,e3,xh I C j J,wm C j];simp only[jC,bz.mk.injEq,true_and,and_true]
theorem yI (C:If p c b q f N){a:Int}(j:aV a):aL 118 a∈bh f↔0≤a∧a<N:=by rw[←cm,C.posV a j,mg]
theorem yG (C:If p c b q f N){a:Int}(j:aV a):aL 98 a∈cn f↔0≤a∧a<b.Ng.length:=by rw[←cm,C.posB a j,mg]
def EO (p:aH)(c:aE)(q:dN)(f:cD)(x:bz):Prop:=dx p x∧fj (jC p c.main x)∧mO p q f (jC p c.main x)∧iE (pg p q f (jC p c.main x))=iE x
theorem Gs (L:kP)(hp:dD p)(C:If p c b q f N){x:bz}(hx:iM x)(h:EO p c q f x):zI p c b N x:=by
 obtain⟨hc,hi,hr,hs⟩:=h;obtain⟨s1,s2,s3,s4,s5⟩:=(wY hp C hx hc).1 hs;obtain⟨r1,r2,r3,r4,r5⟩:=hr;rw[xh hp C hx hc] at r1 r5;rw[wm C hx] at r2;obtain⟨i1,i2,i3,i4,i5,i6,i7⟩:=hi;simp only[jC] at i1 i2 i3 i6 i7;have j:∀a∈x.args,0≤a∧a<N:=fun a ha=>(yI C (hx.args a ha)).1 (r3 _ (dr.2 ⟨a,ha,rfl⟩));have R:∀a∈x.Nh,0≤a∧a<b.Ng.length:=fun a ha=>(yG C (hx.Nh a ha)).1 (r4 _ (dr.2 ⟨a,ha,rfl⟩));by_cases h3:x.kind=3;·(
 obtain⟨j1,j2,j3,o,j5,j6⟩:=i6 h3;rw[ce,ce] at o;rw[ce] at j5 j6;have hd:0≤x.dst:=by
  by_cases Y:0≤x.dst;·exact Y
  rw[ae Y,L.no] at j1;cases j1
 refine⟨8,true,false,false,by rw[h3];rfl,fun _=>⟨hd,?_⟩,(fun h=>by cases h),fun _=>?_,fun _=>?_,fun h=>?_,fun h=>?_,(fun h=>by omega),(fun h=>by cases h),(fun h=>by cases h),?_,j,R⟩
 ·unfold rO at s1
  rw[ap hd] at s1;have:=ix.1 s1;omega
 ·unfold oq at s2
  rw[ae (by omega),ae (by omega),ae (by omega),ae (by omega)] at s2;exact s2.symm
 ·unfold rG at s3
  rw[ae (by omega)] at s3;exact s3.symm
 ·by_cases I:x.num=0
  ·exact I
  exact absurd (i3 I) h
 ·by_cases I:x.op=0
  ·exact I
  exact absurd (i1.1 I) h
 rw[ap h3];exact⟨o,j5,j6⟩)
 obtain⟨s,a1,j1,j2,j3,o,j5,j6⟩:=i7 h3;obtain⟨_,k1,b2,kr,ka,kn,k2,kq⟩:=ib a1;have a6:x.Nh=[]:=List.map_eq_nil_iff.1 j1;rw[ce] at j2 j3;refine⟨_,_,_,_,kq,fun hd=>?_,fun hd=>?_,fun hR=>?_,fun hA=>?_,fun h=>?_,fun h=>?_,fun h=>⟨?_,i2⟩,fun hR=>?_,fun hA=>?_,?_,j,R⟩
 ·unfold fS at o;rw[ap hd] at o;have J:0≤x.dst:=by
   by_cases Y:0≤x.dst;·exact Y
   rw[ae Y,L.no] at o;cases o
  refine⟨J,?_⟩;unfold rO at s1;rw[ap J] at s1;have:=ix.1 s1;omega
 ·unfold fS at o;rw[hd,ae oG] at o;have J:¬0≤x.dst:=fun Y=>by rw[ap Y] at o;exact nS _ _ o
  unfold rO at s1;rw[ae J] at s1;exact s1.symm
 ·have hk:¬(4≤x.kind∧x.kind≤12):=fun h=>by rw[kr.2 ⟨h.1,h.2,h3⟩] at hR;cases hR
  unfold oq at s2;rw[ae (by omega),ae (by omega),ae (by omega),ae (by omega)] at s2;exact s2.symm
 ·have hk:¬x.kind=12:=fun h=>by rw[ka.2 h] at hA;cases hA
  unfold rG at s3;rw[ae hk] at s3;exact s3.symm
 ·by_cases I:x.num=0
  ·exact I
  exact absurd (i3 I) h
 ·by_cases I:x.op=0
  ·exact I
  exact absurd (i1.1 I) h
 ·have:=i1.2 h;omega
 ·(
 have hk:=kr.1 hR;unfold oq at r1;unfold cW;by_cases g1:x.kind=4∨x.kind=5∨x.kind=6;·rw[ap g1] at r1⊢;exact mg.1 r1
 rw[ae g1] at r1⊢;by_cases g2:x.kind=7;·rw[ap g2] at r1⊢;exact mg.1 r1
 rw[ae g2] at r1⊢;by_cases g3:x.kind=8;·rw[ap g3];exact hc.1 g3
 rw[ae g3];by_cases g4:x.kind=9;·rw[ap g4];exact hc.2.1 g4
 rw[ae g4];by_cases g5:x.kind=10;·rw[ap g5];exact hc.2.2 g5
 rw[ae g5];rw[ae (by omega),ap (by omega)] at r1;exact mg.1 r1)
 ·have hk:=ka.1 hA
  unfold rG at r2;rw[ap hk] at r2;exact mg.1 r2
 rw[ae h3];refine⟨a6,?_⟩;by_cases g:x.kind=7
 ·rw[ap g];have hR:oq c b x=ru c.Nf.length x.ref:=by unfold oq;rw[ae (by omega),ap g]
  rw[hR] at r1 r5;have a7:=mg.1 r1;have a8:ru c.Nf.length x.ref=x.ref:=ix.2 (.inl a7);rw[a8] at r5;obtain⟨g',b0,b1⟩:=C.parG x.ref.toNat (by omega);have:=r5 g g' b0;simp only[jC,ce] at this;rw[←b1,this]
 rw[ae g,ae g];exact j2 (by omega)
theorem Gp (L:kP)(hp:dD p)(C:If p c b q f N)(b5:∀b∈c.Nf,b.params≤6){x:bz}(hx:iM x)(h:zI p c b N x):EO p c q f x:=by
 obtain⟨n,dst,ref,Ni,j,b3,b6,b7,b8,b9,c0,b2,hR,hA,o,Y,a6⟩:=h;have hc:dx p x:=by(
 by_cases J:x.kind=3;·exact⟨fun h=>by omega,fun h=>by omega,fun h=>by omega⟩
 obtain⟨s,hs⟩:=ny j J;obtain⟨_,k1,b1,kr,ka,kn,k2,kq⟩:=ib hs;rw[kq] at j;injection j with j;injection j with e1 e2;injection e2 with e2 R;injection R with R e4;have hm:4≤x.kind∧x.kind≤12→0≤x.ref∧x.ref<cW p c b x.kind:=fun hk=>hR (by rw[←R];exact kr.2 ⟨hk.1,hk.2,J⟩);refine⟨fun h=>?_,fun h=>?_,fun h=>?_⟩;·have:=hm (by omega);simpa [cW,h] using this
 ·have:=hm (by omega);simpa [cW,h] using this
 have:=hm (by omega);simpa [cW,h] using this)
 have a7:iE (pg p q f (jC p c.main x))=iE x:=by(
 refine(wY hp C hx hc).2 ⟨?_,?_,?_,Cf Y,Cf a6⟩
 ·unfold rO
  cases dst with
  |true=>have:=b3 rfl;rw[ap this.1];exact ix.2 (.inl this)
  |false=>have:=b6 rfl;rw[ae (by omega),this]
 ·(
 cases ref with
 |false=>
  have h0:=b7 rfl;have hk:¬(4≤x.kind∧x.kind≤12):=by(
 by_cases J:x.kind=3;·omega
 obtain⟨s,hs⟩:=ny j J;obtain⟨_,k1,b1,kr,ka,kn,k2,kq⟩:=ib hs;rw[kq] at j;injection j with j;injection j with e1 e2;injection e2 with e2 R;injection R with R e4;intro hk;have:=kr.2 ⟨hk.1,hk.2,J⟩;rw[R] at this;cases this)
  unfold oq;rw[ae (by omega),ae (by omega),ae (by omega),ae (by omega),h0]
 |true=>
  have hm:=hR rfl;unfold cW at hm;unfold oq;by_cases g1:x.kind=4∨x.kind=5∨x.kind=6;·rw[ap g1] at hm⊢;exact ix.2 (.inl hm)
  rw[ae g1] at hm⊢;by_cases g2:x.kind=7;·rw[ap g2] at hm⊢;exact ix.2 (.inl hm)
  rw[ae g2] at hm⊢;by_cases g3:x.kind=8∨x.kind=9∨x.kind=10;·rw[ap g3]
  rw[ae g3];rw[ae (by omega),ae (by omega),ae (by omega)] at hm;have hk:x.kind=11∨x.kind=12:=by(
 by_cases J:x.kind=3;·rw[J] at j;cases j
 obtain⟨s,hs⟩:=ny j J;obtain⟨_,k1,b1,kr,ka,kn,k2,kq⟩:=ib hs;rw[kq] at j;injection j with j;injection j with e1 e2;injection e2 with e2 R;injection R with R e4;have:=kr.1 R;omega)
  rw[ap hk];exact ix.2 (.inl hm))
 unfold rG;by_cases g:x.kind=12
 ·rw[ap g]
  have:Ni=true:=by rw[g] at j;cases j;rfl
  exact ix.2 (.inl (hA this))
 rw[ae g];cases Ni with
 |false=>exact(b8 rfl).symm
 |true=>
  exfalso;by_cases J:x.kind=3;·rw[J] at j;cases j
  obtain⟨s,hs⟩:=ny j J;obtain⟨_,k1,b1,kr,ka,kn,k2,kq⟩:=ib hs;rw[kq] at j;injection j with j;injection j with e1 e2;injection e2 with e2 R;injection R with R e4;exact g (ka.1 e4))
 have a8:=(wY hp C hx hc).1 a7;have c1:=xh hp C hx hc;have c5:=wm (p:=p) C hx;have c4:∀n:Nat,∀r,ru n r=r→0≤r→0≤r∧r<n:=fun n r h h0=>by have:=ix.1 h;omega
 have a1:0≤x.ref:=by
  cases ref with
  |false=>have:=b7 rfl;omega
  |true=>exact(hR rfl).1
 have b0:0≤x.Ni:=by
  cases Ni with
  |false=>have:=b8 rfl;omega
  |true=>exact(hA rfl).1
 refine⟨hc,⟨?_,?_,?_,?_,?_,?_,?_⟩,⟨?_,?_,?_,?_,?_⟩,a7⟩
 ·simp only[jC]
  constructor
  ·intro h;by_cases g:x.kind=2;·exact g
   exact absurd (c0 g) h
  intro h;have:=b2 h;omega
 ·simp only[jC]
  by_cases g:x.kind=2;·exact(b2 g).2
  have:=c0 g;omega
 ·simp only[jC];intro h;by_cases g:x.kind=1;·exact g
  exact absurd (b9 g) h
 ·intro a ha
  obtain⟨a',I,rfl⟩:=dr.1 ha;rw[L.num _ _ (.inr (.inr (.inr rfl))) (hx.args a' I)];exact bL (Y a' I).1
 ·intro a ha
  obtain⟨a',I,rfl⟩:=dr.1 ha;rw[L.num _ _ (.inr (.inl rfl)) (hx.Nh a' I)];exact bL (a6 a' I).1
 ·simp only[jC];intro J;rw[ap J] at o;rw[J] at j;cases j;have hd:=b3 rfl;rw[ap hd.1,L.num _ _ (.inr (.inr (.inr rfl))) hx.dst,ce,ce];exact⟨bL hd.1,Cm (by omega),ae (by omega),o.1,o.2.1,o.2.2⟩
 ·(
 simp only[jC];intro J;rw[ae J] at o;obtain⟨s,hs⟩:=ny j J;obtain⟨_,k1,b1,kr,ka,kn,k2,kq⟩:=ib hs;rw[kq] at j;injection j with j;injection j with e1 e2;injection e2 with e2 R;injection R with R e4;subst e2 R e4;have c2:x.args.length≤6:=by(
 have:=o.2;by_cases g:x.kind=7
 ·rw[ap g] at this;have hm:=hR (kr.2 (by omega));unfold cW at hm;rw[ae (by omega),ap g] at hm;have c3:x.ref.toNat<c.Nf.length:=by omega
  rw[iG,lG c3,Option.getD_some] at this;have:=b5 _ (eL c3);omega
 rw[ae g] at this;rw[ae g] at e1;omega)
 refine⟨s,hs,by rw[o.1];rfl,fun h=>?_,by rw[ce];exact c2,?_,?_,?_⟩
 ·have g:¬x.kind=7:=fun g=>by have:=kn.2 g;omega
  rw[ae g] at o e1;rw[ce,e1];exact o.2
 ·unfold fS
  cases hd:s.dst with
  |true=>have:=b3 hd;rw[ap rfl,ap this.1,L.num _ _ (.inr (.inr (.inr rfl))) hx.dst];exact bL this.1
  |false=>have:=b6 hd;rw[ae oG,ae (by omega)]
 ·unfold fS;cases hd:s.ref with
  |true=>rw[ap rfl];have:=kr.1 hd;exact(DQ L hp hx hc).2 ⟨fun _=>a1,fun _=>.inr a1,this.1,this.2.1⟩
  |false=>rw[ae oG];refine Cm fun hk=>?_;rw[kr.2 ⟨hk.1,hk.2,J⟩] at hd;cases hd
 unfold fS;cases hd:s.Ni with
 |true=>rw[ap rfl,ap (ka.1 hd),L.num _ _ (.inr (.inl rfl)) hx.Ni];exact bL b0
 |false=>rw[ae oG];refine ae fun g=>?_;rw[ka.2 g] at hd;cases hd)
 ·rw[c1,a8.2.1];exact a1
 ·rw[c5,a8.2.2.1];exact b0
 ·intro a ha
  obtain⟨a',I,rfl⟩:=dr.1 ha;exact(yI C (hx.args a' I)).2 (Y a' I)
 ·intro a ha
  obtain⟨a',I,rfl⟩:=dr.1 ha;exact(yG C (hx.Nh a' I)).2 (a6 a' I)
 intro hk g hg;have b4:x.kind=7:=hk;have c6:¬x.kind=3:=by omega
 rw[ae c6,ap b4] at o;rw[c1,a8.2.1] at hg;have c7:ref=true:=by rw[b4] at j;cases j;rfl
 have hm:=hR c7;unfold cW at hm;rw[ae (by omega),ap b4] at hm;obtain⟨g',c8,c9⟩:=C.parG x.ref.toNat (by omega);rw[c8] at hg;cases hg;simp only[jC,ce];have:=o.2;omega
end
end
end Go.Proofs.YtccbbkopmlnkpaaGreatDoor
