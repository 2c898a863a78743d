/- Part 11 of the proof of CallsTo (its last part says what is proved). No condition. -/
import Derived.StillTailTactics
import Derived.RangeFuncNested
import Derived.RangeFuncBound
import Derived.Shelf.RegionOpen
import Derived.OwnWalkIn
import Derived.LoopNIn
import Derived.LoopIn
import Derived.Test.YtceloincoomjeaaGreatDoorK9
namespace Go.Proofs.YtceloincoomjeaaGreatDoor
set_option maxRecDepth 100000
set_option maxHeartbeats 8000000
open Go.RowKit Go.Proofs.Tryz
section
open Go
section
variable {P:Program} {ops:Array Oper} {md:Region.Mode} {S:World→Prop} {T:List Tmp} {F:Tmp→Value→World→Prop} {L:Nat→Option (Value→Prop)} {lp n:Nat}
def sZ (ops:Array Oper):Bool:=ops.all fun o=>match o.op with|.defer _=>false|_=>true
theorem ta (h:sZ ops=true):∀(j:Nat) (o:Oper),ops[j]? =some o→∀c,o.op≠.defer c:=by intro j o C c e;obtain⟨l,rfl⟩:=mV.1 C;have:=(Array.all_eq_true.1 h) j l;simp only[e] at this;cases this
theorem gh {Q:Act→Prop}{Q':Exit→Act→World→Prop}(hm:lk md ops T)(I:∀(j:Nat) (o:Oper),ops[j]? =some o→∀c,o.op≠.defer c)
 (hQ:∀listed a w,listed.size=ops.size→Region.ready md ops listed=[]→S w→eU ops T F listed a w→Q a→Q' .normal a w):∀(l:Nat) (listed:Array Bool) (a:Act) (w:World),listed.size=ops.size→S w→eU ops T F listed a w→
 oZ P md ops S T F L Q l listed a→wpAnyIn (Fence.wide.inRound lp) n P md ops Q' l listed a w
 |0,listed,a,w,hz,hw,C,h=>⟨(h ⟨w,hw,C⟩).1,hQ _ _ _ hz (h ⟨w,hw,C⟩).1 hw C (h ⟨w,hw,C⟩).2⟩
 |l+1,listed,a,w,hz,hw,C,h=>by(
 refine⟨fun h0=>hQ _ _ _ hz h0 hw C ((h ⟨w,hw,C⟩).1 h0),fun i hi=>?_⟩;have J:(listed.setIfInBounds i true).size=ops.size:=by rw[Array.size_setIfInBounds];exact hz
 obtain⟨_,o,Y,_⟩:=mem_ready.1 hi;obtain⟨V,hy,hn⟩:=(h ⟨w,hw,C⟩).2 i hi o Y;have hp:=C.pre hm hi Y;have Z:Oper.semAt (some lp) a.eval o=execOp a.eval o:=Oper.semAt_some lp a.eval o (I i o Y);unfold wpOpIn;simp only[Y];rcases hy with ⟨h1,_,v,rfl,h3⟩|⟨h1,_,h3⟩|⟨h1,rfl,h3⟩;·rw[ap h1];refine⟨fun _ _=>trivial,?_⟩;obtain⟨R,hd⟩:=h3 w hw hp;show o.uponIn _ n P a _ _ ((Oper.semAt (some lp) a.eval o).run P w);rw[Z,R];exact gh hm I hQ l _ _ w J hw (C.next Y ⟨hw,fun _ _ _ h=>h,hd⟩) (hn v rfl)
 ·(
 rw[ap h1];refine⟨fun _ _=>trivial,?_⟩;have R:=h3 w hw hp;show o.uponIn _ n P a _ _ ((Oper.semAt (some lp) a.eval o).run P w);rw[Z];generalize (execOp a.eval o).run P w=r at R;cases r with
 |ok nx w'=>
  cases nx<;>simp only[kl] at R<;>simp only[Oper.uponIn]
  case value u=>exact gh hm I hQ l _ _ w' J R.2.1 (C.next Y R.2) (hn u R.1)
  case enter f args=>(refine⟨(fun h=>by cases h),CallsIn.inRound lp (CallsIn.mono (callsIn_wide.2 R) ?_)⟩;rintro e a1 ⟨u,rfl,hv,hg⟩;exact gh hm I hQ l _ _ a1 J hg.1 (C.next Y hg) (hn u hv))
 |halt x w'=>simp only[kl] at R)
 rw[ae (by rw[h1];exact oG)];exact⟨fun _ _=>trivial,gh hm I hQ l _ _ w J hw (C.next Y ⟨hw,fun _ _ _ h=>h,fun d hd ht=>absurd ht (h3 d hd)⟩) (hn undef rfl)⟩)
theorem fJ {id:Nat}{Q:Exit→Act→World→Prop}{a:Act}{w:World}{l:List Oper}(S:World→Prop)(T:List Tmp)(F:Tmp→Value→World→Prop)(L:Nat→Option (Value→Prop))(hm:P.follows .mixedOrders=true)(J:Region.lexB .any l.toArray=true)(hT:ns .any l.toArray T=true)(hA:BH .any l.toArray=true)(hD:sZ l.toArray=true)
 (hS:S w.drew) (h:nG P l.toArray S T F L (fun I=>∀j,S j→(∀t∈T,∀v,I.tmps[t]? =some v→F t v j)→Q .normal I j) l 0 a):(Code.region id l.toArray true).wpIn (Fence.wide.inRound lp) n P Q a w:=by
 simp only[Region.lexB,gE] at J;have C:=sU hT;refine wpIn_region_any hm (gh (S:=S) (T:=T) (F:=F) (L:=L) (Q:=fun I=>∀j,S j→(∀t∈T,∀v,I.tmps[t]? =some v→F t v j)→Q .normal I j) C (ta hD) (fun listed I j hz hr R hf h=>h j R fun t Z v hv=>?_) _ _ _ _ (by simp) hS (fun k o d Y=>by exfalso;simp only[Array.getD_eq_getD_getElem?,Array.getElem?_replicate] at Y;split at Y<;>simp at Y) ?_)
 ·obtain⟨k,x,hx,hd⟩:=C.2.2 t Z
  exact hf k x t (vO hz hr (BI hA) _ k (cf _) (mV.1 hx).1) hx hd Z v hv
 have:=pd (P:=P) (S:=S) (F:=F) (L:=L) C J.1 l 0 (Array.replicate l.toArray.size false) a (by simp) (by simpa using J.2) h;simpa using this
theorem JA {o:Oper}{a:Act}{w:World}{K I:Act→World→Prop}{Q:Exit→Act→World→Prop}(C:∀c,o.op≠.defer c)(j:∀a w,K a w→I a w)(h:o.wp P a w K Q):o.wpIn (Fence.wide.inRound lp) n P a w I Q:=by
 refine⟨fun _ _=>trivial,?_⟩;show o.uponIn _ n P a _ _ ((Oper.semAt (some lp) a.eval o).run P w);rw[Oper.semAt_some lp a.eval o C];unfold Oper.wp at h;generalize (execOp a.eval o).run P w=r at h;cases r with
 |ok J R=>
  cases J<;>simp only[Oper.upon] at h<;>simp only[Oper.uponIn]
  case value u=>exact j _ _ h
  case skip=>exact j _ _ h
  case defer d=>exact j _ _ h
  case enter f args=>(
 refine⟨(fun h=>by cases h),CallsIn.inRound lp (CallsIn.mono (callsIn_wide.2 h) ?_)⟩;intro e l he;cases e with
 |returned v=>exact j _ _ he
 |panicked Y=>exact he
 |outgrown=>exact he)
  case row rw args=>(refine⟨(fun h=>by cases h),fun c cs _=>?_⟩;obtain⟨v,l,r,s⟩:=h c cs;exact⟨v,l,j _ _ r,stepsIn_wide.2 s⟩)
 |halt x R=>cases x<;>simp only[Oper.upon] at h<;>first|exact h|exact h.elim
theorem wu {Q:Exit→Act→World→Prop}(C:∀(j:Nat) (o:Oper),ops[j]? =some o→∀c,o.op≠.defer c)(I:¬LetsOut Q):∀(l:Nat) (listed:Array Bool) (a:Act) (w:World),
 wpAny P md ops Q l listed a w→wpAnyIn (Fence.wide.inRound lp) n P md ops Q l listed a w
 |0,_,_,_,h=>h
 |l+1,listed,a,w,h=>by(
 refine⟨h.1,fun i hi=>?_⟩;have h:=h.2 i hi;unfold wpOp at h;unfold wpOpIn;cases J:ops[i]? with
 |none=>rw[J] at h;exact wu C I l _ _ _ h
 |some o=>
  simp only[J] at h⊢;by_cases hw:Region.wanted o (yielded ops a.tmps)=true
  ·rw[ap hw] at h⊢;rcases h with h|h;·exact JA (C i o J) (fun a w h=>wu C I l _ _ _ h) h
   exact absurd h.2 I
  rw[ae hw] at h⊢;exact⟨fun _ _=>trivial,wu C I l _ _ _ h⟩)
theorem mv {id:Nat}{Q:Exit→Act→World→Prop}{a:Act}{w:World}{l:List Oper}(m:Nat)(hm:P.follows .mixedOrders=true)(hB:Region.lexTailB .any l.toArray m=true)(hD:sZ l.toArray=true)(Y:¬LetsOut Q)
 (h:wpStill P l.toArray {w with drawn:=w.drawn+1} (fun Z=>wpList P l.toArray Q (l.drop m) Z {w with drawn:=w.drawn+1}) (l.take m) a):(Code.region id l.toArray true).wpIn (Fence.wide.inRound lp) n P Q a w:=by
 simp only[Region.lexTailB,gE,iH] at hB;obtain⟨⟨⟨⟨C,hn⟩,hs⟩,hc⟩,I⟩:=hB;have a6:m<l.length:=by simpa using hn
 have o:(l.take m).length=m:=by simp;omega
 have J:(l.drop m).length=l.toArray.size-m:=by simp
 have R:HeadInv .any l.toArray m (Array.replicate l.toArray.size false):=
  ⟨by simp,fun j oj _ hl=>(by rw[getD_replicate_false] at hl;cases hl),fun t _ ht=>getD_in (by simpa using ht) (getD_replicate_false _ _)⟩
 have H:=wpAnyL_lex (md:=.any) (g:=l.toArray.size-m) C hs hc hn (l.take m) 0 _ a (fun j hj=>by
  have a1:j<m:=by rw[o] at hj;exact hj
  simp[a1]) (by simpa using o) R (by rw[o];exact I) h
 refine wpIn_region_any hm ?_;have:=wpAny_of_head (Q':=Q) (g:=l.toArray.size-m) (fun listed Z hL=>by have:=wpAny_of_seq (md:=.any) (Q':=Q) (l.drop m) m listed Z {w with drawn:=w.drawn+1} (fun j=>by simp[List.getElem?_drop]) (by rw[J];exact hL.1) hL.2;rwa [J] at this) _ _ _ H;rw[o,show m+(l.toArray.size-m)=l.toArray.size by omega] at this;exact wu (ta hD) Y _ _ _ _ this
end
end
section
open Go.RowKit Go.Shelf
attribute [local go_sem] lh qb xr ju nA nE nB nC ms rq nD wL pD
attribute [local go_sem] Oper.semAt_some
abbrev zD (m:BitVec 64):= {k:Nat//k<64∧m.getLsbD k=true}
def eq (A B:World):Prop:=gz A→gz B
theorem gz.below {w W:World}(h:gz w)(l:Below w.heap.size w W):gz W:=by
 refine⟨fun i hi=>?_,fun i hi=>?_⟩
 ·have j:=h.1 i hi
  exact(l.cell (p:=⟨0,i,none⟩) (jy w _ j)).trans j
 have j:=h.2 i hi;exact(l.cell (p:=⟨1,i,none⟩) (jy w _ j)).trans j
theorem Gb {W:World}{l:Nat}{o J:Obj}(R:W.heap[l]? =some o)(Y:o.isCells=false):eq W (W.putObj l J):=by
 intro h;have j:∀b i v,W.cell? ⟨b,i,none⟩=some v→b≠l:=by rintro b i v I rfl;unfold World.cell? at I;simp only[R] at I;cases o<;>first|(simp[Obj.isCells] at Y;done)|(simp at I)
 refine⟨fun i hi=>?_,fun i hi=>?_⟩
 ·have C:=h.1 i hi
  rw[World.cell?_of_block (World.putObj_heap_other (fun e=>j _ _ _ C e))];exact C
 have C:=h.2 i hi;rw[World.cell?_of_block (World.putObj_heap_other (fun e=>j _ _ _ C e))];exact C
theorem wk (m:BitVec 64)(w:World):Calls prog 167 #[U m] w fun e j=>e=.returned (.func (.func 189) #[] #[.pointer (some ⟨w.heap.size,0,none⟩)])∧j=w.alloc (.cells #[U m] 180):=by have l:∀(fn:Fn) (first cap:Array Value) (w:World),(Instr.makeFunc fn first cap).run prog w=.ok (.func fn first cap) w:=fun _ _ _ _=>rfl;go_enter func167,ntmps167;go_wp2;go_ret;exact⟨rfl,rfl⟩
theorem zM (x:BitVec 64)(h:x≠0#64):(x&&&(x-1#64)).toNat<x.toNat:=by
 have j:x.toNat≠0:=fun e=>h (BitVec.eq_of_toNat_eq (by simpa using e));have l:(x&&&(x-1#64)).toNat≤(x-1#64).toNat:=by rw[BitVec.toNat_and];exact Nat.and_le_right
 have o:(x-1#64).toNat=x.toNat-1:=by rw[BitVec.toNat_sub];have:=x.isLt;simp;omega
 omega
theorem EY (m:BitVec 64)(k:Nat):(dS m k).length≤k:=by unfold dS;exact fR (List.length_filter_le _ _) (by simp)
theorem EZ {m:BitVec 64}{t:Nat}(h:t<64):dS m (t+1)<+:dS m 64:=by
 have e:List.range 64=List.range (t+1)++(List.range (64-(t+1))).map (t+1+·):=by rw[←List.range_add];congr 1;omega
 unfold dS;rw[e,mE];exact List.prefix_append _ _
theorem qm (n:Nat)(hn:1≤n)(m:BitVec 64)(Bn:Nat)(w:World)(hl:gz w)(hc:al w Bn 180 #[U m]):
 SeqStopsK Fence.wide n prog 189 #[.pointer (some ⟨Bn,0,none⟩)] (fun x:zD m=>#[Value.int .i64 (x.1:Nat)]) eq (fun xs=>xs.map Subtype.val=dS m 64) (fun pre=>pre.map Subtype.val<+:dS m 64) 64 w:=fun l J Jx W hW _ _ hY h0=>by
 have b2:W.cell? ⟨Bn,0,none⟩=some (U m):=(hW.cell (p:=⟨Bn,0,none⟩) hc.lt).trans (hc.cell 0);have a1:=hl.below hW;have HL:=J2 a1 hY;clear a1 hY hW hl hc;refine callsIn_of_wp func189 rfl trivial ?_ rfl;simp only[ntmps189,List.size_toArray,kI,List.length_nil,Nat.reduceAdd,Nat.reduceSub,Array.replicate_succ,Array.replicate_zero,List.push_toArray,List.append_toArray,mF,List.cons_append];gi_wp2
 gi_loopw [3] (fun r wr=>∃(k:Nat) (pre:List (zD m)),k≤64∧r=U (Dc m k)∧pre.map Subtype.val=dS m k∧J pre wr∧gz wr) (fun r _=>(intOf r).toNat)
 ·exact⟨0,[],by omega,by rw[Mo],rfl,h0,HL.1⟩
 obtain⟨k,pre,hk,rfl,j,hJ,Y⟩:=hrel;by_cases Z:Dc m k=0#64
 ·have b3:(Dc m k !=0#64)=false:=by simp[Z]
  have HP:=oH (show pre.map Subtype.val=dS m 64 by rw[j,Jj Z hk]);clear Z j;gi_wp2
  go_end0
  exact⟨⟨_,rfl⟩,.inl ⟨pre,HP.out,hJ⟩⟩
 obtain⟨t,ht⟩:=Lf Z;obtain⟨a6,b7,o,I,a7⟩:=FO ht;have a8:pre.length<64:=by have:=EY m k;rw[←j,ce] at this;omega
 obtain⟨fn,tmps,assign,body,hy,hR⟩:=HL.2 pre ⟨t,o,I⟩ wr hJ a8;dsimp only at hy;have b0:=LJ (Dc m k) t wr Y ht;have b3:(Dc m k !=0#64)=true:=by simpa using Z
 have R:=zM _ Z;have C:(pre++[(⟨t,o,I⟩:zD m)]).map Subtype.val=dS m (t+1):=by rw[a7,ic,j];rfl
 have HT:=J5 b0 a6 R C Y;clear b0 a6 R C Y Z ht a7 j;gi_wp2_with (refine⟨trivial,?_⟩;gi_at_call 190;refine(callsIn_wide.2 HT.1).mono ?_;rintro e w' ⟨rfl,rfl⟩);gi_wp2;refine hR.mono ?_;rintro e W3 (⟨rfl,b4,b5⟩|⟨rfl,b1⟩)
 ·have b6:=b5 HT.2.2.2.2;gi_wp2
  go_roundw
  case rel=>exact⟨t+1,pre++[⟨t,o,I⟩],by omega,by rw[HT.2.1],HT.2.2.2.1,b4,b6⟩
  case measure=>exact HT.2.2.1
 gi_wp2;refine bodyPost_ret (results_none rfl _ _ _) rfl ?_;exact⟨⟨_,rfl⟩,.inr ⟨pre++[(⟨t,o,I⟩:zD m)],by rw[HT.2.2.2.1];exact EZ o,b1⟩⟩
end
section
open Go.RowKit Go.Shelf
attribute [local go_sem] lh qb xr ju nA nE nB nC ms rq nD wL pD
attribute [local go_sem] Oper.semAt_some
def MI (D:Nat):Deferred:= {target:=.collected D,args:=#[]}
theorem mj {P:Program}{F:Fence}{n:Nat}{fn:Func}{tmps:Array Value}{R:Ending→World→Prop}:∀(Ds:List Nat) (w:World),Ds.Nodup→(∀D∈Ds,w.heap[D]? =some (.deferred (some [])))→
 (∀l,aa (fun b=>b∉Ds) w l→LeavesInM F n P fn tmps R [] .returning l)→LeavesInM F n P fn tmps R (Ds.map MI) .returning w
 | [],w,_,_,h=>h w kR
 |D::Ds,w,J,C,h=>by(
 have j:=List.nodup_cons.1 J;refine⟨by simp,.inl ⟨D,_,rfl,run_takeDeferred (C D (List.mem_cons_self ..)),mj Ds _ j.2 (fun E I=>?_) fun l Y=>h l ?_⟩⟩
 ·have o:E≠D:=fun e=>j.1 (e▸I)
  rw[World.putObj_heap_other o];exact C E (List.mem_cons_of_mem _ I)
 have Z:aa (fun b=>b∉D::Ds) w (w.putObj D (.deferred none)):=(aa.refl _ w).grown (grownBy_putObj' w D _) fun k e=>by cases e;exact .inl fun h=>h (List.mem_cons_self ..)
 exact Z.trans (Y.mono fun b hb h=>hb (List.mem_cons_of_mem _ h)))
theorem KeepsOthers.of_kept {W j:World}(h:aa All W j):KeepsOthers W j:=
 ⟨h.size,fun b _ l _=>(h.block b (mV.1 l).1 trivial).trans l⟩
theorem eq.of_kept {W j:World}(h:aa All W j):eq W j:=fun l=>l.keep h
theorem aa.put {S:Nat→Prop}{w W:World}(h:aa S w W){D:Nat}(j:¬S D∨w.heap.size≤D)(o:Obj):aa S w (W.putObj D o):=
 h.grown (grownBy_putObj' W D o) fun k e=>by cases e;exact j
theorem gL {β:Type}{B:Nat}{S:Nat→Prop}{wl:World}(C:wl.heap.size≤B):OwnFrom B (fun(_:β) W=>aa S wl W):=by intro s W I row h j l;exact h.grown j fun k o=>.inr (by have:=(l k o).1;omega)
theorem iz {β:Type}{B:Nat}{g:Nat}{t:TypeId}{cs:β→Array Value}:OwnFrom B (fun(s:β) W=>al W g t (cs s)):=by intro s W J row h l C;refine h.grown l fun e=>?_;obtain⟨_,o,j,I⟩:=C g e.symm;unfold al at h;rw[h] at j;cases j;cases I
theorem mi {A B C:World}(h:eq A B)(k:eq B C):eq A C:=fun j=>k (h j)
theorem mh (B:Nat):∀(W:World) (l:Nat) (o j:Obj),B≤l→W.heap[l]? =some o→o.isCells=false→o.isWalk=false→eq W (W.putObj l j):=fun _ _ _ _ _ C I _=>Gb C I
theorem lx {S:Nat→Prop}{w:World}{A:Option Addr}{n c:Nat}{l:List (BitVec 64)}(h:nZ S w (.slice A n c) l){i:Nat}(hi:i<l.length):∃b o,A=some ⟨b,o,none⟩∧S b∧w.cell? ⟨b,o+i,none⟩=some (U (aJ l i)):=by obtain⟨a,cap,j,_,_,_,h⟩:=h;injection j with C R Y;subst C;obtain⟨b,o,Z,e,I,J,rfl⟩:=h i _ (Hw hi);exact⟨b,o,e,I,J⟩
section
variable {P:Program} {w:World}
theorem pm (x:BitVec 64):(U x).cells= #[U x]:=rfl
theorem lU (t:TypeId)(x:BitVec 64):(Instr.box t (U x)).run P w=.ok (.pointer (some ⟨w.heap.size,0,none⟩)) (w.alloc (.cells #[U x] t)):=rfl
theorem jt (a:Addr)(x:BitVec 64)(m:Mode):(store a (U x) m).run P w=stored P w a (U x) m:=run_store P w a _ m rfl
end
theorem mU (x:BitVec 64)(cs:Array Value):(U x=.agg cs)=False:=eq_false (fun h=>by cases h)
attribute [local go_sem] pm lU jt mU List.getElem?_toArray List.getElem?_cons_zero
def Ip (up:List (BitVec 64))(set:BitVec 64)(pre:List (zD set)):Prop:=∀x∈pre,jB up set x.1=false
def KA (up:List (BitVec 64))(set:BitVec 64)(c:Code)(pre:List (zD set)):Prop:=c=.ret∧∃pre' x,pre=pre'++[x]∧(∀y∈pre',jB up set y.1=false)∧jB up set x.1=true
theorem Dm (S:Nat→Prop)(v:Value)(up:List (BitVec 64))(set:BitVec 64)(w:World)(hv:nZ S w v up)(hl:gz w)(b5:∀k,k<64→set.getLsbD k=true→k<up.length):
 Calls prog 128 #[v,U set] w fun e w'=>e=.returned (.int .i64 (gq up set))∧aa All w w':=by
 have b6:=hv;obtain⟨A,cap,rfl,h1,h2,_,_⟩:=hv;unfold maxLen at h2;refine(callsIn_wide (n:=8)).1 ?_;refine callsIn_of_wp_marks func128 rfl trivial ?_ rfl;simp only[ntmps128,List.size_toArray,kI,List.length_nil,Nat.reduceAdd,Nat.reduceSub,Array.replicate_succ,Array.replicate_zero,List.push_toArray,List.append_toArray,mF,List.cons_append];rw[wpIn_wide];go_wp2_with fail;refine(wk _ _).mono ?_;rintro e w' ⟨rfl,rfl⟩;go_wp2_with fail;obtain⟨wl,I⟩:=eQ ((((w.alloc (.cells #[.slice A up.length cap] 23)).alloc (.cells #[U set] 180)).alloc (.cells #[.int .i64 0] 3)).alloc (.cells #[U set] 180));have a8:al wl w.heap.size 23 #[.slice A up.length cap]:=by rw[I];exact(((al.new _ _ _).alloc _).alloc _).alloc _
 have b0:al wl (w.heap.size+1) 180 #[U set]:=by rw[I];exact((ac (by simp)).alloc _).alloc _
 have a1:al wl (w.heap.size+1+1) 3 #[.int .i64 0]:=by rw[I];exact(ac (by simp)).alloc _
 have b1:al wl (w.heap.size+1+1+1) 180 #[U set]:=by rw[I];exact ac (by simp)
 have Y:aa All w wl:=by rw[I];exact(((kR.alloc _).alloc _).alloc _).alloc _
 have c4:w.heap.size+4≤wl.heap.size:=by rw[I];simp
 rw[←I];clear I;have b7:=hl.keep Y
 refine wpIn_wide.1 (wpIn_rangeFunc_ownF (F:=Fence.wide) (n:=8) rfl (by omega) (gf:=189) (lb:=#[.pointer (some ⟨w.heap.size+1+1+1,0,none⟩)]) rfl trivial (enters_of func189 (by kernel_rfl) rfl)
  (qm 7 (by omega) set _ wl b7 b1) mi (mh _) (Below.refl _ _) (fun _=>rfl)
  (fun pre W=>Ip up set pre∧aa All wl W)
  (fun c pre W=>(KA up set c pre∧aa (fun b=>b≠w.heap.size+1+1) wl W)∧al W (w.heap.size+1+1) 3 #[.int .i64 ((pre.getLast?.map fun x=>x.1).getD 0:Nat)])
  (OwnFrom.and (ownFrom_pure _ _) (gL (cf _)))
  (fun c=>OwnFrom.and (OwnFrom.and (ownFrom_pure _ _) (gL (cf _))) iz)
  ⟨fun x hx=>by simp at hx,kR⟩
  (fun x=> {tmps:=#[.slice A up.length cap,U set,.pointer (some ⟨w.heap.size,0,none⟩),.pointer (some ⟨w.heap.size+1,0,none⟩),.pointer (some ⟨w.heap.size+1+1,0,none⟩),.int .i64 (x.1:Nat),U set,.func (.func 189) #[] #[.pointer (some ⟨w.heap.size+1+1+1,0,none⟩)],.int .i64 (x.1:Nat),undef,undef,undef,undef,undef,undef,undef,undef],defers:=[]}) ?assign ?body ?done ?stop)
 case assign=>intro l x W K hK;gi_wp2;exact hK
 case body=>(
 rintro l pre x W ⟨J,hk⟩ _;have c0:=b5 x.1 x.2.1 x.2.2;have hf:∀wn,aa All W wn→wn.cell? ⟨w.heap.size,0,none⟩=some (.slice A up.length cap)∧wn.cell? ⟨w.heap.size+1,0,none⟩=some (U set)∧∃b o,A=some ⟨b,o,none⟩∧wn.cell? ⟨b,o+x.1,none⟩=some (U (aJ up x.1)):=fun wn R=>by have a6:=hk.trans R;obtain⟨b,o,e,_,hc⟩:=lx (dU.keep (Y.trans a6).all b6) c0;exact⟨(a8.kept a6 trivial).cell 0,(b0.kept a6 trivial).cell 0,b,o,e,hc⟩
 obtain⟨_,_,ab,ao,rfl,_⟩:=hf W kR;have b4:∀wn,aa All W wn→wn.cell? ⟨w.heap.size,0,none⟩=some (.slice (some ⟨ab,ao,none⟩) up.length cap)∧wn.cell? ⟨w.heap.size+1,0,none⟩=some (U set)∧wn.cell? ⟨ab,ao+x.1,none⟩=some (U (aJ up x.1)):=fun wn R=>by obtain⟨g1,g2,b,o,e,hc⟩:=hf wn R;cases e;exact⟨g1,g2,hc⟩
 have C:=a1.kept hk trivial;have b8:jB up set x.1=(set&&& ~~~(aJ up x.1)==0#64):=by unfold jB;rw[x.2.2];rfl
 have HF:=J5 b4 hk J C b8;clear hf b4 hk J C b8 a8 b0 a1 b1 b7 b6 hl b5;gi_wp2;refine fJ (aa All W) [] (fun _ _ _=>True) (fun _=>none) (by kernel_rfl) (by kernel_rfl) (by kernel_rfl) (by kernel_rfl) (by kernel_rfl) kR.drew ?_;iterate 7 (refine bG (by rfl) (by rfl) (by intro d hd;cases hd;decide) (fun wn hk hp=>by(obtain⟨e1,e2,e3⟩:=HF.1 wn hk);go_simp;with_reducible rfl) ?_;simp only[PS])
 refine dQ fun wn R _=>?_;have b3:=HF.2.1.trans R;have b2:=HF.2.2.2.1.kept R trivial;have c1:=b2.cell 0;have c5:=b2.free 0;simp only[gc] at c1;have HN:=J3 R b3 b2;clear R b3 b2;cases Z:(set&&& ~~~(aJ up x.1)==0#64) with
 |true=>
  have HB:=oH Z;clear Z;gi_wp2;refine⟨(KeepsOthers.of_kept HN.1).trans (KeepsOthers.setCell _ _ _),⟨⟨rfl,pre,x,rfl,HF.2.2.1,by rw[HF.2.2.2.2];exact HB.out⟩,?_⟩,?_⟩;·exact HN.2.1.all.setCell (p:=⟨w.heap.size+1+1,0,none⟩) (.inl (by simp)) _
  have:=HN.2.2.set 0 (.int .i64 (x.1:Nat));simpa using this
 |false=>
  have HB:=oH Z;clear Z;gi_wp2;refine⟨KeepsOthers.of_kept HN.1,eq.of_kept HN.1,fun y hy=>?_,HN.2.1⟩;rcases eD.1 hy with hy|hy;·exact HF.2.2.1 y hy
  rw[cx.1 hy,HF.2.2.2.2];exact HB.out)
 case done=>(
 rintro D xs W hD hS ⟨J,hk⟩ hK;have C:=a1.kept hk trivial;have c2:=C.cell 0;have b4:=C.free 0;simp only[gc] at c2;have hv:gq up set= -1:=by(
 refine jW fun j hj=>?_;cases Z:set.getLsbD j with
 |false=>unfold jB;rw[Z];rfl
 |true=>
  have hm:j∈xs.map Subtype.val:=by rw[hS];exact ko.2 ⟨hj,Z⟩
  obtain⟨x,hx,rfl⟩:=dr.1 hm;exact J x hx)
 have HV:=J4 hv C hk hK;clear hv J hS hk C hK a8 b0 a1 b1;go_wp2;have b9:=(KeepsOthers.setCell W ⟨w.heap.size+1+1,0,none⟩ (.int .i64 (-1))).same D _ HV.2.2.2 rfl;refine⟨by simp,.inl ⟨_,_,rfl,run_takeDeferred b9,?_⟩⟩;have a7:=cell_kept ((HV.2.1.set 0 (.int .i64 (-1))).cell 0) (grownBy_putObj' _ D (.deferred none)) (fun r e=>by cases e;exact⟨_,b9,rfl⟩);refine⟨.int .i64 (-1),?_,by rw[HV.1],((Y.trans HV.2.2.1).setCell (p:=⟨w.heap.size+1+1,0,none⟩) (.inr (by simp;omega)) _).put (.inr (by omega)) _⟩;simp at a7;simp[results,Tryz.f128,go_sem,a7])
 rintro D c pre W hD hS ⟨⟨⟨rfl,c3,x,rfl,J,hx⟩,hk⟩,Z⟩ hK;rw[wpIn_wide];have hv:gq up set=(x.1:Nat):=by(
 rw[ic] at hS;obtain⟨h1,h2⟩:=xP hS;refine lI x.2.1 hx fun j hj=>?_;cases Z:set.getLsbD j with
 |false=>unfold jB;rw[Z];rfl
 |true=>obtain⟨y,hy,rfl⟩:=dr.1 (h2 j hj Z);exact J y hy)
 have HV:=J4 hv Z hk hK;clear hv J hS hk Z hK a8 b0 a1 b1;go_wp2;refine⟨by simp,.inl ⟨_,_,rfl,run_takeDeferred HV.2.2.2,?_⟩⟩;have a7:=cell_kept (HV.2.1.cell 0) (grownBy_putObj' _ D (.deferred none)) (fun r e=>by cases e;exact⟨_,HV.2.2.2,rfl⟩);refine⟨.int .i64 (x.1:Nat),?_,by rw[HV.1],?_⟩
 ·simp at a7
  simp[results,Tryz.f128,go_sem,a7]
 refine aa.put ⟨HV.2.2.1.os.trans Y.os,HV.2.2.1.output.trans Y.output,fR Y.size HV.2.2.1.size,fun b Z _=>?_⟩ (.inr (by omega)) _;rw[HV.2.2.1.block b (by omega) (by omega)];exact Y.block b Z trivial
end
section
open Go.RowKit Go.Shelf
attribute [local go_sem] lh qb xr ju nA nE nB nC ms rq nD wL pD
attribute [local go_sem] Oper.semAt_some
attribute [local go_sem] pm lU jt mU List.getElem?_toArray List.getElem?_cons_zero
theorem Km:(prog.info? 180).map (fun i=>(i.zero,i.size,i.bytes))=some (some (.int .u64 0),1,8):=by kernel_rfl
def kM (N:Nat)(f:Nat→BitVec 64):Array Value:=dM N fun i=>U (f i)
theorem Jv (n:Nat)(J:n≤1048576)(w:World):(Instr.makeSlice 23 (.int .i64 n) (.int .i64 n)).run prog w=.ok (.slice (some ⟨w.heap.size,0,none⟩) n n) (w.alloc (.cells (kM n fun _=>0#64) 180)):=by
 obtain⟨i,hi,o,C,I⟩:=info_parts Km;rw[run_make (P:=prog) w 23 180 i (.int .u64 0) underlying23 hi o .i64 .i64 n n (by omega) (by omega) (by rw[I];omega) (by omega)];have e:madeCells (Value.int .u64 0).cells ((n:Int).toNat*i.size)=kM n fun _=>0#64:=by(
 rw[C,dP,Nat.mul_one];apply Array.ext_getElem?;intro j;by_cases l:j<n;·rw[kM,cq l];simp[madeCells,l,Value.cells,Nat.mod_one,U]
 rw[jK (by rw[size_madeCells];omega),jK (by rw[kM,ew];omega)])
 rw[e,dP]
theorem Co {N:Nat}{f:Nat→BitVec 64}{i:Nat}(h:i<N):(kM N f)[i]? =some (U (f i)):=cq h
def Ee (f:Nat→BitVec 64)(i:Nat)(x:BitVec 64):Nat→BitVec 64:=fun k=>if k=i then x else f k
theorem Hv {N:Nat}{f:Nat→BitVec 64}{i:Nat}{x:BitVec 64}:(kM N f).setIfInBounds i (U x)=kM N (Ee f i x):=by unfold kM;rw[jo];congr 1;funext k;unfold qd Ee;split<;>rfl
theorem oY {N:Nat}{f g:Nat→BitVec 64}(h:∀i,i<N→f i=g i):kM N f=kM N g:=by unfold kM dM;congr 1;exact List.map_congr_left fun i hi=>by rw[h i (fg.1 hi)]
structure Md (up:List (BitVec 64))(g:Nat)(wl:World)(k:Nat)(Ds:List Nat)(wr:World):Prop where
 nodup:Ds.Nodup
 marks:∀D∈Ds,wr.heap[D]? =some (.deferred (some []))
 far:∀D∈Ds,wl.heap.size≤D
 kept:aa (fun b=>b≠g) wl wr
 down:al wr g 180 (kM up.length (ow up k))
def ol (up:List (BitVec 64))(k:Nat)(pre:List Nat)(j:Nat):BitVec 64:=if j∈pre then ow up k j|||1#64<<<k else ow up k j
theorem Gg {up:List (BitVec 64)}{k:Nat}{pre:List Nat}(h:pre=dS (aJ up k) 64)(j:Nat)(o:j<64):ol up k pre j=ow up (k+1) j:=by
 unfold ol ow;rw[zt];by_cases l:(aJ up k).getLsbD j=true;·rw[ap l,ap (by rw[h];exact ko.2 ⟨o,l⟩)]
 rw[ae l,ae (fun hm=>l (by rw[h] at hm;exact(ko.1 hm).2))]
theorem Do {up:List (BitVec 64)}{k:Nat}{pre:List Nat}{x:Nat}(l:x∉pre)(N:Nat):kM N (Ee (ol up k pre) x (ol up k pre x|||1#64<<<k))=kM N (ol up k (pre++[x])):=by
 refine oY fun j _=>?_;unfold Ee;by_cases e:j=x;·subst e;rw[ap rfl];unfold ol;rw[ae l,ap (by simp)]
 rw[ae e];unfold ol;by_cases hm:j∈pre;·rw[ap hm,ap (by simp[hm])]
 rw[ae hm,ae (by simp[hm,e])]
theorem Gw (x y:BitVec 64):x|||y|||y=x|||y:=by rw[BitVec.or_assoc,BitVec.or_self]
theorem AE {up:List (BitVec 64)}{k:Nat}{pre:List Nat}{x:Nat}(N:Nat):kM N (Ee (ol up k pre) x (ol up k pre x|||1#64<<<k))=kM N (ol up k (pre++[x])):=by
 by_cases l:x∈pre
 ·refine oY fun j _=>?_;unfold Ee;by_cases e:j=x;·subst e;rw[ap rfl];unfold ol;rw[ap l,ap (by simp),Gw]
  rw[ae e];unfold ol;by_cases hm:j∈pre;·rw[ap hm,ap (by simp[hm])]
  rw[ae hm,ae (by simp[hm,e])]
 exact Do l N
theorem nl {g:Nat}{W j:World}(l:aa (fun b=>b≠g) W j)(o:g≠0)(C:g≠1):eq W j:=fun h=>
 ⟨fun i hi=>l.cell (p:=⟨0,i,none⟩) (fun e=>o e.symm) (h.1 i hi),fun i hi=>l.cell (p:=⟨1,i,none⟩) (fun e=>C e.symm) (h.2 i hi)⟩
theorem Js {w:World}(h:gz w):0<w.heap.size∧1<w.heap.size:=
 ⟨jy w _ (h.1 0 (by decide)),jy w _ (h.2 0 (by decide))⟩
theorem Bu (S:Nat→Prop)(v:Value)(up:List (BitVec 64))(w:World)(hv:nZ S w v up)(hl:gz w)(i7:up.length≤64)(d7:∀i,i<up.length→∀k,k<64→(aJ up i).getLsbD k=true→k<up.length):
 Calls prog 129 #[v] w fun e w'=>∃u,e=.returned u∧aa All w w'∧nZ (fun b=>w.heap.size≤b) w' u (dE up):=by
 have d8:=hv;obtain⟨A,cap,rfl,h1,h2,_,_⟩:=hv;unfold maxLen at h2;have h7:=Jv up.length (by omega);refine(callsIn_wide (n:=8)).1 ?_;refine callsIn_of_wp_marks func129 rfl trivial ?_ rfl;simp only[ntmps129,List.size_toArray,kI,List.length_nil,Nat.reduceAdd,Nat.reduceSub,Array.replicate_succ,Array.replicate_zero,List.push_toArray,List.append_toArray,mF,List.cons_append];rw[wpIn_wide];go_wp2_with fail;obtain⟨wl,a6⟩:=eQ ((w.alloc (.cells (kM up.length fun _=>0#64) 180)).alloc (.cells #[.slice (some ⟨w.heap.size,0,none⟩) up.length up.length] 23));have d9:al wl w.heap.size 180 (kM up.length fun _=>0#64):=by rw[a6];exact(al.new _ _ _).alloc _
 have e0:al wl (w.heap.size+1) 23 #[.slice (some ⟨w.heap.size,0,none⟩) up.length up.length]:=by rw[a6];exact ac (by simp)
 have b3:aa All w wl:=by rw[a6];exact(kR.alloc _).alloc _
 have j0:wl.heap.size=w.heap.size+2:=by rw[a6];simp
 rw[←a6];clear a6 h7;have e1:=hl.keep b3;have b2:=Js hl;have I:=J8 d8 hl d7 d9 e0 b3 e1 b2;clear d8 hl d7 d9 e0 b3 e1 b2;refine wp_loop_ghost_k (fun gg a wr=>∃(k:Nat) (Ds:List Nat) (x4 x5 e2 e3 e4 e5 e6 e7 e8 e9 b4 b5 b6 b7 b8 b9 c0 c1 c2 c6:Value),a= {tmps:=#[.slice A up.length cap,undef,.slice none 0 0,.pointer (some ⟨w.heap.size+1,0,none⟩),x4,x5,.slice A up.length cap,.int .i64 up.length,.slice (some ⟨w.heap.size,0,none⟩) up.length up.length,.slice A up.length cap,.int .i64 up.length,.int .i64 k,e2,e3,e4,e5,e6,e7,e8,e9,b4,b5,b6,b7,b8,b9,c0,c1,c2,c6,undef],defers:=Ds.map MI}∧k≤up.length∧gg=up.length-k∧Md up w.heap.size wl k Ds wr) up.length ?start ?round
 case start=>exact⟨0,[],undef,undef,undef,undef,undef,undef,undef,undef,undef,undef,undef,undef,undef,undef,undef,undef,undef,undef,undef,undef,rfl,by omega,by omega,List.nodup_nil,(fun D h=>by simp at h),(fun D h=>by simp at h),kR,I.2.2.2.1⟩
 rintro gg a wr ⟨k,Ds,x4,x5,e2,e3,e4,e5,e6,e7,e8,e9,b4,b5,b6,b7,b8,b9,c0,c1,c2,c6,rfl,hk,rfl,hinv⟩ J K hJ hK;have C:=oH hinv;clear hinv;by_cases b1:k<up.length;·(
 obtain⟨b,o,rfl,_,hc⟩:=lx (dU.keep (S:=S) (I.2.2.2.2.2.1.all) I.1) b1;have h8:wr.cell? ⟨b,o+k,none⟩=some (U (aJ up k)):=by have h9:=jy wl _ hc;refine C.out.kept.cell (p:=⟨b,o+k,none⟩) ?_ hc;rintro rfl;have:=(I.2.2.2.1).cell (o+k);obtain⟨b',o',e,_,i0⟩:=lx I.1 b1;cases e;have:=jy w _ i0;simp only at this;omega
 have h9:b<wr.heap.size:=jy wr _ h8;go_wp2_with fail;refine(wk _ _).mono ?_;rintro e w' ⟨rfl,rfl⟩;go_wp2_with fail;have h0:=I.2.2.2.2.2.1.all.trans C.out.kept;have c7:gz wr:=nl C.out.kept (by have:=I.2.2.2.2.2.2.2;omega) (by have:=I.2.2.2.2.2.2.2;omega) I.2.2.2.2.2.2.1;obtain⟨w1,a7⟩:=eQ ((wr.alloc (.cells #[.int .i64 k] 3)).alloc (.cells #[U (aJ up k)] 180));have c8:al w1 wr.heap.size 3 #[.int .i64 k]:=by rw[a7];exact(al.new _ _ _).alloc _
 have c9:al w1 (wr.heap.size+1) 180 #[U (aJ up k)]:=by rw[a7];exact ac (by simp)
 have R:aa All wr w1:=by rw[a7];exact(kR.alloc _).alloc _
 have i6:w1.heap.size=wr.heap.size+2:=by rw[a7];simp
 rw[←a7];clear a7;have a8:=c7.keep R;have j1:=C.out.kept.size;have h3:∀D∈Ds,D<wr.heap.size:=fun D hD=>(mV.1 (C.out.marks D hD)).1
 refine wpIn_wide.1 (wpIn_rangeFunc_ownF (F:=Fence.wide) (n:=8) rfl (by omega) (gf:=189) (lb:=#[.pointer (some ⟨wr.heap.size+1,0,none⟩)]) rfl trivial (enters_of func189 (by kernel_rfl) rfl)
  (qm 7 (by omega) (aJ up k) _ w1 a8 c9) mi (mh _) (Below.refl _ _) (fun _=>rfl)
  (fun pre W=>aa (fun b=>b≠w.heap.size) w1 W∧al W w.heap.size 180 (kM up.length (ol up k (pre.map Subtype.val))))
  (fun _ _ _=>False)
  (OwnFrom.and (gL (cf _)) iz)
  (fun _=>fun _ _ _ _ h _ _=>h)
  ⟨kR,C.out.down.kept R trivial⟩
  (fun x=> {tmps:=#[.slice (some ⟨b,o,none⟩) up.length cap,undef,.slice none 0 0,.pointer (some ⟨w.heap.size+1,0,none⟩),.pointer (some ⟨wr.heap.size,0,none⟩),.int .i64 (x.1:Nat),.slice (some ⟨b,o,none⟩) up.length cap,.int .i64 up.length,.slice (some ⟨w.heap.size,0,none⟩) up.length up.length,.slice (some ⟨b,o,none⟩) up.length cap,.int .i64 up.length,.int .i64 k,.bool true,.int .i64 k,.slice (some ⟨b,o,none⟩) up.length cap,.int .i64 k,.pointer (some ⟨b,o+k,none⟩),U (aJ up k),.func (.func 189) #[] #[.pointer (some ⟨wr.heap.size+1,0,none⟩)],.int .i64 (x.1:Nat),b4,b5,b6,b7,b8,b9,c0,c1,c2,c6,undef],defers:=[]}) ?assign ?body ?done ?stop)
 case assign=>intro l x W K hK;gi_wp2;exact hK
 case stop=>rintro D c pre W _ _ h _;exact h.elim
 case body=>(
 rintro l pre x W ⟨Y,a1⟩ _;have i1:=I.2.2.1 k b1 x.1 x.2.1 x.2.2;have j2:w.heap.size+1<wl.heap.size:=by omega
 have c3:W.cell? ⟨w.heap.size+1,0,none⟩=some (.slice (some ⟨w.heap.size,0,none⟩) up.length up.length):=
  ((((I.2.2.2.2.1).kept C.out.kept (by simp)).kept R trivial).kept Y (by simp)).cell 0
 have c4:W.cell? ⟨wr.heap.size,0,none⟩=some (.int .i64 k):=(c8.kept Y (by omega)).cell 0;have c5:=a1.cell x.1;have f5:=a1.free x.1;rw[Co i1] at c5;have b0:=fun W=>Dq (ol up k (pre.map Subtype.val) x.1) k (by omega) W;have HB:=J3 Y a1 b0;clear Y a1 b0 c7 h0 a8 c8 c9;generalize h4:ol up k (pre.map Subtype.val) x.1=mm at*;have HM:=oH h4;clear h4;gi_wp2;refine mv 9 (by kernel_rfl) (by kernel_rfl) (by kernel_rfl) ?i2 ?_
 case i2=>rintro⟨a,w,h⟩;exact h
 simp only[List.take_succ_cons,List.take_zero,List.drop_succ_cons,List.drop_zero];iterate 7 still_step
 still_call ((HB.2.2 _).mono fun _ _ h=>⟨h.1,h.2.symm⟩)
 still_step
 refine wpStill_nil ?_;go_wp2;have h5:aa (fun b=>b≠w.heap.size) W (W.setCell ⟨w.heap.size,x.1,none⟩ (U (mm|||1#64<<<k))).drew:=((aa.refl _ W).setCell (p:=⟨w.heap.size,x.1,none⟩) (.inl (by simp)) _).drew;refine⟨(KeepsOthers.setCell _ _ _).trans (KeepsOthers.drew _),nl h5 (by have:=I.2.2.2.2.2.2.2;omega) (by have:=I.2.2.2.2.2.2.2;omega),HB.1.trans h5,?_⟩;have h1:=(HB.2.1.set x.1 (U (mm|||1#64<<<k))).drew;rw[Hv,←HM.out,AE] at h1;rw[←HM.out,ic];exact h1)
 rintro D xs W hD hS ⟨Y,a1⟩ h6;have hinv:Md up w.heap.size wl (k+1) (D::Ds) W:=by(
 have i4:∀E∈Ds,E≠w.heap.size:=fun E hE=>by have:=C.out.far E hE;omega
 refine⟨List.nodup_cons.2 ⟨fun h=>by have:=h3 D h;omega,C.out.nodup⟩,fun E hE=>?_,fun E hE=>?_,?_,?_⟩
 ·rcases fX.1 hE with rfl|hE;·exact h6
  have h1:=h3 E hE;rw[Y.block E (by omega) (i4 E hE),R.block E h1 trivial];exact C.out.marks E hE
 ·rcases fX.1 hE with rfl|hE
  ·omega
  exact C.out.far E hE
 ·exact(C.out.kept.trans R.all).trans Y
 have e:kM up.length (ol up k (xs.map Subtype.val))=kM up.length (ow up (k+1)):=oY fun j hj=>Gg hS j (by omega);rw[←e];exact a1)
 have HV:=oH hinv;clear hinv hS Y a1 h6 c7 h0 a8 c8 c9;go_wp2;exact Handed.intro (up.length-(k+1)) (by omega) (hJ _ _ _ ⟨k+1,D::Ds,_,_,_,_,_,_,_,_,_,_,_,_,_,_,_,_,_,_,_,_,rfl,by omega,rfl,HV.out⟩))
 obtain rfl:k=up.length:=by omega
 have c3:wr.cell? ⟨w.heap.size+1,0,none⟩=some (.slice (some ⟨w.heap.size,0,none⟩) up.length up.length):=((I.2.2.2.2.1).kept C.out.kept (by simp)).cell 0;clear b1 hk;go_wp2;refine mj Ds _ C.out.nodup C.out.marks fun w' Z=>⟨_,results_tmp rfl _ _ _,_,rfl,?_,?_⟩;·have h1:aa All w wr:=⟨C.out.kept.os.trans I.2.2.2.2.2.1.os,C.out.kept.output.trans I.2.2.2.2.2.1.output,fR I.2.2.2.2.2.1.size C.out.kept.size,fun b hb _=>by rw[C.out.kept.block b (by omega) (by omega)];exact I.2.2.2.2.2.1.block b hb trivial⟩;exact⟨Z.os.trans h1.os,Z.output.trans h1.output,fR h1.size Z.size,fun b hb _=>by rw[Z.block b (Nat.lt_of_lt_of_le hb h1.size) (fun hm=>by have:=C.out.far b hm;omega)];exact h1.block b hb trivial⟩
 have hd:al w' w.heap.size 180 (kM up.length (ow up up.length)):=C.out.down.kept Z (fun hm=>by have:=C.out.far _ hm;omega);have i5:=kF up;have:=Sl.of_blk (bw:=8) (E:=Cz) (S:=fun b=>w.heap.size≤b) (l:=dE up) (cap:=up.length) hd (cf _) (by omega) (by unfold maxLen;omega) (by omega) (fun i x hx=>⟨_,Co (by have:=(lS.1 hx).1;omega),by
  have hi:i<up.length:=by have:=(lS.1 hx).1;omega
  have:=JS hx;rw[vW hi] at this;show U _=U _;rw[this]⟩)
 rwa [i5] at this
end
end Go.Proofs.YtceloincoomjeaaGreatDoor
