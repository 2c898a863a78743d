/- Part 8 of the proof (its last part says what is proved). No condition. -/
import Derived.StillTailTactics
import Derived.RangeFuncNested
import Derived.RangeFuncBound
import Derived.Shelf.RegionOpen
import Derived.OwnWalkIn
import Derived.LoopNIn
import Derived.LoopIn
import Derived.Test.YtccbbkopmlnkpaaGreatDoorK6
namespace Go.Proofs.YtccbbkopmlnkpaaGreatDoor
set_option maxRecDepth 100000
set_option maxHeartbeats 8000000
open Go.RowKit Go.Proofs.Tryz
section
open Go
section
variable {P:Program} {ops:Array Oper} {md:Region.Mode} {S:World→Prop} {T:List Tmp} {F:Tmp→Value→World→Prop} {L:Nat→Option (Value→Prop)} {lp n:Nat}
def sW (ops:Array Oper):Bool:=ops.all fun o=>match o.op with|.defer _=>false|_=>true
theorem sX (h:sW ops=true):∀(j:Nat) (o:Oper),ops[j]? =some o→∀c,o.op≠.defer c:=by intro j o I c e;obtain⟨C,rfl⟩:=kT.1 I;have:=(Array.all_eq_true.1 h) j C;simp only[e] at this;cases this
theorem fa {Q:Act→Prop}{Q':Exit→Act→World→Prop}(hm:gS md ops T)(J:∀(j:Nat) (o:Oper),ops[j]? =some o→∀c,o.op≠.defer c)
 (hQ:∀listed a w,listed.size=ops.size→Region.ready md ops listed=[]→S w→cI ops T F listed a w→Q a→Q' .normal a w):∀(C:Nat) (listed:Array Bool) (a:Act) (w:World),listed.size=ops.size→S w→cI ops T F listed a w→
 oY P md ops S T F L Q C listed a→wpAnyIn (Fence.wide.inRound lp) n P md ops Q' C listed a w
 |0,listed,a,w,hz,hw,I,h=>⟨(h ⟨w,hw,I⟩).1,hQ _ _ _ hz (h ⟨w,hw,I⟩).1 hw I (h ⟨w,hw,I⟩).2⟩
 |C+1,listed,a,w,hz,hw,I,h=>by(
 refine⟨fun h0=>hQ _ _ _ hz h0 hw I ((h ⟨w,hw,I⟩).1 h0),fun i hi=>?_⟩;have R:(listed.setIfInBounds i true).size=ops.size:=by rw[Array.size_setIfInBounds];exact hz
 obtain⟨_,o,ho,_⟩:=mem_ready.1 hi;obtain⟨V,hy,hn⟩:=(h ⟨w,hw,I⟩).2 i hi o ho;have hp:=I.pre hm hi ho;have a1:Oper.semAt (some lp) a.eval o=execOp a.eval o:=Oper.semAt_some lp a.eval o (J i o ho);unfold wpOpIn;simp only[ho];rcases hy with ⟨h1,_,v,rfl,h3⟩|⟨h1,_,h3⟩|⟨h1,rfl,h3⟩;·rw[am h1];refine⟨fun _ _=>trivial,?_⟩;obtain⟨Y,hd⟩:=h3 w hw hp;show o.uponIn _ n P a _ _ ((Oper.semAt (some lp) a.eval o).run P w);rw[a1,Y];exact fa hm J hQ C _ _ w R hw (I.next ho ⟨hw,fun _ _ _ h=>h,hd⟩) (hn v rfl)
 ·(
 rw[am h1];refine⟨fun _ _=>trivial,?_⟩;have Y:=h3 w hw hp;show o.uponIn _ n P a _ _ ((Oper.semAt (some lp) a.eval o).run P w);rw[a1];generalize (execOp a.eval o).run P w=r at Y;cases r with
 |ok nx w'=>
  cases nx<;>simp only[mf] at Y<;>simp only[Oper.uponIn]
  case value u=>exact fa hm J hQ C _ _ w' R Y.2.1 (I.next ho Y.2) (hn u Y.1)
  case enter f args=>(refine⟨(fun h=>by cases h),CallsIn.inRound lp (CallsIn.mono (callsIn_wide.2 Y) ?_)⟩;rintro e a6 ⟨u,rfl,hv,hg⟩;exact fa hm J hQ C _ _ a6 R hg.1 (I.next ho hg) (hn u hv))
 |halt x w'=>simp only[mf] at Y)
 rw[ah (by rw[h1];exact lE)];exact⟨fun _ _=>trivial,fa hm J hQ C _ _ w R hw (I.next ho ⟨hw,fun _ _ _ h=>h,fun d hd ht=>absurd ht (h3 d hd)⟩) (hn undef rfl)⟩)
theorem eI {id:Nat}{Q:Exit→Act→World→Prop}{a:Act}{w:World}{l:List Oper}(S:World→Prop)(T:List Tmp)(F:Tmp→Value→World→Prop)(L:Nat→Option (Value→Prop))(hm:P.follows .mixedOrders=true)(J:Region.lexB .any l.toArray=true)(hT:lO .any l.toArray T=true)(hA:BC .any l.toArray=true)(hD:sW l.toArray=true)
 (hS:S w.drew) (h:nu P l.toArray S T F L (fun I=>∀j,S j→(∀t∈T,∀v,I.tmps[t]? =some v→F t v j)→Q .normal I j) l 0 a):(Code.region id l.toArray true).wpIn (Fence.wide.inRound lp) n P Q a w:=by
 simp only[Region.lexB,dX] at J;have C:=pP hT;refine wpIn_region_any hm (fa (S:=S) (T:=T) (F:=F) (L:=L) (Q:=fun I=>∀j,S j→(∀t∈T,∀v,I.tmps[t]? =some v→F t v j)→Q .normal I j) C (sX hD) (fun listed I j hz hr R hf h=>h j R fun t ht v hv=>?_) _ _ _ _ (by simp) hS (fun k o d Y=>by exfalso;simp only[Array.getD_eq_getD_getElem?,Array.getElem?_replicate] at Y;split at Y<;>simp at Y) ?_)
 ·obtain⟨k,x,hx,hd⟩:=C.2.2 t ht
  exact hf k x t (vH hz hr (BD hA) _ k (bj _) (kT.1 hx).1) hx hd ht v hv
 have:=oZ (P:=P) (S:=S) (F:=F) (L:=L) C J.1 l 0 (Array.replicate l.toArray.size false) a (by simp) (by simpa using J.2) h;simpa using this
theorem JB {o:Oper}{a:Act}{w:World}{K J:Act→World→Prop}{Q:Exit→Act→World→Prop}(I:∀c,o.op≠.defer c)(j:∀a w,K a w→J a w)(h:o.wp P a w K Q):o.wpIn (Fence.wide.inRound lp) n P a w J Q:=by
 refine⟨fun _ _=>trivial,?_⟩;show o.uponIn _ n P a _ _ ((Oper.semAt (some lp) a.eval o).run P w);rw[Oper.semAt_some lp a.eval o I];unfold Oper.wp at h;generalize (execOp a.eval o).run P w=r at h;cases r with
 |ok R Y=>
  cases R<;>simp only[Oper.upon] at h<;>simp only[Oper.uponIn]
  case value u=>exact j _ _ h
  case skip=>exact j _ _ h
  case defer d=>exact j _ _ h
  case enter f args=>(
 refine⟨(fun h=>by cases h),CallsIn.inRound lp (CallsIn.mono (callsIn_wide.2 h) ?_)⟩;intro e C he;cases e with
 |returned v=>exact j _ _ he
 |panicked ch=>exact he
 |outgrown=>exact he)
  case row rw args=>(refine⟨(fun h=>by cases h),fun c cs _=>?_⟩;obtain⟨v,C,r,s⟩:=h c cs;exact⟨v,C,j _ _ r,stepsIn_wide.2 s⟩)
 |halt x Y=>cases x<;>simp only[Oper.upon] at h<;>first|exact h|exact h.elim
theorem wk {Q:Exit→Act→World→Prop}(I:∀(j:Nat) (o:Oper),ops[j]? =some o→∀c,o.op≠.defer c)(J:¬LetsOut Q):∀(C:Nat) (listed:Array Bool) (a:Act) (w:World),
 wpAny P md ops Q C listed a w→wpAnyIn (Fence.wide.inRound lp) n P md ops Q C listed a w
 |0,_,_,_,h=>h
 |C+1,listed,a,w,h=>by(
 refine⟨h.1,fun i hi=>?_⟩;have h:=h.2 i hi;unfold wpOp at h;unfold wpOpIn;cases R:ops[i]? with
 |none=>rw[R] at h;exact wk I J C _ _ _ h
 |some o=>
  simp only[R] at h⊢;by_cases hw:Region.wanted o (yielded ops a.tmps)=true
  ·rw[am hw] at h⊢;rcases h with h|h;·exact JB (I i o R) (fun a w h=>wk I J C _ _ _ h) h
   exact absurd h.2 J
  rw[ah hw] at h⊢;exact⟨fun _ _=>trivial,wk I J C _ _ _ h⟩)
theorem ma {id:Nat}{Q:Exit→Act→World→Prop}{a:Act}{w:World}{l:List Oper}(m:Nat)(hm:P.follows .mixedOrders=true)(hB:Region.lexTailB .any l.toArray m=true)(hD:sW l.toArray=true)(Y:¬LetsOut Q)
 (h:wpStill P l.toArray {w with drawn:=w.drawn+1} (fun a'=>wpList P l.toArray Q (l.drop m) a' {w with drawn:=w.drawn+1}) (l.take m) a):(Code.region id l.toArray true).wpIn (Fence.wide.inRound lp) n P Q a w:=by
 simp only[Region.lexTailB,dX,eq] at hB;obtain⟨⟨⟨⟨C,hn⟩,hs⟩,hc⟩,I⟩:=hB;have a6:m<l.length:=by simpa using hn
 have o:(l.take m).length=m:=by simp;omega
 have J:(l.drop m).length=l.toArray.size-m:=by simp
 have R:HeadInv .any l.toArray m (Array.replicate l.toArray.size false):=
  ⟨by simp,fun j oj _ hl=>(by rw[getD_replicate_false] at hl;cases hl),fun t _ ht=>getD_in (by simpa using ht) (getD_replicate_false _ _)⟩
 have H:=wpAnyL_lex (md:=.any) (g:=l.toArray.size-m) C hs hc hn (l.take m) 0 _ a (fun j hj=>by
  have a1:j<m:=by rw[o] at hj;exact hj
  simp[a1]) (by simpa using o) R (by rw[o];exact I) h
 refine wpIn_region_any hm ?_;have:=wpAny_of_head (Q':=Q) (g:=l.toArray.size-m) (fun listed a' hL=>by have:=wpAny_of_seq (md:=.any) (Q':=Q) (l.drop m) m listed a' {w with drawn:=w.drawn+1} (fun j=>by simp[List.getElem?_drop]) (by rw[J];exact hL.1) hL.2;rwa [J] at this) _ _ _ H;rw[o,show m+(l.toArray.size-m)=l.toArray.size by omega] at this;exact wk (sX hD) Y _ _ _ _ this
end
end
section
open Go.RowKit Go.Shelf
attribute [local go_sem] ko pZ uy iD ni nq nj nk lY rq nl wD pz
attribute [local go_sem] Oper.semAt_some
abbrev zp (m:BitVec 64):= {k:Nat//k<64∧m.getLsbD k=true}
def dw (A B:World):Prop:=cP A→cP B
theorem cP.below {w W:World}(h:cP w)(o:Below w.heap.size w W):cP W:=by
 refine⟨fun i hi=>?_,fun i hi=>?_⟩
 ·have j:=h.1 i hi
  exact(o.cell (p:=⟨4,i,none⟩) (gx w _ j)).trans j
 have j:=h.2 i hi;exact(o.cell (p:=⟨3,i,none⟩) (gx w _ j)).trans j
theorem Gd {W:World}{l:Nat}{o J:Obj}(R:W.heap[l]? =some o)(Y:o.isCells=false):dw W (W.putObj l J):=by
 intro h;have j:∀b i v,W.cell? ⟨b,i,none⟩=some v→b≠l:=by rintro b i v I rfl;unfold World.cell? at I;simp only[R] at I;cases o<;>first|(simp[Obj.isCells] at Y;done)|(simp at I)
 refine⟨fun i hi=>?_,fun i hi=>?_⟩
 ·have C:=h.1 i hi
  rw[World.cell?_of_block (World.putObj_heap_other (fun e=>j _ _ _ C e))];exact C
 have C:=h.2 i hi;rw[World.cell?_of_block (World.putObj_heap_other (fun e=>j _ _ _ C e))];exact C
theorem wh (m:BitVec 64)(w:World):Calls prog 210 #[U m] w fun e j=>e=.returned (.func (.func 238) #[] #[.pointer (some ⟨w.heap.size,0,none⟩)])∧j=w.alloc (.cells #[U m] 52):=by have o:∀(fn:Fn) (first cap:Array Value) (w:World),(Instr.makeFunc fn first cap).run prog w=.ok (.func fn first cap) w:=fun _ _ _ _=>rfl;go_enter func210,ntmps210;go_wp2;go_ret;exact⟨rfl,rfl⟩
theorem zz (x:BitVec 64)(h:x≠0#64):(x&&&(x-1#64)).toNat<x.toNat:=by
 have j:x.toNat≠0:=fun e=>h (BitVec.eq_of_toNat_eq (by simpa using e));have o:(x&&&(x-1#64)).toNat≤(x-1#64).toNat:=by rw[BitVec.toNat_and];exact Nat.and_le_right
 have C:(x-1#64).toNat=x.toNat-1:=by rw[BitVec.toNat_sub];have:=x.isLt;simp;omega
 omega
theorem EZ (m:BitVec 64)(k:Nat):(df m k).length≤k:=by unfold df;exact dA (List.length_filter_le _ _) (by simp)
theorem Fa {m:BitVec 64}{t:Nat}(h:t<64):df m (t+1)<+:df m 64:=by
 have e:List.range 64=List.range (t+1)++(List.range (64-(t+1))).map (t+1+·):=by rw[←List.range_add];congr 1;omega
 unfold df;rw[e,qj];exact List.prefix_append _ _
theorem qk (n:Nat)(hn:1≤n)(m:BitVec 64)(Bn:Nat)(w:World)(hl:cP w)(hc:al w Bn 52 #[U m]):
 SeqStopsK Fence.wide n prog 238 #[.pointer (some ⟨Bn,0,none⟩)] (fun x:zp m=>#[Value.int .i64 (x.1:Nat)]) dw (fun xs=>xs.map Subtype.val=df m 64) (fun pre=>pre.map Subtype.val<+:df m 64) 64 w:=fun l J Jx W hW _ _ hY h0=>by
 have b2:W.cell? ⟨Bn,0,none⟩=some (U m):=(hW.cell (p:=⟨Bn,0,none⟩) hc.lt).trans (hc.cell 0);have a1:=hl.below hW;have HL:=J2 a1 hY;clear a1 hY hW hl hc;refine callsIn_of_wp func238 rfl trivial ?_ rfl;simp only[ntmps238,List.size_toArray,lD,List.length_nil,Nat.reduceAdd,Nat.reduceSub,Array.replicate_succ,Array.replicate_zero,List.push_toArray,List.append_toArray,si,List.cons_append];gi_wp2
 gi_loopw [3] (fun r wr=>∃(k:Nat) (pre:List (zp m)),k≤64∧r=U (CX m k)∧pre.map Subtype.val=df m k∧J pre wr∧cP wr) (fun r _=>(intOf r).toNat)
 ·exact⟨0,[],by omega,by rw[Md],rfl,h0,HL.1⟩
 obtain⟨k,pre,hk,rfl,j,hJ,Y⟩:=hrel;by_cases hz:CX m k=0#64
 ·have b3:(CX m k !=0#64)=false:=by simp[hz]
  have HP:=oH (show pre.map Subtype.val=df m 64 by rw[j,Ja hz hk]);clear hz j;gi_wp2
  go_end0
  exact⟨⟨_,rfl⟩,.inl ⟨pre,HP.out,hJ⟩⟩
 obtain⟨t,ht⟩:=KT hz;obtain⟨a6,b7,o,I,a7⟩:=FI ht;have a8:pre.length<64:=by have:=EZ m k;rw[←j,aZ] at this;omega
 obtain⟨fn,tmps,assign,body,hy,hR⟩:=HL.2 pre ⟨t,o,I⟩ wr hJ a8;dsimp only at hy;have b0:=Lt (CX m k) t wr Y ht;have b3:(CX m k !=0#64)=true:=by simpa using hz
 have R:=zz _ hz;have C:(pre++[(⟨t,o,I⟩:zp m)]).map Subtype.val=df m (t+1):=by rw[a7,gU,j];rfl
 have HT:=J5 b0 a6 R C Y;clear b0 a6 R C Y hz ht a7 j;gi_wp2_with (refine⟨trivial,?_⟩;gi_at_call 239;refine(callsIn_wide.2 HT.1).mono ?_;rintro e w' ⟨rfl,rfl⟩);gi_wp2;refine hR.mono ?_;rintro e W3 (⟨rfl,b4,b5⟩|⟨rfl,b1⟩)
 ·have b6:=b5 HT.2.2.2.2;gi_wp2
  go_roundw
  case rel=>exact⟨t+1,pre++[⟨t,o,I⟩],by omega,by rw[HT.2.1],HT.2.2.2.1,b4,b6⟩
  case measure=>exact HT.2.2.1
 gi_wp2;refine bodyPost_ret (results_none rfl _ _ _) rfl ?_;exact⟨⟨_,rfl⟩,.inr ⟨pre++[(⟨t,o,I⟩:zp m)],by rw[HT.2.2.2.1];exact Fa o,b1⟩⟩
end
section
open Go.RowKit Go.Shelf
attribute [local go_sem] ko pZ uy iD ni nq nj nk lY rq nl wD pz
attribute [local go_sem] Oper.semAt_some
def ME (D:Nat):Deferred:= {target:=.collected D,args:=#[]}
theorem lM {P:Program}{F:Fence}{n:Nat}{fn:Func}{tmps:Array Value}{R:Ending→World→Prop}:∀(Ds:List Nat) (w:World),Ds.Nodup→(∀D∈Ds,w.heap[D]? =some (.deferred (some [])))→
 (∀o,aa (fun b=>b∉Ds) w o→LeavesInM F n P fn tmps R [] .returning o)→LeavesInM F n P fn tmps R (Ds.map ME) .returning w
 | [],w,_,_,h=>h w kR
 |D::Ds,w,Y,I,h=>by(
 have j:=List.nodup_cons.1 Y;refine⟨by simp,.inl ⟨D,_,rfl,run_takeDeferred (I D (List.mem_cons_self ..)),lM Ds _ j.2 (fun E J=>?_) fun o hk=>h o ?_⟩⟩
 ·have C:E≠D:=fun e=>j.1 (e▸J)
  rw[World.putObj_heap_other C];exact I E (List.mem_cons_of_mem _ J)
 have k1:aa (fun b=>b∉D::Ds) w (w.putObj D (.deferred none)):=(aa.refl _ w).grown (grownBy_putObj' w D _) fun k e=>by cases e;exact .inl fun h=>h (List.mem_cons_self ..)
 exact k1.trans (hk.mono fun b hb h=>hb (List.mem_cons_of_mem _ h)))
theorem KeepsOthers.of_kept {W j:World}(h:aa All W j):KeepsOthers W j:=
 ⟨h.size,fun b _ o _=>(h.block b (kT.1 o).1 trivial).trans o⟩
theorem dw.of_kept {W j:World}(h:aa All W j):dw W j:=fun o=>o.keep h
theorem aa.put {S:Nat→Prop}{w W:World}(h:aa S w W){D:Nat}(j:¬S D∨w.heap.size≤D)(o:Obj):aa S w (W.putObj D o):=
 h.grown (grownBy_putObj' W D o) fun k e=>by cases e;exact j
theorem fN {β:Type}{B:Nat}{S:Nat→Prop}{wl:World}(I:wl.heap.size≤B):OwnFrom B (fun(_:β) W=>aa S wl W):=by intro s W J row h j o;exact h.grown j fun k C=>.inr (by have:=(o k C).1;omega)
theorem gF {β:Type}{B:Nat}{g:Nat}{t:TypeId}{cs:β→Array Value}:OwnFrom B (fun(s:β) W=>al W g t (cs s)):=by intro s W R row h C I;refine h.grown C fun e=>?_;obtain⟨_,o,j,J⟩:=I g e.symm;unfold al at h;rw[h] at j;cases j;cases J
theorem lL {A B C:World}(h:dw A B)(k:dw B C):dw A C:=fun j=>k (h j)
theorem lK (B:Nat):∀(W:World) (l:Nat) (o j:Obj),B≤l→W.heap[l]? =some o→o.isCells=false→o.isWalk=false→dw W (W.putObj l j):=fun _ _ _ _ _ C I _=>Gd C I
theorem oU {S:Nat→Prop}{w:World}{A:Option Addr}{n c:Nat}{l:List (BitVec 64)}(h:rt S w (.slice A n c) l){i:Nat}(hi:i<l.length):∃b o,A=some ⟨b,o,none⟩∧S b∧w.cell? ⟨b,o+i,none⟩=some (U (aN l i)):=by obtain⟨a,cap,j,_,_,_,h⟩:=h;injection j with C R Y;subst C;obtain⟨b,o,c',e,I,J,rfl⟩:=h i _ (Ho hi);exact⟨b,o,e,I,J⟩
section
variable {P:Program} {w:World}
theorem ny (x:BitVec 64):(U x).cells= #[U x]:=rfl
theorem jo (t:TypeId)(x:BitVec 64):(Instr.box t (U x)).run P w=.ok (.pointer (some ⟨w.heap.size,0,none⟩)) (w.alloc (.cells #[U x] t)):=rfl
theorem gj (a:Addr)(x:BitVec 64)(m:Mode):(store a (U x) m).run P w=stored P w a (U x) m:=run_store P w a _ m rfl
end
theorem kP (x:BitVec 64)(cs:Array Value):(U x=.agg cs)=False:=eq_false (fun h=>by cases h)
attribute [local go_sem] ny jo gj kP List.getElem?_toArray List.getElem?_cons_zero
def Im (up:List (BitVec 64))(set:BitVec 64)(pre:List (zp set)):Prop:=∀x∈pre,iN up set x.1=false
def Ks (up:List (BitVec 64))(set:BitVec 64)(c:Code)(pre:List (zp set)):Prop:=c=.ret∧∃pre' x,pre=pre'++[x]∧(∀y∈pre',iN up set y.1=false)∧iN up set x.1=true
theorem Dh (S:Nat→Prop)(v:Value)(up:List (BitVec 64))(set:BitVec 64)(w:World)(hv:rt S w v up)(hl:cP w)(b5:∀k,k<64→set.getLsbD k=true→k<up.length):
 Calls prog 151 #[v,U set] w fun e w'=>e=.returned (.int .i64 (fi up set))∧aa All w w':=by
 have b6:=hv;obtain⟨A,cap,rfl,h1,h2,_,_⟩:=hv;unfold maxLen at h2;refine(callsIn_wide (n:=8)).1 ?_;refine callsIn_of_wp_marks func151 rfl trivial ?_ rfl;simp only[ntmps151,List.size_toArray,lD,List.length_nil,Nat.reduceAdd,Nat.reduceSub,Array.replicate_succ,Array.replicate_zero,List.push_toArray,List.append_toArray,si,List.cons_append];rw[wpIn_wide];go_wp2_with fail;refine(wh _ _).mono ?_;rintro e w' ⟨rfl,rfl⟩;go_wp2_with fail;obtain⟨wl,I⟩:=eQ ((((w.alloc (.cells #[.slice A up.length cap] 23)).alloc (.cells #[U set] 52)).alloc (.cells #[.int .i64 0] 3)).alloc (.cells #[U set] 52));have a8:al wl w.heap.size 23 #[.slice A up.length cap]:=by rw[I];exact(((al.new _ _ _).alloc _).alloc _).alloc _
 have b0:al wl (w.heap.size+1) 52 #[U set]:=by rw[I];exact((ac (by simp)).alloc _).alloc _
 have a1:al wl (w.heap.size+1+1) 3 #[.int .i64 0]:=by rw[I];exact(ac (by simp)).alloc _
 have b1:al wl (w.heap.size+1+1+1) 52 #[U set]:=by rw[I];exact ac (by simp)
 have Y:aa All w wl:=by rw[I];exact(((kR.alloc _).alloc _).alloc _).alloc _
 have c4:w.heap.size+4≤wl.heap.size:=by rw[I];simp
 rw[←I];clear I;have b7:=hl.keep Y
 refine wpIn_wide.1 (wpIn_rangeFunc_ownF (F:=Fence.wide) (n:=8) rfl (by omega) (gf:=238) (lb:=#[.pointer (some ⟨w.heap.size+1+1+1,0,none⟩)]) rfl trivial (enters_of func238 (by kernel_rfl) rfl)
  (qk 7 (by omega) set _ wl b7 b1) lL (lK _) (Below.refl _ _) (fun _=>rfl)
  (fun pre W=>Im up set pre∧aa All wl W)
  (fun c pre W=>(Ks up set c pre∧aa (fun b=>b≠w.heap.size+1+1) wl W)∧al W (w.heap.size+1+1) 3 #[.int .i64 ((pre.getLast?.map fun x=>x.1).getD 0:Nat)])
  (OwnFrom.and (ownFrom_pure _ _) (fN (bj _)))
  (fun c=>OwnFrom.and (OwnFrom.and (ownFrom_pure _ _) (fN (bj _))) gF)
  ⟨fun x hx=>by simp at hx,kR⟩
  (fun x=> {tmps:=#[.slice A up.length cap,U set,.pointer (some ⟨w.heap.size,0,none⟩),.pointer (some ⟨w.heap.size+1,0,none⟩),.pointer (some ⟨w.heap.size+1+1,0,none⟩),.int .i64 (x.1:Nat),U set,.func (.func 238) #[] #[.pointer (some ⟨w.heap.size+1+1+1,0,none⟩)],.int .i64 (x.1:Nat),undef,undef,undef,undef,undef,undef,undef,undef],defers:=[]}) ?assign ?body ?done ?stop)
 case assign=>intro l x W K hK;gi_wp2;exact hK
 case body=>(
 rintro l pre x W ⟨J,hk⟩ _;have c0:=b5 x.1 x.2.1 x.2.2;have hf:∀wn,aa All W wn→wn.cell? ⟨w.heap.size,0,none⟩=some (.slice A up.length cap)∧wn.cell? ⟨w.heap.size+1,0,none⟩=some (U set)∧∃b o,A=some ⟨b,o,none⟩∧wn.cell? ⟨b,o+x.1,none⟩=some (U (aN up x.1)):=fun wn R=>by have a6:=hk.trans R;obtain⟨b,o,e,_,hc⟩:=oU (eX.keep (Y.trans a6).all b6) c0;exact⟨(a8.kept a6 trivial).cell 0,(b0.kept a6 trivial).cell 0,b,o,e,hc⟩
 obtain⟨_,_,ab,ao,rfl,_⟩:=hf W kR;have b4:∀wn,aa All W wn→wn.cell? ⟨w.heap.size,0,none⟩=some (.slice (some ⟨ab,ao,none⟩) up.length cap)∧wn.cell? ⟨w.heap.size+1,0,none⟩=some (U set)∧wn.cell? ⟨ab,ao+x.1,none⟩=some (U (aN up x.1)):=fun wn R=>by obtain⟨g1,g2,b,o,e,hc⟩:=hf wn R;cases e;exact⟨g1,g2,hc⟩
 have C:=a1.kept hk trivial;have b8:iN up set x.1=(set&&& ~~~(aN up x.1)==0#64):=by unfold iN;rw[x.2.2];rfl
 have HF:=J5 b4 hk J C b8;clear hf b4 hk J C b8 a8 b0 a1 b1 b7 b6 hl b5;gi_wp2;refine eI (aa All W) [] (fun _ _ _=>True) (fun _=>none) (by kernel_rfl) (by kernel_rfl) (by kernel_rfl) (by kernel_rfl) (by kernel_rfl) kR.drew ?_;iterate 7 (refine cO (by rfl) (by rfl) (by intro d hd;cases hd;decide) (fun wn hk hp=>by(obtain⟨e1,e2,e3⟩:=HF.1 wn hk);go_simp;with_reducible rfl) ?_;simp only[PS])
 refine gq fun wn R _=>?_;have b3:=HF.2.1.trans R;have b2:=HF.2.2.2.1.kept R trivial;have c1:=b2.cell 0;have c5:=b2.free 0;simp only[gc] at c1;have HN:=J3 R b3 b2;clear R b3 b2;cases hb:(set&&& ~~~(aN up x.1)==0#64) with
 |true=>
  have HB:=oH hb;clear hb;gi_wp2;refine⟨(KeepsOthers.of_kept HN.1).trans (KeepsOthers.setCell _ _ _),⟨⟨rfl,pre,x,rfl,HF.2.2.1,by rw[HF.2.2.2.2];exact HB.out⟩,?_⟩,?_⟩;·exact HN.2.1.all.setCell (p:=⟨w.heap.size+1+1,0,none⟩) (.inl (by simp)) _
  have:=HN.2.2.set 0 (.int .i64 (x.1:Nat));simpa using this
 |false=>
  have HB:=oH hb;clear hb;gi_wp2;refine⟨KeepsOthers.of_kept HN.1,dw.of_kept HN.1,fun y hy=>?_,HN.2.1⟩;rcases dV.1 hy with hy|hy;·exact HF.2.2.1 y hy
  rw[ce.1 hy,HF.2.2.2.2];exact HB.out)
 case done=>(
 rintro D xs W hD hS ⟨J,hk⟩ hK;have C:=a1.kept hk trivial;have c2:=C.cell 0;have b4:=C.free 0;simp only[gc] at c2;have hv:fi up set= -1:=by(
 refine nG fun j hj=>?_;cases hb:set.getLsbD j with
 |false=>unfold iN;rw[hb];rfl
 |true=>
  have hm:j∈xs.map Subtype.val:=by rw[hS];exact jA.2 ⟨hj,hb⟩
  obtain⟨x,hx,rfl⟩:=dt.1 hm;exact J x hx)
 have HV:=J4 hv C hk hK;clear hv J hS hk C hK a8 b0 a1 b1;go_wp2;have b9:=(KeepsOthers.setCell W ⟨w.heap.size+1+1,0,none⟩ (.int .i64 (-1))).same D _ HV.2.2.2 rfl;refine⟨by simp,.inl ⟨_,_,rfl,run_takeDeferred b9,?_⟩⟩;have a7:=cell_kept ((HV.2.1.set 0 (.int .i64 (-1))).cell 0) (grownBy_putObj' _ D (.deferred none)) (fun r e=>by cases e;exact⟨_,b9,rfl⟩);refine⟨.int .i64 (-1),?_,by rw[HV.1],((Y.trans HV.2.2.1).setCell (p:=⟨w.heap.size+1+1,0,none⟩) (.inr (by simp;omega)) _).put (.inr (by omega)) _⟩;simp at a7;simp[results,Tryz.f151,go_sem,a7])
 rintro D c pre W hD hS ⟨⟨⟨rfl,c3,x,rfl,J,hx⟩,hk⟩,hb⟩ hK;rw[wpIn_wide];have hv:fi up set=(x.1:Nat):=by(
 rw[gU] at hS;obtain⟨h1,h2⟩:=xI hS;refine pF x.2.1 hx fun j hj=>?_;cases hb:set.getLsbD j with
 |false=>unfold iN;rw[hb];rfl
 |true=>obtain⟨y,hy,rfl⟩:=dt.1 (h2 j hj hb);exact J y hy)
 have HV:=J4 hv hb hk hK;clear hv J hS hk hb hK a8 b0 a1 b1;go_wp2;refine⟨by simp,.inl ⟨_,_,rfl,run_takeDeferred HV.2.2.2,?_⟩⟩;have a7:=cell_kept (HV.2.1.cell 0) (grownBy_putObj' _ D (.deferred none)) (fun r e=>by cases e;exact⟨_,HV.2.2.2,rfl⟩);refine⟨.int .i64 (x.1:Nat),?_,by rw[HV.1],?_⟩
 ·simp at a7
  simp[results,Tryz.f151,go_sem,a7]
 refine aa.put ⟨HV.2.2.1.os.trans Y.os,HV.2.2.1.output.trans Y.output,dA Y.size HV.2.2.1.size,fun b hb _=>?_⟩ (.inr (by omega)) _;rw[HV.2.2.1.block b (by omega) (by omega)];exact Y.block b hb trivial
end
section
open Go.RowKit Go.Shelf
attribute [local go_sem] ko pZ uy iD ni nq nj nk lY rq nl wD pz
attribute [local go_sem] Oper.semAt_some
attribute [local go_sem] ny jo gj kP List.getElem?_toArray List.getElem?_cons_zero
theorem Mg:(prog.info? 52).map (fun i=>(i.zero,i.size,i.bytes))=some (some (.int .u64 0),1,8):=by kernel_rfl
def jf (N:Nat)(f:Nat→BitVec 64):Array Value:=ew N fun i=>U (f i)
theorem Ca (n:Nat)(R:n≤1048576)(w:World):(Instr.makeSlice 23 (.int .i64 n) (.int .i64 n)).run prog w=.ok (.slice (some ⟨w.heap.size,0,none⟩) n n) (w.alloc (.cells (jf n fun _=>0#64) 52)):=by
 obtain⟨i,hi,C,I,J⟩:=info_parts Mg;rw[run_make (P:=prog) w 23 52 i (.int .u64 0) underlying23 hi C .i64 .i64 n n (by omega) (by omega) (by rw[J];omega) (by omega)];have e:madeCells (Value.int .u64 0).cells ((n:Int).toNat*i.size)=jf n fun _=>0#64:=by(
 rw[I,fD,Nat.mul_one];apply Array.ext_getElem?;intro j;by_cases o:j<n;·rw[jf,dC o];simp[madeCells,o,Value.cells,Nat.mod_one,U]
 rw[gT (by rw[size_madeCells];omega),gT (by rw[jf,ex];omega)])
 rw[e,fD]
theorem Cg {N:Nat}{f:Nat→BitVec 64}{i:Nat}(h:i<N):(jf N f)[i]? =some (U (f i)):=dC h
def DZ (f:Nat→BitVec 64)(i:Nat)(x:BitVec 64):Nat→BitVec 64:=fun k=>if k=i then x else f k
theorem Hn {N:Nat}{f:Nat→BitVec 64}{i:Nat}{x:BitVec 64}:(jf N f).setIfInBounds i (U x)=jf N (DZ f i x):=by unfold jf;rw[jW];congr 1;funext k;unfold tU DZ;split<;>rfl
theorem oV {N:Nat}{f g:Nat→BitVec 64}(h:∀i,i<N→f i=g i):jf N f=jf N g:=by unfold jf ew;congr 1;exact List.map_congr_left fun i hi=>by rw[h i (dW.1 hi)]
structure LN (up:List (BitVec 64))(g:Nat)(wl:World)(k:Nat)(Ds:List Nat)(wr:World):Prop where
 nodup:Ds.Nodup
 marks:∀D∈Ds,wr.heap[D]? =some (.deferred (some []))
 far:∀D∈Ds,wl.heap.size≤D
 kept:aa (fun b=>b≠g) wl wr
 down:al wr g 52 (jf up.length (oq up k))
def oh (up:List (BitVec 64))(k:Nat)(pre:List Nat)(j:Nat):BitVec 64:=if j∈pre then oq up k j|||1#64<<<k else oq up k j
theorem Gi {up:List (BitVec 64)}{k:Nat}{pre:List Nat}(h:pre=df (aN up k) 64)(j:Nat)(C:j<64):oh up k pre j=oq up (k+1) j:=by
 unfold oh oq;rw[yX];by_cases o:(aN up k).getLsbD j=true;·rw[am o,am (by rw[h];exact jA.2 ⟨C,o⟩)]
 rw[ah o,ah (fun hm=>o (by rw[h] at hm;exact(jA.1 hm).2))]
theorem Dl {up:List (BitVec 64)}{k:Nat}{pre:List Nat}{x:Nat}(o:x∉pre)(N:Nat):jf N (DZ (oh up k pre) x (oh up k pre x|||1#64<<<k))=jf N (oh up k (pre++[x])):=by
 refine oV fun j _=>?_;unfold DZ;by_cases e:j=x;·subst e;rw[am rfl];unfold oh;rw[ah o,am (by simp)]
 rw[ah e];unfold oh;by_cases hm:j∈pre;·rw[am hm,am (by simp[hm])]
 rw[ah hm,ah (by simp[hm,e])]
theorem Gu (x y:BitVec 64):x|||y|||y=x|||y:=by rw[BitVec.or_assoc,BitVec.or_self]
theorem Ah {up:List (BitVec 64)}{k:Nat}{pre:List Nat}{x:Nat}(N:Nat):jf N (DZ (oh up k pre) x (oh up k pre x|||1#64<<<k))=jf N (oh up k (pre++[x])):=by
 by_cases o:x∈pre
 ·refine oV fun j _=>?_;unfold DZ;by_cases e:j=x;·subst e;rw[am rfl];unfold oh;rw[am o,am (by simp),Gu]
  rw[ah e];unfold oh;by_cases hm:j∈pre;·rw[am hm,am (by simp[hm])]
  rw[ah hm,ah (by simp[hm,e])]
 exact Dl o N
theorem mR {g:Nat}{W j:World}(o:aa (fun b=>b≠g) W j)(C:g≠4)(I:g≠3):dw W j:=fun h=>
 ⟨fun i hi=>o.cell (p:=⟨4,i,none⟩) (fun e=>C e.symm) (h.1 i hi),fun i hi=>o.cell (p:=⟨3,i,none⟩) (fun e=>I e.symm) (h.2 i hi)⟩
theorem Jn {w:World}(h:cP w):4<w.heap.size∧3<w.heap.size:=
 ⟨gx w _ (h.1 0 (by decide)),gx w _ (h.2 0 (by decide))⟩
theorem Bd (S:Nat→Prop)(v:Value)(up:List (BitVec 64))(w:World)(hv:rt S w v up)(hl:cP w)(j4:up.length≤64)(d8:∀i,i<up.length→∀k,k<64→(aN up i).getLsbD k=true→k<up.length):
 Calls prog 152 #[v] w fun e w'=>∃u,e=.returned u∧aa All w w'∧rt (fun b=>w.heap.size≤b) w' u (cY up):=by
 have d9:=hv;obtain⟨A,cap,rfl,h1,h2,_,_⟩:=hv;unfold maxLen at h2;have h8:=Ca up.length (by omega);refine(callsIn_wide (n:=8)).1 ?_;refine callsIn_of_wp_marks func152 rfl trivial ?_ rfl;simp only[ntmps152,List.size_toArray,lD,List.length_nil,Nat.reduceAdd,Nat.reduceSub,Array.replicate_succ,Array.replicate_zero,List.push_toArray,List.append_toArray,si,List.cons_append];rw[wpIn_wide];go_wp2_with fail;obtain⟨wl,a7⟩:=eQ ((w.alloc (.cells (jf up.length fun _=>0#64) 52)).alloc (.cells #[.slice (some ⟨w.heap.size,0,none⟩) up.length up.length] 23));have e0:al wl w.heap.size 52 (jf up.length fun _=>0#64):=by rw[a7];exact(al.new _ _ _).alloc _
 have e1:al wl (w.heap.size+1) 23 #[.slice (some ⟨w.heap.size,0,none⟩) up.length up.length]:=by rw[a7];exact ac (by simp)
 have b4:aa All w wl:=by rw[a7];exact(kR.alloc _).alloc _
 have j5:wl.heap.size=w.heap.size+2:=by rw[a7];simp
 rw[←a7];clear a7 h8;have e2:=hl.keep b4;have b3:=Jn hl;have I:=J8 d9 hl d8 e0 e1 b4 e2 b3;clear d9 hl d8 e0 e1 b4 e2 b3;refine wp_loop_ghost_k (fun gg a wr=>∃(k:Nat) (Ds:List Nat) (x4 x5 e3 e4 e5 e6 e7 e8 e9 h0 b5 b6 b7 b8 b9 c0 c1 c2 c6 c7:Value),a= {tmps:=#[.slice A up.length cap,undef,.slice none 0 0,.pointer (some ⟨w.heap.size+1,0,none⟩),x4,x5,.slice A up.length cap,.int .i64 up.length,.slice (some ⟨w.heap.size,0,none⟩) up.length up.length,.slice A up.length cap,.int .i64 up.length,.int .i64 k,e3,e4,e5,e6,e7,e8,e9,h0,b5,b6,b7,b8,b9,c0,c1,c2,c6,c7,undef],defers:=Ds.map ME}∧k≤up.length∧gg=up.length-k∧LN up w.heap.size wl k Ds wr) up.length ?start ?round
 case start=>exact⟨0,[],undef,undef,undef,undef,undef,undef,undef,undef,undef,undef,undef,undef,undef,undef,undef,undef,undef,undef,undef,undef,rfl,by omega,by omega,List.nodup_nil,(fun D h=>by simp at h),(fun D h=>by simp at h),kR,I.2.2.2.1⟩
 rintro gg a wr ⟨k,Ds,x4,x5,e3,e4,e5,e6,e7,e8,e9,h0,b5,b6,b7,b8,b9,c0,c1,c2,c6,c7,rfl,hk,rfl,hinv⟩ J K hJ hK;have C:=oH hinv;clear hinv;by_cases b2:k<up.length;·(
 obtain⟨b,o,rfl,_,hc⟩:=oU (eX.keep (S:=S) (I.2.2.2.2.2.1.all) I.1) b2;have h9:wr.cell? ⟨b,o+k,none⟩=some (U (aN up k)):=by have i1:=gx wl _ hc;refine C.out.kept.cell (p:=⟨b,o+k,none⟩) ?_ hc;rintro rfl;have:=(I.2.2.2.1).cell (o+k);obtain⟨b',o',e,_,i6⟩:=oU I.1 b2;cases e;have:=gx w _ i6;simp only at this;omega
 have i1:b<wr.heap.size:=gx wr _ h9;go_wp2_with fail;refine(wh _ _).mono ?_;rintro e w' ⟨rfl,rfl⟩;go_wp2_with fail;have h3:=I.2.2.2.2.2.1.all.trans C.out.kept;have c8:cP wr:=mR C.out.kept (by have:=I.2.2.2.2.2.2.2;omega) (by have:=I.2.2.2.2.2.2.2;omega) I.2.2.2.2.2.2.1;obtain⟨w1,a8⟩:=eQ ((wr.alloc (.cells #[.int .i64 k] 3)).alloc (.cells #[U (aN up k)] 52));have c9:al w1 wr.heap.size 3 #[.int .i64 k]:=by rw[a8];exact(al.new _ _ _).alloc _
 have d7:al w1 (wr.heap.size+1) 52 #[U (aN up k)]:=by rw[a8];exact ac (by simp)
 have R:aa All wr w1:=by rw[a8];exact(kR.alloc _).alloc _
 have j3:w1.heap.size=wr.heap.size+2:=by rw[a8];simp
 rw[←a8];clear a8;have b0:=c8.keep R;have j6:=C.out.kept.size;have h4:∀D∈Ds,D<wr.heap.size:=fun D hD=>(kT.1 (C.out.marks D hD)).1
 refine wpIn_wide.1 (wpIn_rangeFunc_ownF (F:=Fence.wide) (n:=8) rfl (by omega) (gf:=238) (lb:=#[.pointer (some ⟨wr.heap.size+1,0,none⟩)]) rfl trivial (enters_of func238 (by kernel_rfl) rfl)
  (qk 7 (by omega) (aN up k) _ w1 b0 d7) lL (lK _) (Below.refl _ _) (fun _=>rfl)
  (fun pre W=>aa (fun b=>b≠w.heap.size) w1 W∧al W w.heap.size 52 (jf up.length (oh up k (pre.map Subtype.val))))
  (fun _ _ _=>False)
  (OwnFrom.and (fN (bj _)) gF)
  (fun _=>fun _ _ _ _ h _ _=>h)
  ⟨kR,C.out.down.kept R trivial⟩
  (fun x=> {tmps:=#[.slice (some ⟨b,o,none⟩) up.length cap,undef,.slice none 0 0,.pointer (some ⟨w.heap.size+1,0,none⟩),.pointer (some ⟨wr.heap.size,0,none⟩),.int .i64 (x.1:Nat),.slice (some ⟨b,o,none⟩) up.length cap,.int .i64 up.length,.slice (some ⟨w.heap.size,0,none⟩) up.length up.length,.slice (some ⟨b,o,none⟩) up.length cap,.int .i64 up.length,.int .i64 k,.bool true,.int .i64 k,.slice (some ⟨b,o,none⟩) up.length cap,.int .i64 k,.pointer (some ⟨b,o+k,none⟩),U (aN up k),.func (.func 238) #[] #[.pointer (some ⟨wr.heap.size+1,0,none⟩)],.int .i64 (x.1:Nat),b5,b6,b7,b8,b9,c0,c1,c2,c6,c7,undef],defers:=[]}) ?assign ?body ?done ?stop)
 case assign=>intro l x W K hK;gi_wp2;exact hK
 case stop=>rintro D c pre W _ _ h _;exact h.elim
 case body=>(
 rintro l pre x W ⟨Y,a6⟩ _;have i7:=I.2.2.1 k b2 x.1 x.2.1 x.2.2;have j7:w.heap.size+1<wl.heap.size:=by omega
 have c3:W.cell? ⟨w.heap.size+1,0,none⟩=some (.slice (some ⟨w.heap.size,0,none⟩) up.length up.length):=
  ((((I.2.2.2.2.1).kept C.out.kept (by simp)).kept R trivial).kept Y (by simp)).cell 0
 have c4:W.cell? ⟨wr.heap.size,0,none⟩=some (.int .i64 k):=(c9.kept Y (by omega)).cell 0;have c5:=a6.cell x.1;have f5:=a6.free x.1;rw[Cg i7] at c5;have b1:=fun W=>nR (oh up k (pre.map Subtype.val) x.1) k (by omega) W;have HB:=J3 Y a6 b1;clear Y a6 b1 c8 h3 b0 c9 d7;generalize h5:oh up k (pre.map Subtype.val) x.1=mm at*;have HM:=oH h5;clear h5;gi_wp2;refine ma 9 (by kernel_rfl) (by kernel_rfl) (by kernel_rfl) ?j0 ?_
 case j0=>rintro⟨a,w,h⟩;exact h
 simp only[List.take_succ_cons,List.take_zero,List.drop_succ_cons,List.drop_zero];iterate 7 still_step
 still_call ((HB.2.2 _).mono fun _ _ h=>⟨h.1,h.2.symm⟩)
 still_step
 refine wpStill_nil ?_;go_wp2;have h6:aa (fun b=>b≠w.heap.size) W (W.setCell ⟨w.heap.size,x.1,none⟩ (U (mm|||1#64<<<k))).drew:=((aa.refl _ W).setCell (p:=⟨w.heap.size,x.1,none⟩) (.inl (by simp)) _).drew;refine⟨(KeepsOthers.setCell _ _ _).trans (KeepsOthers.drew _),mR h6 (by have:=I.2.2.2.2.2.2.2;omega) (by have:=I.2.2.2.2.2.2.2;omega),HB.1.trans h6,?_⟩;have h1:=(HB.2.1.set x.1 (U (mm|||1#64<<<k))).drew;rw[Hn,←HM.out,Ah] at h1;rw[←HM.out,gU];exact h1)
 rintro D xs W hD hS ⟨Y,a6⟩ h7;have hinv:LN up w.heap.size wl (k+1) (D::Ds) W:=by(
 have j1:∀E∈Ds,E≠w.heap.size:=fun E hE=>by have:=C.out.far E hE;omega
 refine⟨List.nodup_cons.2 ⟨fun h=>by have:=h4 D h;omega,C.out.nodup⟩,fun E hE=>?_,fun E hE=>?_,?_,?_⟩
 ·rcases fV.1 hE with rfl|hE;·exact h7
  have h1:=h4 E hE;rw[Y.block E (by omega) (j1 E hE),R.block E h1 trivial];exact C.out.marks E hE
 ·rcases fV.1 hE with rfl|hE
  ·omega
  exact C.out.far E hE
 ·exact(C.out.kept.trans R.all).trans Y
 have e:jf up.length (oh up k (xs.map Subtype.val))=jf up.length (oq up (k+1)):=oV fun j hj=>Gi hS j (by omega);rw[←e];exact a6)
 have HV:=oH hinv;clear hinv hS Y a6 h7 c8 h3 b0 c9 d7;go_wp2;exact Handed.intro (up.length-(k+1)) (by omega) (hJ _ _ _ ⟨k+1,D::Ds,_,_,_,_,_,_,_,_,_,_,_,_,_,_,_,_,_,_,_,_,rfl,by omega,rfl,HV.out⟩))
 obtain rfl:k=up.length:=by omega
 have c3:wr.cell? ⟨w.heap.size+1,0,none⟩=some (.slice (some ⟨w.heap.size,0,none⟩) up.length up.length):=((I.2.2.2.2.1).kept C.out.kept (by simp)).cell 0;clear b2 hk;go_wp2;refine lM Ds _ C.out.nodup C.out.marks fun w' a1=>⟨_,results_tmp rfl _ _ _,_,rfl,?_,?_⟩;·have h1:aa All w wr:=⟨C.out.kept.os.trans I.2.2.2.2.2.1.os,C.out.kept.output.trans I.2.2.2.2.2.1.output,dA I.2.2.2.2.2.1.size C.out.kept.size,fun b hb _=>by rw[C.out.kept.block b (by omega) (by omega)];exact I.2.2.2.2.2.1.block b hb trivial⟩;exact⟨a1.os.trans h1.os,a1.output.trans h1.output,dA h1.size a1.size,fun b hb _=>by rw[a1.block b (Nat.lt_of_lt_of_le hb h1.size) (fun hm=>by have:=C.out.far b hm;omega)];exact h1.block b hb trivial⟩
 have hd:al w' w.heap.size 52 (jf up.length (oq up up.length)):=C.out.down.kept a1 (fun hm=>by have:=C.out.far _ hm;omega);have j2:=jK up;have:=Sl.of_blk (bw:=8) (E:=Ir) (S:=fun b=>w.heap.size≤b) (l:=cY up) (cap:=up.length) hd (bj _) (by omega) (by unfold maxLen;omega) (by omega) (fun i x hx=>⟨_,Cg (by have:=(lS.1 hx).1;omega),by
  have hi:i<up.length:=by have:=(lS.1 hx).1;omega
  have:=JN hx;rw[vS hi] at this;show U _=U _;rw[this]⟩)
 rwa [j2] at this
end
end Go.Proofs.YtccbbkopmlnkpaaGreatDoor
