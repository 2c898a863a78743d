/- Part 7 of the proof of CallsShallow (its last part says what is proved). No condition. -/
import Derived.Test.YtncdbjponknakaaGreatDoorK5
namespace Go.Proofs.YtncdbjponknakaaGreatDoor
set_option maxRecDepth 100000
set_option maxHeartbeats 8000000
open Go.RowKit Go.Proofs.Tryz
section
open Go.RowKit Go.Shelf
attribute [local go_sem] lh qb xr ju nA nE nB nC ms rq nD wL pD
attribute [local go_sem] Oper.semAt_some
def MI (D:Nat):Deferred:= {target:=.collected D,args:=#[]}
theorem mj {P:Program}{F:Fence}{n:Nat}{fn:Func}{tmps:Array Value}{R:Ending→World→Prop}:∀(Ds:List Nat) (w:World),Ds.Nodup→(∀D∈Ds,w.heap[D]? =some (.deferred (some [])))→
 (∀l,aa (fun b=>b∉Ds) w l→LeavesInM F n P fn tmps R [] .returning l)→LeavesInM F n P fn tmps R (Ds.map MI) .returning w
 | [],w,_,_,h=>h w kR
 |D::Ds,w,Y,C,h=>by(
 have j:=List.nodup_cons.1 Y;refine⟨by simp,.inl ⟨D,_,rfl,run_takeDeferred (C D (List.mem_cons_self ..)),mj Ds _ j.2 (fun E J=>?_) fun l Z=>h l ?_⟩⟩
 ·have o:E≠D:=fun e=>j.1 (e▸J)
  rw[World.putObj_heap_other o];exact C E (List.mem_cons_of_mem _ J)
 have k1:aa (fun b=>b∉D::Ds) w (w.putObj D (.deferred none)):=(aa.refl _ w).grown (grownBy_putObj' w D _) fun k e=>by cases e;exact .inl fun h=>h (List.mem_cons_self ..)
 exact k1.trans (Z.mono fun b hb h=>hb (List.mem_cons_of_mem _ h)))
theorem KeepsOthers.of_kept {W j:World}(h:aa All W j):KeepsOthers W j:=
 ⟨h.size,fun b _ l _=>(h.block b (mV.1 l).1 trivial).trans l⟩
theorem eq.of_kept {W j:World}(h:aa All W j):eq W j:=fun l=>l.keep h
theorem aa.put {S:Nat→Prop}{w W:World}(h:aa S w W){D:Nat}(j:¬S D∨w.heap.size≤D)(o:Obj):aa S w (W.putObj D o):=
 h.grown (grownBy_putObj' W D o) fun k e=>by cases e;exact j
theorem gL {β:Type}{B:Nat}{S:Nat→Prop}{wl:World}(C:wl.heap.size≤B):OwnFrom B (fun(_:β) W=>aa S wl W):=by intro s W J row h j l;exact h.grown j fun k o=>.inr (by have:=(l k o).1;omega)
theorem iz {β:Type}{B:Nat}{g:Nat}{t:TypeId}{cs:β→Array Value}:OwnFrom B (fun(s:β) W=>al W g t (cs s)):=by intro s W R row h l C;refine h.grown l fun e=>?_;obtain⟨_,o,j,J⟩:=C g e.symm;unfold al at h;rw[h] at j;cases j;cases J
theorem mi {A B C:World}(h:eq A B)(k:eq B C):eq A C:=fun j=>k (h j)
theorem mh (B:Nat):∀(W:World) (l:Nat) (o j:Obj),B≤l→W.heap[l]? =some o→o.isCells=false→o.isWalk=false→eq W (W.putObj l j):=fun _ _ _ _ _ C J _=>Gb C J
theorem lx {S:Nat→Prop}{w:World}{A:Option Addr}{n c:Nat}{l:List (BitVec 64)}(h:nZ S w (.slice A n c) l){i:Nat}(hi:i<l.length):∃b o,A=some ⟨b,o,none⟩∧S b∧w.cell? ⟨b,o+i,none⟩=some (U (aJ l i)):=by obtain⟨a,cap,j,_,_,_,h⟩:=h;injection j with C Y Z;subst C;obtain⟨b,o,c',e,J,R,rfl⟩:=h i _ (Hw hi);exact⟨b,o,e,J,R⟩
section
variable {P:Program} {w:World}
theorem pm (x:BitVec 64):(U x).cells= #[U x]:=rfl
theorem lU (t:TypeId)(x:BitVec 64):(Instr.box t (U x)).run P w=.ok (.pointer (some ⟨w.heap.size,0,none⟩)) (w.alloc (.cells #[U x] t)):=rfl
theorem jt (a:Addr)(x:BitVec 64)(m:Mode):(store a (U x) m).run P w=stored P w a (U x) m:=run_store P w a _ m rfl
end
theorem mU (x:BitVec 64)(cs:Array Value):(U x=.agg cs)=False:=eq_false (fun h=>by cases h)
attribute [local go_sem] pm lU jt mU List.getElem?_toArray List.getElem?_cons_zero
def Ip (up:List (BitVec 64))(set:BitVec 64)(pre:List (zD set)):Prop:=∀x∈pre,jB up set x.1=false
def KA (up:List (BitVec 64))(set:BitVec 64)(c:Code)(pre:List (zD set)):Prop:=c=.ret∧∃pre' x,pre=pre'++[x]∧(∀y∈pre',jB up set y.1=false)∧jB up set x.1=true
theorem Dm (S:Nat→Prop)(v:Value)(up:List (BitVec 64))(set:BitVec 64)(w:World)(hv:nZ S w v up)(hl:gz w)(b5:∀k,k<64→set.getLsbD k=true→k<up.length):
 Calls prog 83 #[v,U set] w fun e w'=>e=.returned (.int .i64 (gq up set))∧aa All w w':=by
 have b6:=hv;obtain⟨A,cap,rfl,h1,h2,_,_⟩:=hv;unfold maxLen at h2;refine(callsIn_wide (n:=8)).1 ?_;refine callsIn_of_wp_marks func83 rfl trivial ?_ rfl;simp only[ntmps83,List.size_toArray,kI,List.length_nil,Nat.reduceAdd,Nat.reduceSub,Array.replicate_succ,Array.replicate_zero,List.push_toArray,List.append_toArray,mF,List.cons_append];rw[wpIn_wide];go_wp2_with fail;refine(wk _ _).mono ?_;rintro e w' ⟨rfl,rfl⟩;go_wp2_with fail;obtain⟨wl,J⟩:=eQ ((((w.alloc (.cells #[.slice A up.length cap] 23)).alloc (.cells #[U set] 90)).alloc (.cells #[.int .i64 0] 3)).alloc (.cells #[U set] 90));have a8:al wl w.heap.size 23 #[.slice A up.length cap]:=by rw[J];exact(((al.new _ _ _).alloc _).alloc _).alloc _
 have b0:al wl (w.heap.size+1) 90 #[U set]:=by rw[J];exact((ac (by simp)).alloc _).alloc _
 have a1:al wl (w.heap.size+1+1) 3 #[.int .i64 0]:=by rw[J];exact(ac (by simp)).alloc _
 have b1:al wl (w.heap.size+1+1+1) 90 #[U set]:=by rw[J];exact ac (by simp)
 have Z:aa All w wl:=by rw[J];exact(((kR.alloc _).alloc _).alloc _).alloc _
 have c4:w.heap.size+4≤wl.heap.size:=by rw[J];simp
 rw[←J];clear J;have b7:=hl.keep Z
 refine wpIn_wide.1 (wpIn_rangeFunc_ownF (F:=Fence.wide) (n:=8) rfl (by omega) (gf:=151) (lb:=#[.pointer (some ⟨w.heap.size+1+1+1,0,none⟩)]) rfl trivial (enters_of func151 (by kernel_rfl) rfl)
  (qm 7 (by omega) set _ wl b7 b1) mi (mh _) (Below.refl _ _) (fun _=>rfl)
  (fun pre W=>Ip up set pre∧aa All wl W)
  (fun c pre W=>(KA up set c pre∧aa (fun b=>b≠w.heap.size+1+1) wl W)∧al W (w.heap.size+1+1) 3 #[.int .i64 ((pre.getLast?.map fun x=>x.1).getD 0:Nat)])
  (OwnFrom.and (ownFrom_pure _ _) (gL (cf _)))
  (fun c=>OwnFrom.and (OwnFrom.and (ownFrom_pure _ _) (gL (cf _))) iz)
  ⟨fun x hx=>by simp at hx,kR⟩
  (fun x=> {tmps:=#[.slice A up.length cap,U set,.pointer (some ⟨w.heap.size,0,none⟩),.pointer (some ⟨w.heap.size+1,0,none⟩),.pointer (some ⟨w.heap.size+1+1,0,none⟩),.int .i64 (x.1:Nat),U set,.func (.func 151) #[] #[.pointer (some ⟨w.heap.size+1+1+1,0,none⟩)],.int .i64 (x.1:Nat),undef,undef,undef,undef,undef,undef,undef,undef],defers:=[]}) ?assign ?body ?done ?stop)
 case assign=>intro l x W K hK;gi_wp2;exact hK
 case body=>(
 rintro l pre x W ⟨R,hk⟩ _;have c0:=b5 x.1 x.2.1 x.2.2;have hf:∀wn,aa All W wn→wn.cell? ⟨w.heap.size,0,none⟩=some (.slice A up.length cap)∧wn.cell? ⟨w.heap.size+1,0,none⟩=some (U set)∧∃b o,A=some ⟨b,o,none⟩∧wn.cell? ⟨b,o+x.1,none⟩=some (U (aJ up x.1)):=fun wn Y=>by have a6:=hk.trans Y;obtain⟨b,o,e,_,hc⟩:=lx (dU.keep (Z.trans a6).all b6) c0;exact⟨(a8.kept a6 trivial).cell 0,(b0.kept a6 trivial).cell 0,b,o,e,hc⟩
 obtain⟨_,_,ab,ao,rfl,_⟩:=hf W kR;have b4:∀wn,aa All W wn→wn.cell? ⟨w.heap.size,0,none⟩=some (.slice (some ⟨ab,ao,none⟩) up.length cap)∧wn.cell? ⟨w.heap.size+1,0,none⟩=some (U set)∧wn.cell? ⟨ab,ao+x.1,none⟩=some (U (aJ up x.1)):=fun wn Y=>by obtain⟨g1,g2,b,o,e,hc⟩:=hf wn Y;cases e;exact⟨g1,g2,hc⟩
 have C:=a1.kept hk trivial;have b8:jB up set x.1=(set&&& ~~~(aJ up x.1)==0#64):=by unfold jB;rw[x.2.2];rfl
 have HF:=J5 b4 hk R C b8;clear hf b4 hk R C b8 a8 b0 a1 b1 b7 b6 hl b5;gi_wp2;refine fJ (aa All W) [] (fun _ _ _=>True) (fun _=>none) (by kernel_rfl) (by kernel_rfl) (by kernel_rfl) (by kernel_rfl) (by kernel_rfl) kR.drew ?_;iterate 7 (refine bG (by rfl) (by rfl) (by intro d hd;cases hd;decide) (fun wn hk hp=>by(obtain⟨e1,e2,e3⟩:=HF.1 wn hk);go_simp;with_reducible rfl) ?_;simp only[PS])
 refine dQ fun wn Y _=>?_;have b3:=HF.2.1.trans Y;have b2:=HF.2.2.2.1.kept Y trivial;have c1:=b2.cell 0;have c5:=b2.free 0;simp only[gc] at c1;have HN:=J3 Y b3 b2;clear Y b3 b2;cases hb:(set&&& ~~~(aJ up x.1)==0#64) with
 |true=>
  have HB:=oH hb;clear hb;gi_wp2;refine⟨(KeepsOthers.of_kept HN.1).trans (KeepsOthers.setCell _ _ _),⟨⟨rfl,pre,x,rfl,HF.2.2.1,by rw[HF.2.2.2.2];exact HB.out⟩,?_⟩,?_⟩;·exact HN.2.1.all.setCell (p:=⟨w.heap.size+1+1,0,none⟩) (.inl (by simp)) _
  have:=HN.2.2.set 0 (.int .i64 (x.1:Nat));simpa using this
 |false=>
  have HB:=oH hb;clear hb;gi_wp2;refine⟨KeepsOthers.of_kept HN.1,eq.of_kept HN.1,fun y hy=>?_,HN.2.1⟩;rcases eD.1 hy with hy|hy;·exact HF.2.2.1 y hy
  rw[cx.1 hy,HF.2.2.2.2];exact HB.out)
 case done=>(
 rintro D xs W hD hS ⟨R,hk⟩ hK;have C:=a1.kept hk trivial;have c2:=C.cell 0;have b4:=C.free 0;simp only[gc] at c2;have hv:gq up set= -1:=by(
 refine jW fun j hj=>?_;cases hb:set.getLsbD j with
 |false=>unfold jB;rw[hb];rfl
 |true=>
  have hm:j∈xs.map Subtype.val:=by rw[hS];exact ko.2 ⟨hj,hb⟩
  obtain⟨x,hx,rfl⟩:=dr.1 hm;exact R x hx)
 have HV:=J4 hv C hk hK;clear hv R hS hk C hK a8 b0 a1 b1;go_wp2;have b9:=(KeepsOthers.setCell W ⟨w.heap.size+1+1,0,none⟩ (.int .i64 (-1))).same D _ HV.2.2.2 rfl;refine⟨by simp,.inl ⟨_,_,rfl,run_takeDeferred b9,?_⟩⟩;have a7:=cell_kept ((HV.2.1.set 0 (.int .i64 (-1))).cell 0) (grownBy_putObj' _ D (.deferred none)) (fun r e=>by cases e;exact⟨_,b9,rfl⟩);refine⟨.int .i64 (-1),?_,by rw[HV.1],((Z.trans HV.2.2.1).setCell (p:=⟨w.heap.size+1+1,0,none⟩) (.inr (by simp;omega)) _).put (.inr (by omega)) _⟩;simp at a7;simp[results,Tryz.f83,go_sem,a7])
 rintro D c pre W hD hS ⟨⟨⟨rfl,c3,x,rfl,R,hx⟩,hk⟩,hb⟩ hK;rw[wpIn_wide];have hv:gq up set=(x.1:Nat):=by(
 rw[ic] at hS;obtain⟨h1,h2⟩:=xP hS;refine lI x.2.1 hx fun j hj=>?_;cases hb:set.getLsbD j with
 |false=>unfold jB;rw[hb];rfl
 |true=>obtain⟨y,hy,rfl⟩:=dr.1 (h2 j hj hb);exact R y hy)
 have HV:=J4 hv hb hk hK;clear hv R hS hk hb hK a8 b0 a1 b1;go_wp2;refine⟨by simp,.inl ⟨_,_,rfl,run_takeDeferred HV.2.2.2,?_⟩⟩;have a7:=cell_kept (HV.2.1.cell 0) (grownBy_putObj' _ D (.deferred none)) (fun r e=>by cases e;exact⟨_,HV.2.2.2,rfl⟩);refine⟨.int .i64 (x.1:Nat),?_,by rw[HV.1],?_⟩
 ·simp at a7
  simp[results,Tryz.f83,go_sem,a7]
 refine aa.put ⟨HV.2.2.1.os.trans Z.os,HV.2.2.1.output.trans Z.output,fR Z.size HV.2.2.1.size,fun b hb _=>?_⟩ (.inr (by omega)) _;rw[HV.2.2.1.block b (by omega) (by omega)];exact Z.block b hb trivial
end
section
open Go.RowKit Go.Shelf
attribute [local go_sem] lh qb xr ju nA nE nB nC ms rq nD wL pD
attribute [local go_sem] Oper.semAt_some
attribute [local go_sem] pm lU jt mU List.getElem?_toArray List.getElem?_cons_zero
theorem Km:(prog.info? 90).map (fun i=>(i.zero,i.size,i.bytes))=some (some (.int .u64 0),1,8):=by kernel_rfl
def kM (N:Nat)(f:Nat→BitVec 64):Array Value:=dM N fun i=>U (f i)
theorem Jv (n:Nat)(R:n≤1048576)(w:World):(Instr.makeSlice 23 (.int .i64 n) (.int .i64 n)).run prog w=.ok (.slice (some ⟨w.heap.size,0,none⟩) n n) (w.alloc (.cells (kM n fun _=>0#64) 90)):=by
 obtain⟨i,hi,o,C,J⟩:=info_parts Km;rw[run_make (P:=prog) w 23 90 i (.int .u64 0) underlying23 hi o .i64 .i64 n n (by omega) (by omega) (by rw[J];omega) (by omega)];have e:madeCells (Value.int .u64 0).cells ((n:Int).toNat*i.size)=kM n fun _=>0#64:=by(
 rw[C,dP,Nat.mul_one];apply Array.ext_getElem?;intro j;by_cases l:j<n;·rw[kM,cq l];simp[madeCells,l,Value.cells,Nat.mod_one,U]
 rw[jK (by rw[size_madeCells];omega),jK (by rw[kM,ew];omega)])
 rw[e,dP]
theorem Co {N:Nat}{f:Nat→BitVec 64}{i:Nat}(h:i<N):(kM N f)[i]? =some (U (f i)):=cq h
def Ee (f:Nat→BitVec 64)(i:Nat)(x:BitVec 64):Nat→BitVec 64:=fun k=>if k=i then x else f k
theorem Hv {N:Nat}{f:Nat→BitVec 64}{i:Nat}{x:BitVec 64}:(kM N f).setIfInBounds i (U x)=kM N (Ee f i x):=by unfold kM;rw[jo];congr 1;funext k;unfold qd Ee;split<;>rfl
theorem oY {N:Nat}{f g:Nat→BitVec 64}(h:∀i,i<N→f i=g i):kM N f=kM N g:=by unfold kM dM;congr 1;exact List.map_congr_left fun i hi=>by rw[h i (fg.1 hi)]
structure Md (up:List (BitVec 64))(g:Nat)(wl:World)(k:Nat)(Ds:List Nat)(wr:World):Prop where
 nodup:Ds.Nodup
 marks:∀D∈Ds,wr.heap[D]? =some (.deferred (some []))
 far:∀D∈Ds,wl.heap.size≤D
 kept:aa (fun b=>b≠g) wl wr
 down:al wr g 90 (kM up.length (ow up k))
def ol (up:List (BitVec 64))(k:Nat)(pre:List Nat)(j:Nat):BitVec 64:=if j∈pre then ow up k j|||1#64<<<k else ow up k j
theorem Gg {up:List (BitVec 64)}{k:Nat}{pre:List Nat}(h:pre=dS (aJ up k) 64)(j:Nat)(o:j<64):ol up k pre j=ow up (k+1) j:=by
 unfold ol ow;rw[zt];by_cases l:(aJ up k).getLsbD j=true;·rw[ap l,ap (by rw[h];exact ko.2 ⟨o,l⟩)]
 rw[ae l,ae (fun hm=>l (by rw[h] at hm;exact(ko.1 hm).2))]
theorem Do {up:List (BitVec 64)}{k:Nat}{pre:List Nat}{x:Nat}(l:x∉pre)(N:Nat):kM N (Ee (ol up k pre) x (ol up k pre x|||1#64<<<k))=kM N (ol up k (pre++[x])):=by
 refine oY fun j _=>?_;unfold Ee;by_cases e:j=x;·subst e;rw[ap rfl];unfold ol;rw[ae l,ap (by simp)]
 rw[ae e];unfold ol;by_cases hm:j∈pre;·rw[ap hm,ap (by simp[hm])]
 rw[ae hm,ae (by simp[hm,e])]
theorem Gw (x y:BitVec 64):x|||y|||y=x|||y:=by rw[BitVec.or_assoc,BitVec.or_self]
theorem AE {up:List (BitVec 64)}{k:Nat}{pre:List Nat}{x:Nat}(N:Nat):kM N (Ee (ol up k pre) x (ol up k pre x|||1#64<<<k))=kM N (ol up k (pre++[x])):=by
 by_cases l:x∈pre
 ·refine oY fun j _=>?_;unfold Ee;by_cases e:j=x;·subst e;rw[ap rfl];unfold ol;rw[ap l,ap (by simp),Gw]
  rw[ae e];unfold ol;by_cases hm:j∈pre;·rw[ap hm,ap (by simp[hm])]
  rw[ae hm,ae (by simp[hm,e])]
 exact Do l N
theorem nl {g:Nat}{W j:World}(l:aa (fun b=>b≠g) W j)(o:g≠0)(C:g≠1):eq W j:=fun h=>
 ⟨fun i hi=>l.cell (p:=⟨0,i,none⟩) (fun e=>o e.symm) (h.1 i hi),fun i hi=>l.cell (p:=⟨1,i,none⟩) (fun e=>C e.symm) (h.2 i hi)⟩
theorem Js {w:World}(h:gz w):0<w.heap.size∧1<w.heap.size:=
 ⟨jy w _ (h.1 0 (by decide)),jy w _ (h.2 0 (by decide))⟩
theorem Bu (S:Nat→Prop)(v:Value)(up:List (BitVec 64))(w:World)(hv:nZ S w v up)(hl:gz w)(j0:up.length≤64)(d8:∀i,i<up.length→∀k,k<64→(aJ up i).getLsbD k=true→k<up.length):
 Calls prog 84 #[v] w fun e w'=>∃u,e=.returned u∧aa All w w'∧nZ (fun b=>w.heap.size≤b) w' u (dE up):=by
 have d9:=hv;obtain⟨A,cap,rfl,h1,h2,_,_⟩:=hv;unfold maxLen at h2;have h8:=Jv up.length (by omega);refine(callsIn_wide (n:=8)).1 ?_;refine callsIn_of_wp_marks func84 rfl trivial ?_ rfl;simp only[ntmps84,List.size_toArray,kI,List.length_nil,Nat.reduceAdd,Nat.reduceSub,Array.replicate_succ,Array.replicate_zero,List.push_toArray,List.append_toArray,mF,List.cons_append];rw[wpIn_wide];go_wp2_with fail;obtain⟨wl,a7⟩:=eQ ((w.alloc (.cells (kM up.length fun _=>0#64) 90)).alloc (.cells #[.slice (some ⟨w.heap.size,0,none⟩) up.length up.length] 23));have e0:al wl w.heap.size 90 (kM up.length fun _=>0#64):=by rw[a7];exact(al.new _ _ _).alloc _
 have e1:al wl (w.heap.size+1) 23 #[.slice (some ⟨w.heap.size,0,none⟩) up.length up.length]:=by rw[a7];exact ac (by simp)
 have b4:aa All w wl:=by rw[a7];exact(kR.alloc _).alloc _
 have j1:wl.heap.size=w.heap.size+2:=by rw[a7];simp
 rw[←a7];clear a7 h8;have e2:=hl.keep b4;have b3:=Js hl;have R:=J8 d9 hl d8 e0 e1 b4 e2 b3;clear d9 hl d8 e0 e1 b4 e2 b3;refine wp_loop_ghost_k (fun gg a wr=>∃(k:Nat) (Ds:List Nat) (x4 x5 e3 e4 e5 e6 e7 e8 e9 h0 b5 b6 b7 b8 b9 c0 c1 c2 c6 c7:Value),a= {tmps:=#[.slice A up.length cap,undef,.slice none 0 0,.pointer (some ⟨w.heap.size+1,0,none⟩),x4,x5,.slice A up.length cap,.int .i64 up.length,.slice (some ⟨w.heap.size,0,none⟩) up.length up.length,.slice A up.length cap,.int .i64 up.length,.int .i64 k,e3,e4,e5,e6,e7,e8,e9,h0,b5,b6,b7,b8,b9,c0,c1,c2,c6,c7,undef],defers:=Ds.map MI}∧k≤up.length∧gg=up.length-k∧Md up w.heap.size wl k Ds wr) up.length ?start ?round
 case start=>exact⟨0,[],undef,undef,undef,undef,undef,undef,undef,undef,undef,undef,undef,undef,undef,undef,undef,undef,undef,undef,undef,undef,rfl,by omega,by omega,List.nodup_nil,(fun D h=>by simp at h),(fun D h=>by simp at h),kR,R.2.2.2.1⟩
 rintro gg a wr ⟨k,Ds,x4,x5,e3,e4,e5,e6,e7,e8,e9,h0,b5,b6,b7,b8,b9,c0,c1,c2,c6,c7,rfl,hk,rfl,hinv⟩ J K hJ hK;have C:=oH hinv;clear hinv;by_cases b2:k<up.length;·(
 obtain⟨b,o,rfl,_,hc⟩:=lx (dU.keep (S:=S) (R.2.2.2.2.2.1.all) R.1) b2;have h9:wr.cell? ⟨b,o+k,none⟩=some (U (aJ up k)):=by have i0:=jy wl _ hc;refine C.out.kept.cell (p:=⟨b,o+k,none⟩) ?_ hc;rintro rfl;have:=(R.2.2.2.1).cell (o+k);obtain⟨b',o',e,_,i1⟩:=lx R.1 b2;cases e;have:=jy w _ i1;simp only at this;omega
 have i0:b<wr.heap.size:=jy wr _ h9;go_wp2_with fail;refine(wk _ _).mono ?_;rintro e w' ⟨rfl,rfl⟩;go_wp2_with fail;have h3:=R.2.2.2.2.2.1.all.trans C.out.kept;have c8:gz wr:=nl C.out.kept (by have:=R.2.2.2.2.2.2.2;omega) (by have:=R.2.2.2.2.2.2.2;omega) R.2.2.2.2.2.2.1;obtain⟨w1,a8⟩:=eQ ((wr.alloc (.cells #[.int .i64 k] 3)).alloc (.cells #[U (aJ up k)] 90));have c9:al w1 wr.heap.size 3 #[.int .i64 k]:=by rw[a8];exact(al.new _ _ _).alloc _
 have d7:al w1 (wr.heap.size+1) 90 #[U (aJ up k)]:=by rw[a8];exact ac (by simp)
 have Y:aa All wr w1:=by rw[a8];exact(kR.alloc _).alloc _
 have i7:w1.heap.size=wr.heap.size+2:=by rw[a8];simp
 rw[←a8];clear a8;have b0:=c8.keep Y;have j2:=C.out.kept.size;have h4:∀D∈Ds,D<wr.heap.size:=fun D hD=>(mV.1 (C.out.marks D hD)).1
 refine wpIn_wide.1 (wpIn_rangeFunc_ownF (F:=Fence.wide) (n:=8) rfl (by omega) (gf:=151) (lb:=#[.pointer (some ⟨wr.heap.size+1,0,none⟩)]) rfl trivial (enters_of func151 (by kernel_rfl) rfl)
  (qm 7 (by omega) (aJ up k) _ w1 b0 d7) mi (mh _) (Below.refl _ _) (fun _=>rfl)
  (fun pre W=>aa (fun b=>b≠w.heap.size) w1 W∧al W w.heap.size 90 (kM up.length (ol up k (pre.map Subtype.val))))
  (fun _ _ _=>False)
  (OwnFrom.and (gL (cf _)) iz)
  (fun _=>fun _ _ _ _ h _ _=>h)
  ⟨kR,C.out.down.kept Y trivial⟩
  (fun x=> {tmps:=#[.slice (some ⟨b,o,none⟩) up.length cap,undef,.slice none 0 0,.pointer (some ⟨w.heap.size+1,0,none⟩),.pointer (some ⟨wr.heap.size,0,none⟩),.int .i64 (x.1:Nat),.slice (some ⟨b,o,none⟩) up.length cap,.int .i64 up.length,.slice (some ⟨w.heap.size,0,none⟩) up.length up.length,.slice (some ⟨b,o,none⟩) up.length cap,.int .i64 up.length,.int .i64 k,.bool true,.int .i64 k,.slice (some ⟨b,o,none⟩) up.length cap,.int .i64 k,.pointer (some ⟨b,o+k,none⟩),U (aJ up k),.func (.func 151) #[] #[.pointer (some ⟨wr.heap.size+1,0,none⟩)],.int .i64 (x.1:Nat),b5,b6,b7,b8,b9,c0,c1,c2,c6,c7,undef],defers:=[]}) ?assign ?body ?done ?stop)
 case assign=>intro l x W K hK;gi_wp2;exact hK
 case stop=>rintro D c pre W _ _ h _;exact h.elim
 case body=>(
 rintro l pre x W ⟨Z,a6⟩ _;have i2:=R.2.2.1 k b2 x.1 x.2.1 x.2.2;have j3:w.heap.size+1<wl.heap.size:=by omega
 have c3:W.cell? ⟨w.heap.size+1,0,none⟩=some (.slice (some ⟨w.heap.size,0,none⟩) up.length up.length):=
  ((((R.2.2.2.2.1).kept C.out.kept (by simp)).kept Y trivial).kept Z (by simp)).cell 0
 have c4:W.cell? ⟨wr.heap.size,0,none⟩=some (.int .i64 k):=(c9.kept Z (by omega)).cell 0;have c5:=a6.cell x.1;have f5:=a6.free x.1;rw[Co i2] at c5;have b1:=fun W=>Dq (ol up k (pre.map Subtype.val) x.1) k (by omega) W;have HB:=J3 Z a6 b1;clear Z a6 b1 c8 h3 b0 c9 d7;generalize h5:ol up k (pre.map Subtype.val) x.1=mm at*;have HM:=oH h5;clear h5;gi_wp2;refine mv 9 (by kernel_rfl) (by kernel_rfl) (by kernel_rfl) ?i4 ?_
 case i4=>rintro⟨a,w,h⟩;exact h
 simp only[List.take_succ_cons,List.take_zero,List.drop_succ_cons,List.drop_zero];iterate 7 still_step
 still_call ((HB.2.2 _).mono fun _ _ h=>⟨h.1,h.2.symm⟩)
 still_step
 refine wpStill_nil ?_;go_wp2;have h6:aa (fun b=>b≠w.heap.size) W (W.setCell ⟨w.heap.size,x.1,none⟩ (U (mm|||1#64<<<k))).drew:=((aa.refl _ W).setCell (p:=⟨w.heap.size,x.1,none⟩) (.inl (by simp)) _).drew;refine⟨(KeepsOthers.setCell _ _ _).trans (KeepsOthers.drew _),nl h6 (by have:=R.2.2.2.2.2.2.2;omega) (by have:=R.2.2.2.2.2.2.2;omega),HB.1.trans h6,?_⟩;have h1:=(HB.2.1.set x.1 (U (mm|||1#64<<<k))).drew;rw[Hv,←HM.out,AE] at h1;rw[←HM.out,ic];exact h1)
 rintro D xs W hD hS ⟨Z,a6⟩ h7;have hinv:Md up w.heap.size wl (k+1) (D::Ds) W:=by(
 have i5:∀E∈Ds,E≠w.heap.size:=fun E hE=>by have:=C.out.far E hE;omega
 refine⟨List.nodup_cons.2 ⟨fun h=>by have:=h4 D h;omega,C.out.nodup⟩,fun E hE=>?_,fun E hE=>?_,?_,?_⟩
 ·rcases fX.1 hE with rfl|hE;·exact h7
  have h1:=h4 E hE;rw[Z.block E (by omega) (i5 E hE),Y.block E h1 trivial];exact C.out.marks E hE
 ·rcases fX.1 hE with rfl|hE
  ·omega
  exact C.out.far E hE
 ·exact(C.out.kept.trans Y.all).trans Z
 have e:kM up.length (ol up k (xs.map Subtype.val))=kM up.length (ow up (k+1)):=oY fun j hj=>Gg hS j (by omega);rw[←e];exact a6)
 have HV:=oH hinv;clear hinv hS Z a6 h7 c8 h3 b0 c9 d7;go_wp2;exact Handed.intro (up.length-(k+1)) (by omega) (hJ _ _ _ ⟨k+1,D::Ds,_,_,_,_,_,_,_,_,_,_,_,_,_,_,_,_,_,_,_,_,rfl,by omega,rfl,HV.out⟩))
 obtain rfl:k=up.length:=by omega
 have c3:wr.cell? ⟨w.heap.size+1,0,none⟩=some (.slice (some ⟨w.heap.size,0,none⟩) up.length up.length):=((R.2.2.2.2.1).kept C.out.kept (by simp)).cell 0;clear b2 hk;go_wp2;refine mj Ds _ C.out.nodup C.out.marks fun w' a1=>⟨_,results_tmp rfl _ _ _,_,rfl,?_,?_⟩;·have h1:aa All w wr:=⟨C.out.kept.os.trans R.2.2.2.2.2.1.os,C.out.kept.output.trans R.2.2.2.2.2.1.output,fR R.2.2.2.2.2.1.size C.out.kept.size,fun b hb _=>by rw[C.out.kept.block b (by omega) (by omega)];exact R.2.2.2.2.2.1.block b hb trivial⟩;exact⟨a1.os.trans h1.os,a1.output.trans h1.output,fR h1.size a1.size,fun b hb _=>by rw[a1.block b (Nat.lt_of_lt_of_le hb h1.size) (fun hm=>by have:=C.out.far b hm;omega)];exact h1.block b hb trivial⟩
 have hd:al w' w.heap.size 90 (kM up.length (ow up up.length)):=C.out.down.kept a1 (fun hm=>by have:=C.out.far _ hm;omega);have i6:=kF up;have:=Sl.of_blk (bw:=8) (E:=Cz) (S:=fun b=>w.heap.size≤b) (l:=dE up) (cap:=up.length) hd (cf _) (by omega) (by unfold maxLen;omega) (by omega) (fun i x hx=>⟨_,Co (by have:=(lS.1 hx).1;omega),by
  have hi:i<up.length:=by have:=(lS.1 hx).1;omega
  have:=JS hx;rw[vW hi] at this;show U _=U _;rw[this]⟩)
 rwa [i6] at this
end
end Go.Proofs.YtncdbjponknakaaGreatDoor
