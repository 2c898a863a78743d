/- Part 8 of the proof (its last part says what is proved). No condition. -/
import Derived.Test.YtgdlhckhpolnnaaGreatDoorK6
namespace Go.Proofs.YtgdlhckhpolnnaaGreatDoor
set_option maxRecDepth 100000
set_option maxHeartbeats 8000000
open Go.RowKit Go.Proofs.Tryz
section
open Go.RowKit Go.Shelf
attribute [local go_sem] lh qb xr ju nA nE nB nC ms rq nD wL pD
attribute [local go_sem] Oper.semAt_some
def MI (D:Nat):Deferred:= {target:=.collected D,args:=#[]}
theorem mj {P:Program}{F:Fence}{n:Nat}{fn:Func}{tmps:Array Value}{R:Ending→World→Prop}:∀(Ds:List Nat) (w:World),Ds.Nodup→(∀D∈Ds,w.heap[D]? =some (.deferred (some [])))→
 (∀w',aa (fun b=>b∉Ds) w w'→LeavesInM F n P fn tmps R [] .returning w')→LeavesInM F n P fn tmps R (Ds.map MI) .returning w
 | [],w,_,_,h=>h w kR
 |D::Ds,w,J,C,h=>by(
 have j:=List.nodup_cons.1 J;refine⟨by simp,.inl ⟨D,_,rfl,run_takeDeferred (C D (List.mem_cons_self ..)),mj Ds _ j.2 (fun E I=>?_) fun w' Y=>h w' ?_⟩⟩
 ·have o:E≠D:=fun e=>j.1 (e▸I)
  rw[World.putObj_heap_other o];exact C E (List.mem_cons_of_mem _ I)
 have k1:aa (fun b=>b∉D::Ds) w (w.putObj D (.deferred none)):=(aa.refl _ w).grown (grownBy_putObj' w D _) fun k e=>by cases e;exact .inl fun h=>h (List.mem_cons_self ..)
 exact k1.trans (Y.mono fun b hb h=>hb (List.mem_cons_of_mem _ h)))
theorem KeepsOthers.of_kept {W j:World}(h:aa All W j):KeepsOthers W j:=
 ⟨h.size,fun b _ o _=>(h.block b (mV.1 o).1 trivial).trans o⟩
theorem eq.of_kept {W j:World}(h:aa All W j):eq W j:=fun hl=>hl.keep h
theorem aa.put {S:Nat→Prop}{w W:World}(h:aa S w W){D:Nat}(j:¬S D∨w.heap.size≤D)(o:Obj):aa S w (W.putObj D o):=
 h.grown (grownBy_putObj' W D o) fun k e=>by cases e;exact j
theorem gL {β:Type}{B:Nat}{S:Nat→Prop}{wl:World}(hB:wl.heap.size≤B):OwnFrom B (fun(_:β) W=>aa S wl W):=by intro s W C row h j hr;exact h.grown j fun k o=>.inr (by have:=(hr k o).1;omega)
theorem iz {β:Type}{B:Nat}{g:Nat}{t:TypeId}{cs:β→Array Value}:OwnFrom B (fun(s:β) W=>al W g t (cs s)):=by intro s W J row h C hr;refine h.grown C fun e=>?_;obtain⟨_,o,j,I⟩:=hr g e.symm;unfold al at h;rw[h] at j;cases j;cases I
theorem mi {A B C:World}(h:eq A B)(k:eq B C):eq A C:=fun hl=>k (h hl)
theorem mh (B:Nat):∀(W:World) (l:Nat) (o j:Obj),B≤l→W.heap[l]? =some o→o.isCells=false→o.isWalk=false→eq W (W.putObj l j):=fun _ _ _ _ _ C I _=>Gb C I
theorem lx {S:Nat→Prop}{w:World}{A:Option Addr}{n c:Nat}{l:List (BitVec 64)}(h:nZ S w (.slice A n c) l){i:Nat}(hi:i<l.length):∃b o,A=some ⟨b,o,none⟩∧S b∧w.cell? ⟨b,o+i,none⟩=some (U (aJ l i)):=by obtain⟨a,cap,j,_,_,_,h⟩:=h;injection j with C R Y;subst C;obtain⟨b,o,c',e,I,J,rfl⟩:=h i _ (Hw hi);exact⟨b,o,e,I,J⟩
section
variable {P:Program} {w:World}
theorem pm (x:BitVec 64):(U x).cells= #[U x]:=rfl
theorem lU (t:TypeId)(x:BitVec 64):(Instr.box t (U x)).run P w=.ok (.pointer (some ⟨w.heap.size,0,none⟩)) (w.alloc (.cells #[U x] t)):=rfl
theorem jt (a:Addr)(x:BitVec 64)(m:Mode):(store a (U x) m).run P w=stored P w a (U x) m:=run_store P w a _ m rfl
end
theorem mU (x:BitVec 64)(cs:Array Value):(U x=.agg cs)=False:=eq_false (fun h=>by cases h)
attribute [local go_sem] pm lU jt mU List.getElem?_toArray List.getElem?_cons_zero
def Ip (up:List (BitVec 64))(set:BitVec 64)(pre:List (zD set)):Prop:=∀x∈pre,jB up set x.1=false
def KA (up:List (BitVec 64))(set:BitVec 64)(c:Code)(pre:List (zD set)):Prop:=c=.ret∧∃j x,pre=j++[x]∧(∀y∈j,jB up set y.1=false)∧jB up set x.1=true
theorem Dm (S:Nat→Prop)(v:Value)(up:List (BitVec 64))(set:BitVec 64)(w:World)(hv:nZ S w v up)(hl:gz w)(b5:∀k,k<64→set.getLsbD k=true→k<up.length):
 Calls prog 141 #[v,U set] w fun e w'=>e=.returned (.int .i64 (qan up set))∧aa All w w':=by
 have b6:=hv;obtain⟨A,cap,rfl,h1,h2,_,_⟩:=hv;unfold maxLen at h2;refine(callsIn_wide (n:=8)).1 ?_;refine callsIn_of_wp_marks func141 rfl trivial ?_ rfl;simp only[ntmps141,List.size_toArray,kI,List.length_nil,Nat.reduceAdd,Nat.reduceSub,Array.replicate_succ,Array.replicate_zero,List.push_toArray,List.append_toArray,mF,List.cons_append];rw[wpIn_wide];go_wp2_with fail;refine(qdi _ _).mono ?_;rintro e w' ⟨rfl,rfl⟩;go_wp2_with fail;obtain⟨wl,I⟩:=eQ ((((w.alloc (.cells #[.slice A up.length cap] 23)).alloc (.cells #[U set] 163)).alloc (.cells #[.int .i64 0] 3)).alloc (.cells #[U set] 163));have a8:=aA3 I;have b0:=aB2 I vI;have a1:=aB1 I aE2;have b1:=zo I aE3;have Y:=aC4 I;have c4:w.heap.size+4≤wl.heap.size:=by rw[I];simp
 rw[←I];clear I;have b7:=hl.keep Y
 refine wpIn_wide.1 (wpIn_rangeFunc_ownF (F:=Fence.wide) (n:=8) rfl (by omega) (gf:=223) (lb:=#[.pointer (some ⟨w.heap.size+1+1+1,0,none⟩)]) rfl trivial (enters_of func223 (by kernel_rfl) rfl)
  (qm 7 (by omega) set _ wl b7 b1) mi (mh _) (Below.refl _ _) (fun _=>rfl)
  (fun pre W=>Ip up set pre∧aa All wl W)
  (fun c pre W=>(KA up set c pre∧aa (fun b=>b≠w.heap.size+1+1) wl W)∧al W (w.heap.size+1+1) 3 #[.int .i64 ((pre.getLast?.map fun x=>x.1).getD 0:Nat)])
  (OwnFrom.and (ownFrom_pure _ _) (gL (cf _)))
  (fun c=>OwnFrom.and (OwnFrom.and (ownFrom_pure _ _) (gL (cf _))) iz)
  ⟨fun x hx=>by simp at hx,kR⟩
  (fun x=> {tmps:=#[.slice A up.length cap,U set,.pointer (some ⟨w.heap.size,0,none⟩),.pointer (some ⟨w.heap.size+1,0,none⟩),.pointer (some ⟨w.heap.size+1+1,0,none⟩),.int .i64 (x.1:Nat),U set,.func (.func 223) #[] #[.pointer (some ⟨w.heap.size+1+1+1,0,none⟩)],.int .i64 (x.1:Nat),undef,undef,undef,undef,undef,undef,undef,undef],defers:=[]}) ?assign ?body ?done ?stop)
 case assign=>intro l x W K hK;gi_wp2;exact hK
 case body=>(
 rintro l pre x W ⟨J,hk⟩ _;have c0:=b5 x.1 x.2.1 x.2.2;have hf:∀wn,aa All W wn→wn.cell? ⟨w.heap.size,0,none⟩=some (.slice A up.length cap)∧wn.cell? ⟨w.heap.size+1,0,none⟩=some (U set)∧∃b o,A=some ⟨b,o,none⟩∧wn.cell? ⟨b,o+x.1,none⟩=some (U (aJ up x.1)):=fun wn R=>by have a6:=hk.trans R;obtain⟨b,o,e,_,hc⟩:=lx (dU.keep (Y.trans a6).all b6) c0;exact⟨(a8.kept a6 trivial).cell 0,(b0.kept a6 trivial).cell 0,b,o,e,hc⟩
 obtain⟨_,_,ab,ao,rfl,_⟩:=hf W kR;have b4:∀wn,aa All W wn→wn.cell? ⟨w.heap.size,0,none⟩=some (.slice (some ⟨ab,ao,none⟩) up.length cap)∧wn.cell? ⟨w.heap.size+1,0,none⟩=some (U set)∧wn.cell? ⟨ab,ao+x.1,none⟩=some (U (aJ up x.1)):=fun wn R=>by obtain⟨g1,g2,b,o,e,hc⟩:=hf wn R;cases e;exact⟨g1,g2,hc⟩
 have C:=a1.kept hk trivial;have b8:jB up set x.1=(set&&& ~~~(aJ up x.1)==0#64):=by unfold jB;rw[x.2.2];rfl
 have HF:=J5 b4 hk J C b8;clear hf b4 hk J C b8 a8 b0 a1 b1 b7 b6 hl b5;gi_wp2;refine fJ (aa All W) [] (fun _ _ _=>True) (fun _=>none) (by kernel_rfl) (by kernel_rfl) (by kernel_rfl) (by kernel_rfl) (by kernel_rfl) kR.drew ?_;iterate 7 (refine OR (fun wn hk hp=>by(obtain⟨e1,e2,e3⟩:=HF.1 wn hk);go_simp;with_reducible rfl) ?_)
 refine dQ fun wn R _=>?_;have b3:=HF.2.1.trans R;have b2:=HF.2.2.2.1.kept R trivial;have c5:=b2.cl 0;have c6:=b2.free 0;have HN:=J3 R b3 b2;clear R b3 b2;cases hb:(set&&& ~~~(aJ up x.1)==0#64) with
 |true=>
  have HB:=oH hb;clear hb;gi_wp2;refine⟨(KeepsOthers.of_kept HN.1).trans (KeepsOthers.setCell _ _ _),⟨⟨rfl,pre,x,rfl,HF.2.2.1,by rw[HF.2.2.2.2];exact HB.out⟩,?_⟩,?_⟩;·exact HN.2.1.all.setCell (p:=⟨w.heap.size+1+1,0,none⟩) (.inl (by simp)) _
  have:=HN.2.2.set 0 (.int .i64 (x.1:Nat));simpa using this
 |false=>
  have HB:=oH hb;clear hb;gi_wp2;refine⟨KeepsOthers.of_kept HN.1,eq.of_kept HN.1,fun y hy=>?_,HN.2.1⟩;rcases eD.1 hy with hy|hy;·exact HF.2.2.1 y hy
  rw[cx.1 hy,HF.2.2.2.2];exact HB.out)
 case done=>(
 rintro D xs W hD hS ⟨J,hk⟩ hK;have C:=a1.kept hk trivial;have c7:=C.cl 0;have b4:=C.free 0;have hv:qan up set= -1:=by(
 refine jW fun j hj=>?_;cases hb:set.getLsbD j with
 |false=>unfold jB;rw[hb];rfl
 |true=>
  have hm:j∈xs.map Subtype.val:=by rw[hS];exact ko.2 ⟨hj,hb⟩
  obtain⟨x,hx,rfl⟩:=dr.1 hm;exact J x hx)
 have HV:=J4 hv C hk hK;clear hv J hS hk C hK a8 b0 a1 b1;go_wp2;have b9:=(KeepsOthers.setCell W ⟨w.heap.size+1+1,0,none⟩ (.int .i64 (-1))).same D _ HV.2.2.2 rfl;refine⟨by simp,.inl ⟨_,_,rfl,run_takeDeferred b9,?_⟩⟩;have a7:=cell_kept ((HV.2.1.set 0 (.int .i64 (-1))).cell 0) (grownBy_putObj' _ D (.deferred none)) (fun r e=>by cases e;exact⟨_,b9,rfl⟩);refine⟨.int .i64 (-1),?_,by rw[HV.1],((Y.trans HV.2.2.1).setCell (p:=⟨w.heap.size+1+1,0,none⟩) (.inr (by simp;omega)) _).put (.inr (by omega)) _⟩;simp at a7;simp[results,Tryz.f141,go_sem,a7])
 rintro D c pre W hD hS ⟨⟨⟨rfl,c1,x,rfl,J,hx⟩,hk⟩,hb⟩ hK;rw[wpIn_wide];have hv:qan up set=(x.1:Nat):=by(
 rw[ic] at hS;obtain⟨h1,h2⟩:=xP hS;refine lI x.2.1 hx fun j hj=>?_;cases hb:set.getLsbD j with
 |false=>unfold jB;rw[hb];rfl
 |true=>obtain⟨y,hy,rfl⟩:=dr.1 (h2 j hj hb);exact J y hy)
 have HV:=J4 hv hb hk hK;clear hv J hS hk hb hK a8 b0 a1 b1;go_wp2;refine⟨by simp,.inl ⟨_,_,rfl,run_takeDeferred HV.2.2.2,?_⟩⟩;have a7:=cell_kept (HV.2.1.cell 0) (grownBy_putObj' _ D (.deferred none)) (fun r e=>by cases e;exact⟨_,HV.2.2.2,rfl⟩);refine⟨.int .i64 (x.1:Nat),?_,by rw[HV.1],?_⟩
 ·simp at a7
  simp[results,Tryz.f141,go_sem,a7]
 refine aa.put ⟨HV.2.2.1.os.trans Y.os,HV.2.2.1.output.trans Y.output,fR Y.size HV.2.2.1.size,fun b hb _=>?_⟩ (.inr (by omega)) _;rw[HV.2.2.1.block b (by omega) (by omega)];exact Y.block b hb trivial
end
section
open Go.RowKit Go.Shelf
attribute [local go_sem] lh qb xr ju nA nE nB nC ms rq nD wL pD
attribute [local go_sem] Oper.semAt_some
attribute [local go_sem] pm lU jt mU List.getElem?_toArray List.getElem?_cons_zero
theorem Km:(prog.info? 163).map (fun i=>(i.zero,i.size,i.bytes))=some (some (.int .u64 0),1,8):=by kernel_rfl
def kM (N:Nat)(f:Nat→BitVec 64):Array Value:=dM N fun i=>U (f i)
theorem Jv (n:Nat)(R:n≤1048576)(w:World):(Instr.makeSlice 23 (.int .i64 n) (.int .i64 n)).run prog w=.ok (.slice (some ⟨w.heap.size,0,none⟩) n n) (w.alloc (.cells (kM n fun _=>0#64) 163)):=by
 obtain⟨i,hi,C,I,J⟩:=info_parts Km;rw[run_make (P:=prog) w 23 163 i (.int .u64 0) underlying23 hi C .i64 .i64 n n (by omega) (by omega) (by rw[J];omega) (by omega)];have e:madeCells (Value.int .u64 0).cells ((n:Int).toNat*i.size)=kM n fun _=>0#64:=by(
 rw[I,dP,Nat.mul_one];apply Array.ext_getElem?;intro j;by_cases o:j<n;·rw[kM,cq o];simp[madeCells,o,Value.cells,Nat.mod_one,U]
 rw[jK (by rw[size_madeCells];omega),jK (by rw[kM,ew];omega)])
 rw[e,dP]
theorem Co {N:Nat}{f:Nat→BitVec 64}{i:Nat}(h:i<N):(kM N f)[i]? =some (U (f i)):=cq h
def Ee (f:Nat→BitVec 64)(i:Nat)(x:BitVec 64):Nat→BitVec 64:=fun k=>if k=i then x else f k
theorem Hv {N:Nat}{f:Nat→BitVec 64}{i:Nat}{x:BitVec 64}:(kM N f).setIfInBounds i (U x)=kM N (Ee f i x):=by unfold kM;rw[jo];congr 1;funext k;unfold qd Ee;split<;>rfl
theorem oY {N:Nat}{f g:Nat→BitVec 64}(h:∀i,i<N→f i=g i):kM N f=kM N g:=by unfold kM dM;congr 1;exact List.map_congr_left fun i hi=>by rw[h i (fg.1 hi)]
structure Md (up:List (BitVec 64))(g:Nat)(wl:World)(k:Nat)(Ds:List Nat)(wr:World):Prop where
 nodup:Ds.Nodup
 marks:∀D∈Ds,wr.heap[D]? =some (.deferred (some []))
 far:∀D∈Ds,wl.heap.size≤D
 kept:aa (fun b=>b≠g) wl wr
 down:al wr g 163 (kM up.length (ow up k))
def ol (up:List (BitVec 64))(k:Nat)(pre:List Nat)(j:Nat):BitVec 64:=if j∈pre then ow up k j|||1#64<<<k else ow up k j
theorem Gg {up:List (BitVec 64)}{k:Nat}{pre:List Nat}(h:pre=dS (aJ up k) 64)(j:Nat)(C:j<64):ol up k pre j=ow up (k+1) j:=by
 unfold ol ow;rw[zt];by_cases o:(aJ up k).getLsbD j=true;·rw[ap o,ap (by rw[h];exact ko.2 ⟨C,o⟩)]
 rw[ae o,ae (fun hm=>o (by rw[h] at hm;exact(ko.1 hm).2))]
theorem Do {up:List (BitVec 64)}{k:Nat}{pre:List Nat}{x:Nat}(o:x∉pre)(N:Nat):kM N (Ee (ol up k pre) x (ol up k pre x|||1#64<<<k))=kM N (ol up k (pre++[x])):=by
 refine oY fun j _=>?_;unfold Ee;by_cases e:j=x;·subst e;rw[ap rfl];unfold ol;rw[ae o,ap (by simp)]
 rw[ae e];unfold ol;by_cases hm:j∈pre;·rw[ap hm,ap (by simp[hm])]
 rw[ae hm,ae (by simp[hm,e])]
theorem Gw (x y:BitVec 64):x|||y|||y=x|||y:=by rw[BitVec.or_assoc,BitVec.or_self]
theorem AE {up:List (BitVec 64)}{k:Nat}{pre:List Nat}{x:Nat}(N:Nat):kM N (Ee (ol up k pre) x (ol up k pre x|||1#64<<<k))=kM N (ol up k (pre++[x])):=by
 by_cases o:x∈pre
 ·refine oY fun j _=>?_;unfold Ee;by_cases e:j=x;·subst e;rw[ap rfl];unfold ol;rw[ap o,ap (by simp),Gw]
  rw[ae e];unfold ol;by_cases hm:j∈pre;·rw[ap hm,ap (by simp[hm])]
  rw[ae hm,ae (by simp[hm,e])]
 exact Do o N
theorem nl {g:Nat}{W j:World}(o:aa (fun b=>b≠g) W j)(C:g≠4)(h1:g≠3):eq W j:=fun h=>
 ⟨fun i hi=>o.cell (p:=⟨4,i,none⟩) (fun e=>C e.symm) (h.1 i hi),fun i hi=>o.cell (p:=⟨3,i,none⟩) (fun e=>h1 e.symm) (h.2 i hi)⟩
theorem Js {w:World}(h:gz w):4<w.heap.size∧3<w.heap.size:=
 ⟨jy w _ (h.1 0 (by decide)),jy w _ (h.2 0 (by decide))⟩
theorem Bu (S:Nat→Prop)(v:Value)(up:List (BitVec 64))(w:World)(hv:nZ S w v up)(hl:gz w)(j8:up.length≤64)(d9:∀i,i<up.length→∀k,k<64→(aJ up i).getLsbD k=true→k<up.length):
 Calls prog 142 #[v] w fun e w'=>∃u,e=.returned u∧aa All w w'∧nZ (fun b=>w.heap.size≤b) w' u (dE up):=by
 have e0:=hv;obtain⟨A,cap,rfl,h1,h2,_,_⟩:=hv;unfold maxLen at h2;have h9:=Jv up.length (by omega);refine(callsIn_wide (n:=8)).1 ?_;refine callsIn_of_wp_marks func142 rfl trivial ?_ rfl;simp only[ntmps142,List.size_toArray,kI,List.length_nil,Nat.reduceAdd,Nat.reduceSub,Array.replicate_succ,Array.replicate_zero,List.push_toArray,List.append_toArray,mF,List.cons_append];rw[wpIn_wide];go_wp2_with fail;obtain⟨wl,a7⟩:=eQ ((w.alloc (.cells (kM up.length fun _=>0#64) 163)).alloc (.cells #[.slice (some ⟨w.heap.size,0,none⟩) up.length up.length] 23));have e1:al wl w.heap.size 163 (kM up.length fun _=>0#64):=by rw[a7];exact(al.new _ _ _).alloc _
 have e2:=zo a7 vI;have b4:=zy a7;have j9:=aD2 a7;rw[←a7];clear a7 h9;have e3:=hl.keep b4;have b3:=Js hl;have I:=J8 e0 hl d9 e1 e2 b4 e3 b3;clear e0 hl d9 e1 e2 b4 e3 b3;refine wp_loop_ghost_k (fun gg a wr=>∃(k:Nat) (Ds:List Nat) (x4 x5 e4 e5 e6 e7 e8 e9 h0 h3 b5 b6 b7 b8 b9 c0 c1 c6 c7 c8:Value),a= {tmps:=#[.slice A up.length cap,undef,.slice none 0 0,.pointer (some ⟨w.heap.size+1,0,none⟩),x4,x5,.slice A up.length cap,.int .i64 up.length,.slice (some ⟨w.heap.size,0,none⟩) up.length up.length,.slice A up.length cap,.int .i64 up.length,.int .i64 k,e4,e5,e6,e7,e8,e9,h0,h3,b5,b6,b7,b8,b9,c0,c1,c6,c7,c8,undef],defers:=Ds.map MI}∧k≤up.length∧gg=up.length-k∧Md up w.heap.size wl k Ds wr) up.length ?start ?round
 case start=>exact⟨0,[],undef,undef,undef,undef,undef,undef,undef,undef,undef,undef,undef,undef,undef,undef,undef,undef,undef,undef,undef,undef,rfl,by omega,by omega,List.nodup_nil,(fun D h=>by simp at h),(fun D h=>by simp at h),kR,I.2.2.2.1⟩
 rintro gg a wr ⟨k,Ds,x4,x5,e4,e5,e6,e7,e8,e9,h0,h3,b5,b6,b7,b8,b9,c0,c1,c6,c7,c8,rfl,hk,rfl,hinv⟩ J K hJ hK;have C:=oH hinv;clear hinv;by_cases b2:k<up.length;·(
 obtain⟨b,o,rfl,_,hc⟩:=lx (dU.keep (S:=S) (I.2.2.2.2.2.1.all) I.1) b2;have j0:wr.cell? ⟨b,o+k,none⟩=some (U (aJ up k)):=by have j1:=jy wl _ hc;refine C.out.kept.cell (p:=⟨b,o+k,none⟩) ?_ hc;rintro rfl;have:=(I.2.2.2.1).cell (o+k);obtain⟨b',o',e,_,j2⟩:=lx I.1 b2;cases e;have:=jy w _ j2;simp only at this;omega
 have j1:b<wr.heap.size:=jy wr _ j0;go_wp2_with fail;refine(qdi _ _).mono ?_;rintro e w' ⟨rfl,rfl⟩;go_wp2_with fail;have h4:=I.2.2.2.2.2.1.all.trans C.out.kept;have c9:gz wr:=nl C.out.kept (by have:=I.2.2.2.2.2.2.2;omega) (by have:=I.2.2.2.2.2.2.2;omega) I.2.2.2.2.2.2.1;obtain⟨w1,a8⟩:=eQ ((wr.alloc (.cells #[.int .i64 k] 3)).alloc (.cells #[U (aJ up k)] 163));have d7:=aA1 a8;have d8:=zo a8 vI;have R:=zy a8;have j7:=aD2 a8;rw[←a8];clear a8;have b0:=c9.keep R;have k0:=C.out.kept.size;have h5:∀D∈Ds,D<wr.heap.size:=fun D hD=>(mV.1 (C.out.marks D hD)).1
 refine wpIn_wide.1 (wpIn_rangeFunc_ownF (F:=Fence.wide) (n:=8) rfl (by omega) (gf:=223) (lb:=#[.pointer (some ⟨wr.heap.size+1,0,none⟩)]) rfl trivial (enters_of func223 (by kernel_rfl) rfl)
  (qm 7 (by omega) (aJ up k) _ w1 b0 d8) mi (mh _) (Below.refl _ _) (fun _=>rfl)
  (fun pre W=>aa (fun b=>b≠w.heap.size) w1 W∧al W w.heap.size 163 (kM up.length (ol up k (pre.map Subtype.val))))
  (fun _ _ _=>False)
  (OwnFrom.and (gL (cf _)) iz)
  (fun _=>fun _ _ _ _ h _ _=>h)
  ⟨kR,C.out.down.kept R trivial⟩
  (fun x=> {tmps:=#[.slice (some ⟨b,o,none⟩) up.length cap,undef,.slice none 0 0,.pointer (some ⟨w.heap.size+1,0,none⟩),.pointer (some ⟨wr.heap.size,0,none⟩),.int .i64 (x.1:Nat),.slice (some ⟨b,o,none⟩) up.length cap,.int .i64 up.length,.slice (some ⟨w.heap.size,0,none⟩) up.length up.length,.slice (some ⟨b,o,none⟩) up.length cap,.int .i64 up.length,.int .i64 k,.bool true,.int .i64 k,.slice (some ⟨b,o,none⟩) up.length cap,.int .i64 k,.pointer (some ⟨b,o+k,none⟩),U (aJ up k),.func (.func 223) #[] #[.pointer (some ⟨wr.heap.size+1,0,none⟩)],.int .i64 (x.1:Nat),b5,b6,b7,b8,b9,c0,c1,c6,c7,c8,undef],defers:=[]}) ?assign ?body ?done ?stop)
 case assign=>intro l x W K hK;gi_wp2;exact hK
 case stop=>rintro D c pre W _ _ h _;exact h.elim
 case body=>(
 rintro l pre x W ⟨Y,a6⟩ _;have j3:=I.2.2.1 k b2 x.1 x.2.1 x.2.2;have k1:w.heap.size+1<wl.heap.size:=by omega
 have c3:W.cell? ⟨w.heap.size+1,0,none⟩=some (.slice (some ⟨w.heap.size,0,none⟩) up.length up.length):=
  ((((I.2.2.2.2.1).kept C.out.kept (by simp)).kept R trivial).kept Y (by simp)).cell 0
 have c4:W.cell? ⟨wr.heap.size,0,none⟩=some (.int .i64 k):=(d7.kept Y (by omega)).cell 0;have c5:=a6.cell x.1;have f5:=a6.free x.1;rw[Co j3] at c5;have b1:=fun W=>Dq (ol up k (pre.map Subtype.val) x.1) k (by omega) W;have HB:=J3 Y a6 b1;clear Y a6 b1 c9 h4 b0 d7 d8;generalize h6:ol up k (pre.map Subtype.val) x.1=mm at*;have HM:=oH h6;clear h6;gi_wp2;refine mv 9 (by kernel_rfl) (by kernel_rfl) (by kernel_rfl) ?j4 ?_
 case j4=>rintro⟨a,w,h⟩;exact h
 simp only[List.take_succ_cons,List.take_zero,List.drop_succ_cons,List.drop_zero];iterate 7 still_step
 still_call ((HB.2.2 _).mono fun _ _ h=>⟨h.1,h.2.symm⟩)
 still_step
 refine wpStill_nil ?_;go_wp2;have h7:aa (fun b=>b≠w.heap.size) W (W.setCell ⟨w.heap.size,x.1,none⟩ (U (mm|||1#64<<<k))).drew:=((aa.refl _ W).setCell (p:=⟨w.heap.size,x.1,none⟩) (.inl (by simp)) _).drew;refine⟨(KeepsOthers.setCell _ _ _).trans (KeepsOthers.drew _),nl h7 (by have:=I.2.2.2.2.2.2.2;omega) (by have:=I.2.2.2.2.2.2.2;omega),HB.1.trans h7,?_⟩;have h1:=(HB.2.1.set x.1 (U (mm|||1#64<<<k))).drew;rw[Hv,←HM.out,AE] at h1;rw[←HM.out,ic];exact h1)
 rintro D xs W hD hS ⟨Y,a6⟩ h8;have hinv:Md up w.heap.size wl (k+1) (D::Ds) W:=by(
 have j5:∀E∈Ds,E≠w.heap.size:=fun E hE=>by have:=C.out.far E hE;omega
 refine⟨List.nodup_cons.2 ⟨fun h=>by have:=h5 D h;omega,C.out.nodup⟩,fun E hE=>?_,fun E hE=>?_,?_,?_⟩
 ·rcases fX.1 hE with rfl|hE;·exact h8
  have h1:=h5 E hE;rw[Y.block E (by omega) (j5 E hE),R.block E h1 trivial];exact C.out.marks E hE
 ·rcases fX.1 hE with rfl|hE
  ·omega
  exact C.out.far E hE
 ·exact(C.out.kept.trans R.all).trans Y
 have e:kM up.length (ol up k (xs.map Subtype.val))=kM up.length (ow up (k+1)):=oY fun j hj=>Gg hS j (by omega);rw[←e];exact a6)
 have HV:=oH hinv;clear hinv hS Y a6 h8 c9 h4 b0 d7 d8;go_wp2;exact Handed.intro (up.length-(k+1)) (by omega) (hJ _ _ _ ⟨k+1,D::Ds,_,_,_,_,_,_,_,_,_,_,_,_,_,_,_,_,_,_,_,_,rfl,by omega,rfl,HV.out⟩))
 obtain rfl:k=up.length:=by omega
 have c3:wr.cell? ⟨w.heap.size+1,0,none⟩=some (.slice (some ⟨w.heap.size,0,none⟩) up.length up.length):=((I.2.2.2.2.1).kept C.out.kept (by simp)).cell 0;clear b2 hk;go_wp2;refine mj Ds _ C.out.nodup C.out.marks fun w' a1=>⟨_,results_tmp rfl _ _ _,_,rfl,?_,?_⟩;·have h1:aa All w wr:=⟨C.out.kept.os.trans I.2.2.2.2.2.1.os,C.out.kept.output.trans I.2.2.2.2.2.1.output,fR I.2.2.2.2.2.1.size C.out.kept.size,fun b hb _=>by rw[C.out.kept.block b (by omega) (by omega)];exact I.2.2.2.2.2.1.block b hb trivial⟩;exact⟨a1.os.trans h1.os,a1.output.trans h1.output,fR h1.size a1.size,fun b hb _=>by rw[a1.block b (Nat.lt_of_lt_of_le hb h1.size) (fun hm=>by have:=C.out.far b hm;omega)];exact h1.block b hb trivial⟩
 have hd:al w' w.heap.size 163 (kM up.length (ow up up.length)):=C.out.down.kept a1 (fun hm=>by have:=C.out.far _ hm;omega);have j6:=kF up;have:=Sl.of_blk (bw:=8) (E:=Cz) (S:=fun b=>w.heap.size≤b) (l:=dE up) (cap:=up.length) hd (cf _) (by omega) (by unfold maxLen;omega) (by omega) (fun i x hx=>⟨_,Co (by have:=(lS.1 hx).1;omega),by
  have hi:i<up.length:=by have:=(lS.1 hx).1;omega
  have:=JS hx;rw[vW hi] at this;show U _=U _;rw[this]⟩)
 rwa [j6] at this
end
section
open Go.RowKit Go.Shelf
attribute [local go_sem] lh qb xr ju nA nE nB nC ms rq nD wL pD
attribute [local go_sem] Oper.semAt_some
attribute [local go_sem] pm lU jt mU List.getElem?_toArray List.getElem?_cons_zero
def qN (up:List (BitVec 64))(i k:Nat):Prop:=(k≠i→(aJ up k).getLsbD i=false)∧aJ up k&&& ~~~(aJ up i)=0#64
def uC (up:List (BitVec 64))(i:Nat):Prop:=(aJ up i).getLsbD i=true∧(∀k,k<64→(aJ up i).getLsbD k=true→k<up.length)∧∀k,k<64→(aJ up i).getLsbD k=true→qN up i k
theorem fL {up:List (BitVec 64)}:dI up↔1≤up.length∧up.length≤64∧∀i,i<up.length→uC up i:=by
 constructor
 ·rintro⟨h1,C,h⟩
  exact⟨h1,C,fun i hi=>⟨(h i hi).1,fun k j o=>((h i hi).2 k j o).1,fun k j o=>((h i hi).2 k j o).2⟩⟩
 rintro⟨h1,C,h⟩;exact⟨h1,C,fun i hi=>⟨(h i hi).1,fun k j o=>⟨(h i hi).2.1 k j o,(h i hi).2.2 k j o⟩⟩⟩
theorem Ce {m:BitVec 64}{n:Nat}:m&&& ~~~(oU n)=0#64↔∀k,k<64→m.getLsbD k=true→k<n:=by
 rw[pZ];refine⟨fun h k j o=>?_,fun h k j o=>?_⟩
 ·have:=h k j o
  rw[yD n k j] at this;exact of_decide_eq_true this
 rw[yD n k j];exact bL (h k j o)
def Ii (up:List (BitVec 64))(i:Nat)(pre:List (zD (aJ up i))):Prop:=∀x∈pre,qN up i x.1
def Ma (up:List (BitVec 64))(c:Code):Prop:=c=.ret∧¬dI up
structure LZ (up:List (BitVec 64))(wl:World)(k:Nat)(Ds:List Nat)(wr:World):Prop where
 nodup:Ds.Nodup
 marks:∀D∈Ds,wr.heap[D]? =some (.deferred (some []))
 far:∀D∈Ds,wl.heap.size≤D
 kept:aa All wl wr
 good:∀i,i<k→uC up i
theorem ld {up:List (BitVec 64)}{w wl W:World}{Ds:List Nat}{tmps:Array Value}{b:Bool}(h1:Ds.Nodup)(R:∀D∈Ds,W.heap[D]? =some (.deferred (some [])))(J:∀D∈Ds,wl.heap.size≤D)(o:aa All w wl)(Y:wl.heap.size=w.heap.size+2)
 (C:aa (fun c=>c≠w.heap.size+1) wl W) (hb:al W (w.heap.size+1) 4 #[.bool b]) (ht:tmps[2]? =some (.pointer (some ⟨w.heap.size+1,0,none⟩))) (hv:pB (dI up)=b):
 LeavesInM Fence.wide 8 prog Tryz.f139 tmps (fun e w'=>e=.returned (.bool (pB (dI up)))∧aa All w w') (Ds.map MI) .returning W:=by
 refine mj Ds _ h1 R fun w' j=>?_;have I:=(hb.kept j (fun hm=>by have:=J _ hm;omega)).cl 0;refine⟨.bool b,?_,by rw[hv],j.os.trans (C.os.trans o.os),j.output.trans (C.output.trans o.output),fR o.size (fR C.size j.size),fun c I _=>?_⟩;·simp[results,Tryz.f139,go_sem,I,ht]
 have:=C.size;rw[j.block c (by omega) (fun hm=>by have:=J _ hm;omega),C.block c (by omega) (by omega)];exact o.block c I trivial
theorem DC (S:Nat→Prop)(v:Value)(up:List (BitVec 64))(w:World)(hv:nZ S w v up)(hl:gz w):
 Calls prog 139 #[v] w fun e w'=>e=.returned (.bool (pB (dI up)))∧aa All w w':=by
 have e7:=hv;obtain⟨A,cap,rfl,h1,h2,_,_⟩:=hv;unfold maxLen at h2;refine(callsIn_wide (n:=8)).1 ?_;refine callsIn_of_wp_marks func139 rfl trivial ?_ rfl;simp only[ntmps139,List.size_toArray,kI,List.length_nil,Nat.reduceAdd,Nat.reduceSub,Array.replicate_succ,Array.replicate_zero,List.push_toArray,List.append_toArray,mF,List.cons_append];rw[wpIn_wide];by_cases hn:up.length<1∨64<up.length
 ·have b0:=oH (au (P:=dI up) fun h=>by have:=h.1;have:=h.2.1;omega);have hr:decide ((up.length:Int)<1)=true∨(decide ((up.length:Int)<1)=false∧decide ((64:Int)<up.length)=true):=by simp only[qal,decide_eq_false_iff_not];omega
  clear hn e7 hl;rcases hr with hr|⟨hr,o4⟩
  all_goals
   go_wp2;refine⟨.bool false,?_,by rw[b0.out],((aa.refl All w).alloc _).alloc _⟩;simp[results,Tryz.f139,go_sem]
 have hr:decide ((up.length:Int)<1)=false:=by simp;omega
 have o4:decide ((64:Int)<up.length)=false:=by simp;omega
 have k6:up.length≤64:=by omega
 have k7:1≤up.length:=by omega
 have b5:=fun W=>AD up.length k6 W;have o5:=oH b5;clear b5 hn;go_wp2_with (go_at_call 193;refine(o5.out _).mono ?_;rintro e w' ⟨rfl,rfl⟩);obtain⟨wl,b7⟩:=eQ ((w.alloc (.cells #[.slice A up.length cap] 23)).alloc (.cells #[.bool false] 4));have k8:=aA1 b7;have a7:=zo b7 vI;have e8:=zy b7;have d9:=aD2 b7;rw[←b7];clear b7;have k9:=hl.keep e8;have HL:=J5 e7 k8 a7 e8 k9;clear e7 hl k8 a7 e8 k9;refine wp_loop_ghost_k (fun gg a wr=>∃(k:Nat) (Ds:List Nat) (x4 x5 x6 l0 l1 l2 l3 l4 l5 l6 l7 l8 l9 m9 n0 n1 n2 n3 n4 n5 e9 h0 h3 h4 h5 h6 h7 h8 h9 j0 j1 j2 j3 j4 j5 j6 j7 j8 j9 k0 k1:Value),a= {tmps:=#[.slice A up.length cap,.pointer (some ⟨w.heap.size,0,none⟩),.pointer (some ⟨w.heap.size+1,0,none⟩),U (oU up.length),x4,x5,x6,.slice A up.length cap,.int .i64 up.length,.bool false,.bool false,.slice A up.length cap,.int .i64 up.length,.bool false,.bool false,.slice A up.length cap,.int .i64 up.length,U (oU up.length),.slice A up.length cap,.int .i64 up.length,.int .i64 k,l0,l1,l2,l3,l4,l5,l6,l7,l8,l9,m9,n0,n1,n2,n3,n4,n5,e9,h0,h3,h4,h5,h6,h7,h8,h9,j0,j1,j2,j3,j4,j5,j6,j7,j8,j9,k0,k1],defers:=Ds.map MI}∧k≤up.length∧gg=up.length-k∧LZ up wl k Ds wr) up.length ?start ?round
 case start=>exact⟨0,[],undef,undef,undef,undef,undef,undef,undef,undef,undef,undef,undef,undef,undef,undef,undef,undef,undef,undef,undef,undef,undef,undef,undef,undef,undef,undef,undef,undef,undef,undef,undef,undef,undef,undef,undef,undef,undef,undef,undef,undef,undef,rfl,by omega,by omega,List.nodup_nil,(fun D h=>by simp at h),(fun D h=>by simp at h),kR,fun i hi=>by omega⟩
 rintro gg a wr ⟨k,Ds,x4,x5,x6,l0,l1,l2,l3,l4,l5,l6,l7,l8,l9,m9,n0,n1,n2,n3,n4,n5,e9,h0,h3,h4,h5,h6,h7,h8,h9,j0,j1,j2,j3,j4,j5,j6,j7,j8,j9,k0,k1,rfl,hk,rfl,hinv⟩ J K hJ hK;have R:=oH hinv;have c1:=(HL.2.1.kept hinv.kept trivial).cl 0;have c4:=(HL.2.2.1.kept hinv.kept trivial).cl 0;have c5:=(HL.2.2.1.kept hinv.kept trivial).free 0;have p0:w.heap.size<wr.heap.size:=by have:=hinv.kept.size;omega
 have p1:w.heap.size+1<wr.heap.size:=by have:=hinv.kept.size;omega
 clear hinv;by_cases b8:k<up.length;·(
 obtain⟨b,o,rfl,_,hc⟩:=lx (dU.keep (S:=S) ((HL.2.2.2.1.trans R.out.kept).all) HL.1) b8;have p2:b<wr.heap.size:=jy wr _ hc;have a8:=fun W=>yJ (aJ up k) k (by omega) W;cases a7:(aJ up k).getLsbD k with
 |false=>
  rw[a7] at a8;have HH:=oH a8;have b0:=oH (au (P:=dI up) fun h=>by have:=(fL.1 h).2.2 k b8;rw[uC,a7] at this;exact oG this.1);clear a8 a7;go_wp2_with (go_at_call 75;refine(HH.out _).mono ?_;rintro e w' ⟨rfl,rfl⟩);refine ld (wl:=wl) R.out.nodup (fun D hD=>?_) R.out.far HL.2.2.2.1 d9 ?_ ?_ rfl b0.out;·have h1:=R.out.marks D hD;have h2:=R.out.far D hD;exact((((aa.refl (fun c=>c≠w.heap.size+1) wr).setCell (p:=⟨w.heap.size+1,0,none⟩) (.inl (by simp)) (.bool false)).alloc (.cells #[.int .i64 k] 3)).alloc (.cells #[U (aJ up k)] 163)).block D (mV.1 h1).1 (by omega)|>.trans h1
  ·exact((R.out.kept.all.setCell (p:=⟨w.heap.size+1,0,none⟩) (.inl (by simp)) _).alloc _).alloc _
  have:=(((HL.2.2.1.kept R.out.kept trivial).set 0 (.bool false)).alloc (.cells #[.int .i64 k] 3)).alloc (.cells #[U (aJ up k)] 163);simpa using this
 |true=>
  rw[a7] at a8;have HH:=oH a8;clear a8;cases b9:(aJ up k&&& ~~~oU up.length !=0#64) with
  |true=>
   have b0:=oH (au (P:=dI up) fun h=>by have h2:=(fL.1 h).2.2 k b8;have:=Ce.2 h2.2.1;rw[this] at b9;simp at b9);clear a7;go_wp2_with (go_at_call 75;refine(HH.out _).mono ?_;rintro e w' ⟨rfl,rfl⟩);refine ld (wl:=wl) R.out.nodup (fun D hD=>?_) R.out.far HL.2.2.2.1 d9 ?_ ?_ rfl b0.out;·have h1:=R.out.marks D hD;have h2:=R.out.far D hD;exact((((aa.refl (fun c=>c≠w.heap.size+1) wr).setCell (p:=⟨w.heap.size+1,0,none⟩) (.inl (by simp)) (.bool false)).alloc (.cells #[.int .i64 k] 3)).alloc (.cells #[U (aJ up k)] 163)).block D (mV.1 h1).1 (by omega)|>.trans h1
   ·exact((R.out.kept.all.setCell (p:=⟨w.heap.size+1,0,none⟩) (.inl (by simp)) _).alloc _).alloc _
   have:=(((HL.2.2.1.kept R.out.kept trivial).set 0 (.bool false)).alloc (.cells #[.int .i64 k] 3)).alloc (.cells #[U (aJ up k)] 163);simpa using this
  |false=>
   have n7:∀j,j<64→(aJ up k).getLsbD j=true→j<up.length:=Ce.1 (by simpa using b9);have k2:=J2 n7 a7;clear n7 a7;go_wp2_with (first|(go_at_call 75;refine(HH.out _).mono ?_;rintro e w' ⟨rfl,rfl⟩)|(go_at_call 194;refine(qdi _ _).mono ?_;rintro e w' ⟨rfl,rfl⟩));obtain⟨w1,b3⟩:=eQ (((wr.alloc (.cells #[.int .i64 k] 3)).alloc (.cells #[U (aJ up k)] 163)).alloc (.cells #[U (aJ up k)] 163));have n8:=aA2 b3;have n9:=aB1 b3 vI;have e0:=zo b3 aE2;have c6:=aC3 b3;have o9:=aD3 b3;rw[←b3];clear b3;have b6:gz w1:=HL.2.2.2.2.keep (R.out.kept.trans c6);have o0:∀D∈Ds,D<wr.heap.size:=fun D hD=>(mV.1 (R.out.marks D hD)).1;have HA:=J4 n8 n9 c6 o0;clear n8 n9 c6 o0
   refine wpIn_wide.1 (wpIn_rangeFunc_ownF (F:=Fence.wide) (n:=8) rfl (by omega) (gf:=223) (lb:=#[.pointer (some ⟨wr.heap.size+1+1,0,none⟩)]) rfl trivial (enters_of func223 (by kernel_rfl) rfl)
    (qm 7 (by omega) (aJ up k) _ w1 b6 e0) mi (mh _) (Below.refl _ _) (fun _=>rfl)
    (fun pre W=>Ii up k pre∧aa All w1 W)
    (fun c _ W=>(Ma up c∧aa (fun b=>b≠w.heap.size+1) w1 W)∧al W (w.heap.size+1) 4 #[.bool false])
    (OwnFrom.and (ownFrom_pure _ _) (gL (cf _)))
    (fun c=>OwnFrom.and (OwnFrom.and (ownFrom_pure _ _) (gL (cf _))) iz)
    ⟨fun x hx=>by simp at hx,kR⟩
    (fun x=> {tmps:=#[.slice (some ⟨b,o,none⟩) up.length cap,.pointer (some ⟨w.heap.size,0,none⟩),.pointer (some ⟨w.heap.size+1,0,none⟩),U (oU up.length),.pointer (some ⟨wr.heap.size,0,none⟩),.pointer (some ⟨wr.heap.size+1,0,none⟩),.int .i64 (x.1:Nat),.slice (some ⟨b,o,none⟩) up.length cap,.int .i64 up.length,.bool false,.bool false,.slice (some ⟨b,o,none⟩) up.length cap,.int .i64 up.length,.bool false,.bool false,.slice (some ⟨b,o,none⟩) up.length cap,.int .i64 up.length,U (oU up.length),.slice (some ⟨b,o,none⟩) up.length cap,.int .i64 up.length,.int .i64 k,.bool true,.int .i64 k,.pointer (some ⟨b,o+k,none⟩),U (aJ up k),U (aJ up k),.int .i64 k,.bool true,.bool false,.bool false,U (aJ up k),U (oU up.length),U (aJ up k&&& ~~~oU up.length),.bool false,.bool false,U (aJ up k),.func (.func 223) #[] #[.pointer (some ⟨wr.heap.size+1+1,0,none⟩)],.int .i64 (x.1:Nat),e9,h0,h3,h4,h5,h6,h7,h8,h9,j0,j1,j2,j3,j4,j5,j6,j7,j8,j9,k0,k1],defers:=[]}) ?assign ?body ?done ?stop)
   case assign=>(intro l x W K hK;gi_wp2;exact hK)
   case stop=>(
 rintro D c pre W hD _ ⟨⟨⟨rfl,o1⟩,a6⟩,c7⟩ c8;rw[wpIn_wide];have o2:=R.out.kept.all.trans (HA.2.2.1.all.trans a6);have HV:=J5 o1 c7 a6 c8 o2;clear o1 c7 a6 c8 o2 e0 b6 c1 c4 c5 b9;go_wp2;refine ld (Ds:=D::Ds) (wl:=wl) (List.nodup_cons.2 ⟨fun h=>by have:=HA.2.2.2 D h;omega,R.out.nodup⟩) (fun E hE=>?_) (fun E hE=>?_) HL.2.2.2.1 d9 HV.2.2.2.2 HV.2.1 rfl (au HV.1)
 ·rcases fX.1 hE with rfl|hE;·exact HV.2.2.2.1
  have h1:=HA.2.2.2 E hE;have h2:=R.out.far E hE;rw[HV.2.2.1.block E (by omega) (by omega),HA.2.2.1.block E h1 trivial];exact R.out.marks E hE
 rcases fX.1 hE with rfl|hE;·have:=R.out.kept.size;omega
 exact R.out.far E hE)
   case done=>(
 rintro D xs W hD hS ⟨b1,a6⟩ c8;have hinv:LZ up wl (k+1) (D::Ds) W:=by(
 refine⟨List.nodup_cons.2 ⟨fun h=>by have:=HA.2.2.2 D h;omega,R.out.nodup⟩,fun E hE=>?_,fun E hE=>?_,R.out.kept.trans (HA.2.2.1.trans a6),fun i hi=>?_⟩
 ·rcases fX.1 hE with rfl|hE;·exact c8
  have h1:=HA.2.2.2 E hE;rw[a6.block E (by omega) trivial,HA.2.2.1.block E h1 trivial];exact R.out.marks E hE
 ·rcases fX.1 hE with rfl|hE
  ·have:=R.out.kept.size;omega
  exact R.out.far E hE
 by_cases e:i=k
 ·subst e;refine⟨k2.2,k2.1,fun j hj hb=>?_⟩;have hm:j∈xs.map Subtype.val:=by rw[hS];exact ko.2 ⟨hj,hb⟩
  obtain⟨x,hx,rfl⟩:=dr.1 hm;exact b1 x hx
 exact R.out.good i (by omega))
 have HV:=oH hinv;clear hinv hS a6 b1 c8 b6 e0 c1 c4 c5 b9;go_wp2;exact Handed.intro (up.length-(k+1)) (by omega) (hJ _ _ _ ⟨k+1,D::Ds,_,_,_,_,_,_,_,_,_,_,_,_,_,_,_,_,_,_,_,_,_,_,_,_,_,_,_,_,_,_,_,_,_,_,_,_,_,_,_,_,_,rfl,by omega,rfl,HV.out⟩))
   rintro l pre x W ⟨b1,a6⟩ _;have o6:=k2.1 x.1 x.2.1 x.2.2;have c9:∀wn,aa All W wn→wn.cell? ⟨w.heap.size,0,none⟩=some (.slice (some ⟨b,o,none⟩) up.length cap)∧wn.cell? ⟨wr.heap.size,0,none⟩=some (.int .i64 k)∧wn.cell? ⟨wr.heap.size+1,0,none⟩=some (U (aJ up k))∧wn.cell? ⟨b,o+x.1,none⟩=some (U (aJ up x.1))∧True:=fun wn C=>by have d7:=a6.trans C;have o3:=R.out.kept.trans (HA.2.2.1.trans d7);obtain⟨b',o',e,_,o7⟩:=lx (dU.keep (S:=S) ((HL.2.2.2.1.trans o3).all) HL.1) o6;cases e;exact⟨(HL.2.1.kept o3 trivial).cell 0,(HA.1.kept d7 trivial).cell 0,(HA.2.1.kept d7 trivial).cell 0,o7,trivial⟩
   have c7:=HL.2.2.1.kept (R.out.kept.trans (HA.2.2.1.trans a6)) trivial;have HF:=J4 c9 a6 b1 c7;have Y:=fun W=>yJ (aJ up x.1) k (by omega) W;have e6:((x.1:Int)==(k:Int))=decide (x.1=k):=by rw[Bool.eq_iff_iff,cy,qal];omega
   clear c9 a6 b1 c7 e0 b6 c1 c4 c5 b9 hc;cases k3:(aJ up x.1&&& ~~~(aJ up k) !=0#64) with
   |true=>
    have b0:Hid (¬dI up):=oH fun h=>by have h2:=(((fL.1 h).2.2 k b8).2.2 x.1 x.2.1 x.2.2).2;rw[h2] at k3;simp at k3
    clear Y e6;gi_wp2;refine fJ (aa All W) [] (fun _ _ _=>True) (fun _=>none) (by kernel_rfl) (by kernel_rfl) (by kernel_rfl) (by kernel_rfl) (by kernel_rfl) kR.drew ?_;iterate 8 (refine OR (fun wn hk hp=>by(obtain⟨e1,e2,e3,e4,e5⟩:=HF.1 wn hk;go_simp;with_reducible rfl)) ?_)
    iterate 11 (refine jf (by rfl) (by intro d hd;cases hd;decide) ?_;simp only[PS])
    iterate 1 (refine OR (fun wn hk hp=>by(obtain⟨e1,e2,e3,e4,e5⟩:=HF.1 wn hk;go_simp;with_reducible rfl)) ?_)
    refine dQ fun wn C _=>?_;have a1:=HF.2.1.trans C;have I:=HF.2.2.2.kept C trivial;have k4:=I.cl 0;have k5:=I.free 0;have HN:=J3 C a1 I;clear C a1 I;gi_wp2;refine⟨(KeepsOthers.of_kept HN.1).trans (KeepsOthers.setCell _ _ _),⟨⟨rfl,b0.out⟩,HN.2.1.all.setCell (p:=⟨w.heap.size+1,0,none⟩) (.inl (by simp)) _⟩,?_⟩;have:=HN.2.2.set 0 (.bool false);simpa using this
   |false=>
    have b2:aJ up x.1&&& ~~~(aJ up k)=0#64:=by simpa using k3
    by_cases c0:x.1=k;·(
 have o8:((x.1:Int) !=(k:Int))=false:=by simp[c0]
 have d8:Hid (qN up k x.1):=oH ⟨fun h=>absurd c0 h,b2⟩;clear Y e6 b2 c0;gi_wp2;refine fJ (aa All W) [] (fun _ _ _=>True) (fun _=>none) (by kernel_rfl) (by kernel_rfl) (by kernel_rfl) (by kernel_rfl) (by kernel_rfl) kR.drew ?_;iterate 12 (refine OR (fun wn hk hp=>by(obtain⟨e1,e2,e3,e4,e5⟩:=HF.1 wn hk;go_simp;with_reducible rfl)) ?_)
 iterate 6 (refine jf (by rfl) (by intro d hd;cases hd;decide) ?_;simp only[PS])
 iterate 2 (refine OR (fun wn hk hp=>by(obtain⟨e1,e2,e3,e4,e5⟩:=HF.1 wn hk;go_simp;with_reducible rfl)) ?_)
 refine dQ fun wn C _=>?_;have a1:=HF.2.1.trans C;have I:=HF.2.2.2.kept C trivial;have k4:=I.cl 0;have k5:=I.free 0;have HN:=J3 C a1 I;clear C a1 I;gi_wp2;refine⟨KeepsOthers.of_kept HN.1,eq.of_kept HN.1,fun y hy=>?_,HN.2.1⟩;rcases eD.1 hy with hy|hy;·exact HF.2.2.1 y hy
 rw[cx.1 hy];exact d8.out)
    have o8:((x.1:Int) !=(k:Int))=true:=by simp;omega
    cases b4:(aJ up x.1).getLsbD k with
    |true=>
     have b0:Hid (¬dI up):=oH fun h=>by have h2:=(((fL.1 h).2.2 k b8).2.2 x.1 x.2.1 x.2.2).1 c0;rw[h2] at b4;cases b4
     rw[b4] at Y;have H2:=oH Y;clear Y e6 b2 b4 c0;gi_wp2;refine fJ (aa All W) [] (fun _ _ _=>True) (fun k=>if k=17 then some (fun v=>v=.bool true) else none) (by kernel_rfl) (by kernel_rfl) (by kernel_rfl) (by kernel_rfl) (by kernel_rfl) kR.drew ?_;iterate 17 (refine OR (fun wn hk hp=>by(obtain⟨e1,e2,e3,e4,e5⟩:=HF.1 wn hk;go_simp;with_reducible rfl)) ?_)
     (refine gi (by rfl) (by rfl) (fun wn hk hp=>?_) ?_
      ·obtain⟨e1,e2,e3,e4,e5⟩:=HF.1 wn hk;go_simp;simp only[kl];refine(H2.out _).mono ?_;rintro e2 wq ⟨rfl,rfl⟩;exact⟨_,rfl,rfl,hk,fun _ _ _ _=>trivial,fun _ _ _=>trivial⟩
      rintro v rfl;simp only[PS])
     iterate 2 (refine OR (fun wn hk hp=>by(obtain⟨e1,e2,e3,e4,e5⟩:=HF.1 wn hk;go_simp;with_reducible rfl)) ?_)
     refine dQ fun wn C _=>?_;have a1:=HF.2.1.trans C;have I:=HF.2.2.2.kept C trivial;have k4:=I.cl 0;have k5:=I.free 0;have HN:=J3 C a1 I;clear C a1 I;gi_wp2;refine⟨(KeepsOthers.of_kept HN.1).trans (KeepsOthers.setCell _ _ _),⟨⟨rfl,b0.out⟩,HN.2.1.all.setCell (p:=⟨w.heap.size+1,0,none⟩) (.inl (by simp)) _⟩,?_⟩;have:=HN.2.2.set 0 (.bool false);simpa using this
    |false=>
     have d8:Hid (qN up k x.1):=oH ⟨fun _=>b4,b2⟩;rw[b4] at Y;have H2:=oH Y;clear Y e6 b2 b4 c0;gi_wp2;refine fJ (aa All W) [] (fun _ _ _=>True) (fun k=>if k=17 then some (fun v=>v=.bool false) else none) (by kernel_rfl) (by kernel_rfl) (by kernel_rfl) (by kernel_rfl) (by kernel_rfl) kR.drew ?_;iterate 17 (refine OR (fun wn hk hp=>by(obtain⟨e1,e2,e3,e4,e5⟩:=HF.1 wn hk;go_simp;with_reducible rfl)) ?_)
     (refine gi (by rfl) (by rfl) (fun wn hk hp=>?_) ?_
      ·obtain⟨e1,e2,e3,e4,e5⟩:=HF.1 wn hk;go_simp;simp only[kl];refine(H2.out _).mono ?_;rintro e2 wq ⟨rfl,rfl⟩;exact⟨_,rfl,rfl,hk,fun _ _ _ _=>trivial,fun _ _ _=>trivial⟩
      rintro v rfl;simp only[PS])
     iterate 2 (refine OR (fun wn hk hp=>by(obtain⟨e1,e2,e3,e4,e5⟩:=HF.1 wn hk;go_simp;with_reducible rfl)) ?_)
     refine dQ fun wn C _=>?_;have a1:=HF.2.1.trans C;have I:=HF.2.2.2.kept C trivial;have k4:=I.cl 0;have k5:=I.free 0;have HN:=J3 C a1 I;clear C a1 I;gi_wp2;refine⟨KeepsOthers.of_kept HN.1,eq.of_kept HN.1,fun y hy=>?_,HN.2.1⟩;rcases eD.1 hy with hy|hy;·exact HF.2.2.1 y hy
     rw[cx.1 hy];exact d8.out)
 obtain rfl:k=up.length:=by omega
 have HY:=oH (av (P:=dI up) (fL.2 ⟨k7,k6,R.out.good⟩));clear b8 hk;go_wp2;refine ld (wl:=wl) R.out.nodup (fun D hD=>?_) R.out.far HL.2.2.2.1 d9 (R.out.kept.all.setCell (p:=⟨w.heap.size+1,0,none⟩) (.inl (by simp)) _) ?_ rfl HY.out
 ·have h2:=R.out.far D hD
  rw[pI _ _ _ _ (by simp only;omega)];exact R.out.marks D hD
 have:=(HL.2.2.1.kept R.out.kept trivial).set 0 (.bool true);simpa using this
end
section
open Go.RowKit Go.Shelf
attribute [local go_sem] lh qb xr ju nA nE nB nC ms rq nD wL pD
attribute [local go_sem] pm lU jt mU List.getElem?_toArray List.getElem?_cons_zero
def qP (up:List (BitVec 64)):Prop:=∀a,a<up.length→∀b,b<a→0≤qan up (aJ up a&&&aJ up b)
theorem Ax (up:List (BitVec 64))(set:BitVec 64): -1≤qan up set∧qan up set<64:=wP _ _
theorem ye (S:Nat→Prop)(v:Value)(up:List (BitVec 64))(w:World)(hv:nZ S w v up)(hl:gz w)(b9:up.length≤64)(a7:∀i,i<up.length→∀k,k<64→(aJ up i).getLsbD k=true→k<up.length):
 Calls prog 140 #[v] w fun e w'=>e=.returned (.bool (pB (qP up)))∧aa All w w':=by
 have a8:=hv;obtain⟨A,cap,rfl,h1,h2,_,_⟩:=hv;unfold maxLen at h2;have HL:=J3 a8 hl a7;clear a8 hl a7;go_enter func140,ntmps140;go_wp2;go_loopg [7] up.length (fun g i wr=>∃a:Nat,a≤up.length∧g=up.length-a∧i=.int .i64 a∧aa All w wr∧∀x,x<a→∀b,b<x→0≤qan up (aJ up x&&&aJ up b));·exact⟨0,by omega,by omega,rfl,kR,fun x hx=>by omega⟩
 obtain⟨a,ha,rfl,rfl,j,C⟩:=hrel;have HA:=J2 j C;clear j C;by_cases a1:a<up.length;·(
 go_wp2;obtain⟨wa,b4⟩:=eQ wr;go_loopg [11] a (fun g i wr=>∃b:Nat,b≤a∧g=a-b∧i=.int .i64 b∧aa All w wr∧∀x,x<b→0≤qan up (aJ up a&&&aJ up x));·exact⟨0,by omega,by omega,rfl,HA.1,fun x hx=>by omega⟩
 clear b4;obtain⟨b,hb,rfl,rfl,j,C⟩:=hrel;have Y:=J2 j C;clear j C;by_cases b0:b<a;·(
 have I:∀wn,aa All wr wn→∃bb o,A=some ⟨bb,o,none⟩∧wn.cell? ⟨bb,o+a,none⟩=some (U (aJ up a))∧wn.cell? ⟨bb,o+b,none⟩=some (U (aJ up b)):=fun wn a6=>by have hu:=dU.keep (S:=S) ((Y.1.trans a6).all) HL.1;obtain⟨bb,o,e,_,hc⟩:=lx hu a1;obtain⟨c0,o',e',_,b5⟩:=lx hu (show b<up.length by omega);rw[e] at e';cases e';exact⟨bb,o,e,hc,b5⟩
 obtain⟨bb,o,rfl,_⟩:=I wr kR;have J:∀wn,aa All wr wn→wn.cell? ⟨bb,o+a,none⟩=some (U (aJ up a))∧wn.cell? ⟨bb,o+b,none⟩=some (U (aJ up b)):=fun wn a6=>by obtain⟨b',o',e,h3,h4⟩:=I wn a6;cases e;exact⟨h3,h4⟩
 have R:=fun wn (j:aa All wr wn)=>Dm S _ up (aJ up a&&&aJ up b) wn (dU.keep ((Y.1.trans j).all) HL.1) (HL.2.1.keep (Y.1.trans j)) (fun k b1 b2=>by rw[BitVec.getLsbD_and,gE] at b2;exact HL.2.2 a a1 k b1 b2.1);have c1:=Ax up (aJ up a&&&aJ up b);have HC:=J2 J R;have hx:qan up (aJ up a&&&aJ up b)=qan up (aJ up a&&&aJ up b):=rfl;clear I J R;generalize hr:qan up (aJ up a&&&aJ up b)=r at*;have HR:=oH hr;clear hr hx;have b8:b<up.length:=by omega
 go_wp2_with fail;refine eK (aa All wr) [] (fun _ _ _=>True) (fun k=>if k=10 then some (fun v=>v=.int .i64 r) else none) (by kernel_rfl) (by kernel_rfl) (by kernel_rfl) (by kernel_rfl) kR.drew ?_;iterate 10 (refine OR (fun wn j hp=>by(obtain⟨e1,e2⟩:=HC.1 wn j;go_simp;with_reducible rfl)) ?_)
 refine gi (by rfl) (by rfl) (fun wn j hp=>?_) ?_;·go_simp;simp only[kl];refine(HC.2 wn j).mono ?_;rintro e2 wq ⟨rfl,b6⟩;exact⟨_,rfl,rfl,j.trans b6,fun _ _ _ _=>trivial,fun _ _ _=>trivial⟩
 rintro v rfl;simp only[PS];by_cases b3:r<0
 ·have hd:decide (r<0)=true:=by simpa using b3
  have b7:=oH (au (P:=qP up) fun h=>by have:=h a a1 b b0;rw[HR.out] at this;omega);iterate 1 (refine OR (fun wn j hp=>by(go_simp;with_reducible rfl)) ?_)
  refine dQ fun wn j _=>?_;have HN:=oH (Y.1.trans j);clear j;go_wp2;go_ret;exact⟨by rw[b7.out];rfl,HN.out⟩
 have hd:decide (r<0)=false:=by simpa using b3
 iterate 1 (refine OR (fun wn j hp=>by(go_simp;with_reducible rfl)) ?_)
 refine dQ fun wn j _=>?_;have HN:=oH (Y.1.trans j);clear j;go_wp2;go_roundg (a-(b+1))
 ·refine⟨b+1,by omega,rfl,by go_num,HN.out,fun x hx=>?_⟩
  by_cases e:x=b;·subst e;rw[HR.out];omega
  exact Y.2 x (by omega)
 omega)
 obtain rfl:b=a:=by omega
 go_wp2;go_roundg (up.length-(b+1))
 ·refine⟨b+1,by omega,rfl,by go_num,Y.1,fun x hx=>?_⟩
  by_cases e:x=b;·subst e;exact Y.2
  exact HA.2 x (by omega)
 omega)
 obtain rfl:a=up.length:=by omega
 have HY:=oH (av (P:=qP up) HA.2);go_wp2;go_ret;exact⟨by rw[HY.out];rfl,HA.1⟩
theorem Eo {up:List (BitVec 64)}:∀i,i<(dE up).length→∀k,k<64→(aJ (dE up) i).getLsbD k=true→k<(dE up).length:=by intro i hi k o j;rw[kF] at hi⊢;rw[eI hi o,gE,qal] at j;exact j.1
theorem Gc {up:List (BitVec 64)}(C:dI up):ue up↔qP up∧qP (dE up):=by
 constructor
 ·rintro⟨_,h⟩;refine⟨fun a j b o=>?_,fun a j b o=>?_⟩;·rw[sQ C j (by omega)];exact(h a j b o).1
  rw[kF] at j;rw[sR C j (by omega)];exact(h a j b o).2
 rintro⟨h1,I⟩;refine⟨C,fun a j b o=>⟨?_,?_⟩⟩;·rw[←sQ C j (by omega)];exact h1 a j b o
 rw[←sR C j (by omega)];exact I a (by rw[kF];exact j) b o
theorem AK {P Q:Prop}:pB (P∧Q)=(pB P&&pB Q):=by
 by_cases h:P
 ·by_cases k:Q
  ·rw[av h,av k,av ⟨h,k⟩];rfl
  rw[av h,au k,au fun x=>k x.2];rfl
 rw[au h,au fun x=>h x.1];rfl
theorem kC {P Q:Prop}(h:P↔Q):pB P=pB Q:=by rw[propext h]
theorem wU (S:Nat→Prop)(v:Value)(up:List (BitVec 64))(w:World)(hv:nZ S w v up)(hl:gz w):
 Calls prog 76 #[v] w fun e w'=>e=.returned (.bool (pB (ue up)))∧aa All w w':=by
 have j:=DC S v up w hv hl;by_cases Y:dI up
 ·rw[av Y] at j;have a1:∀i,i<up.length→∀k,k<64→(aJ up i).getLsbD k=true→k<up.length:=fun i hi k hk hb=>((Y.2.2 i hi).2 k hk hb).1;have C:=fun wn (hk:aa All w wn)=>ye S v up wn (dU.keep hk.all hv) (hl.keep hk) Y.2.1 a1;have I:=fun wn (hk:aa All w wn)=>Bu S v up wn (dU.keep hk.all hv) (hl.keep hk) Y.2.1 a1;have HP:=J5 (kC (Gc Y)) j C I hl;have a8:=Y.2.1;clear j C I a1 hv Y hl;have HX:=oH (AK (P:=qP up) (Q:=qP (dE up)));cases he:pB (qP up) with
  |false=>have HE:=oH he;clear he;go_enter func76,ntmps76;go_wp2_with fail;refine HP.2.1.mono ?_;rintro e w1 ⟨rfl,o⟩;have H1:=oH o;clear o;go_wp2_with fail;refine(HP.2.2.1 w1 H1.out).mono ?_;rw[HE.out];rintro e w2 ⟨rfl,J⟩;have H2:=oH (H1.out.trans J);clear J;go_wp2_with fail;go_ret;exact⟨by rw[HP.1,HX.out,HE.out];rfl,H2.out⟩
  |true=>have HE:=oH he;clear he;go_enter func76,ntmps76;go_wp2_with fail;refine HP.2.1.mono ?_;rintro e w1 ⟨rfl,o⟩;have H1:=oH o;clear o;go_wp2_with fail;refine(HP.2.2.1 w1 H1.out).mono ?_;rw[HE.out];rintro e w2 ⟨rfl,J⟩;have H2:=oH (H1.out.trans J);clear J;go_wp2_with fail;refine(HP.2.2.2.1 w2 H2.out).mono ?_;rintro e w3 ⟨u,rfl,a6,hu⟩;have R:=ye _ u (dE up) w3 hu (HP.2.2.2.2.keep (H2.out.trans a6)) (by rw[kF];exact a8) Eo;have H3:=J2 (H2.out.trans a6) R;clear a6 R hu;go_wp2_with fail;refine H3.2.mono ?_;rintro e w4 ⟨rfl,a7⟩;have H4:=oH (H3.1.trans a7);clear a7;go_wp2_with fail;go_ret;exact⟨by rw[HP.1,HX.out,HE.out,Bool.true_and];rfl,H4.out⟩
 rw[au Y] at j;have b0:=oH (au (P:=ue up) fun h=>Y h.1);have HP:=oH j;clear j Y hv hl;go_enter func76,ntmps76;go_wp2_with fail;refine HP.out.mono ?_;rintro e w1 ⟨rfl,o⟩;have H1:=oH o;clear o;go_wp2_with fail;go_ret;exact⟨by rw[b0.out];rfl,H1.out⟩
end
theorem qs {b:aw}{v:Int}{i k blk:Nat}(hB:gY b)(j:v≠-1)(o:¬v<b.params)(h:jF b v i k):jl b v blk↔¬gA (dH (bM b)) i blk:=by
 constructor
 ·rintro(h1|⟨C,k',h1,I⟩)
  ·exact absurd h1 o
  obtain⟨rfl,rfl⟩:=hB.once v i k C k' j h h1;exact I
 exact fun h1=>.inr ⟨i,k,h,h1⟩
theorem tP {b:aw}{v:Int}{i k blk n:Nat}(hB:gY b)(j:v≠-1)(o:¬v<b.params)(h:jF b v i k):iP b v blk n↔if i=blk then k<n else¬gA (dH (bM b)) i blk:=by
 constructor
 ·rintro(h1|⟨C,k',h1,I⟩)
  ·exact absurd h1 o
  obtain⟨rfl,rfl⟩:=hB.once v i k C k' j h h1;exact I
 exact fun h1=>.inr ⟨i,k,h,h1⟩
section
def dR {α:Type}(n:Nat)(e:TypeId)(E:cO α)(B:Nat)(w:World)(v:Value)(l:List α):Prop:=
 ∃(j:List (List Value)) (P:Nat→Prop),w.ownsRow B e n v l.length j.flatten∧j.length=l.length∧(∀cs∈j,cs.length=n)∧(∀b,P b→B≤b∧b<w.heap.size∧v.ownBlock≠some b)∧
  ∀(i:Nat) x,l[i]? =some x→∃cs,j[i]? =some cs∧E P w cs x
section
variable {α:Type} {n:Nat} {e:TypeId} {E:cO α} {B:Nat} {w w':World} {v:Value} {l:List α}
theorem dR.nil:dR n e E B w (.slice none 0 0) ([]:List α):=
 ⟨[],fun _=>False,⟨by simp,.inl ⟨rfl,rfl⟩⟩,rfl,(fun _ h=>by cases h),fun _ h=>h.elim,fun i x h=>by simp at h⟩
theorem dR.form (h:dR n e E B w v l):∃A c,v=.slice A l.length c:=by
 obtain⟨j,P,h1,_⟩:=h;rcases h1.2 with ⟨rfl,o⟩|⟨g,cap,cur,rfl,_⟩;·exact⟨none,0,by rw[o]⟩
 exact⟨_,_,rfl⟩
theorem dR.own (h:dR n e E B w v l):∃xs,w.ownsRow B e n v l.length xs:=by obtain⟨j,P,h1,_⟩:=h;exact⟨_,h1⟩
theorem dR.keep (g:cO.Good E){S:Nat→Prop}(h:dR n e E B w v l)(k:aa S w w')(I:∀b,B≤b→b<w.heap.size→S b):dR n e E B w' v l:=by
 obtain⟨C,P,h1,J,R,o,Y⟩:=h;refine⟨C,P,be h1 k fun b j=>?_,J,R,fun b j=>?_,fun i x hx=>?_⟩
 ·have:=aD h1 j
  exact I b this.1 this.2
 ·have:=o b j
  have:=k.size;exact⟨by omega,by omega,(o b j).2.2⟩
 obtain⟨cs,hc,he⟩:=Y i x hx;exact⟨cs,hc,g.keep (k.mono fun b j=>I b (o b j).1 (o b j).2.1) he⟩
theorem dR.app (g:cO.Good E){o:List (List Value)}{I:Value}{cs:List Value}{x:α}{Q:Nat→Prop}
 (hl:o.length=l.length) (hn:∀c∈o,c.length=n) (J:cs.length=n)
 (P:Nat→Prop) (hP:∀b,P b→B≤b∧b<w.heap.size∧v.ownBlock≠some b) (hE:∀(i:Nat) x,l[i]? =some x→∃cs,o[i]? =some cs∧E P w cs x)
 (hQ:∀b,Q b→B≤b∧b<w.heap.size∧v.ownBlock≠some b) (hx:E Q w cs x)
 (R:w'.ownsRow B e n I (l.length+1) (o.flatten++cs)) (hg:w.grownBy w' v.ownBlock) (a6:I.ownBlock=v.ownBlock∨I.ownBlock=some w.heap.size):dR n e E B w' I (l++[x]):=by
 have Y:aa P w w':=(aa.refl _ w).grown hg fun b j=>.inl fun h=>(hP b h).2.2 j;have a7:aa Q w w':=(aa.refl _ w).grown hg fun b j=>.inl fun h=>(hQ b h).2.2 j;have a1:∀b,B≤b∧b<w.heap.size∧v.ownBlock≠some b→B≤b∧b<w'.heap.size∧I.ownBlock≠some b:=by(
 intro b j;have:=Y.size;refine⟨j.1,by omega,?_⟩;rcases a6 with h|h;·rw[h];exact j.2.2
 rw[h];intro h';injection h' with h';omega)
 refine⟨o++[cs],fun b=>P b∨Q b,?_,by simp[hl],fun c C=>?_,fun b j=>?_,fun i y hy=>?_⟩
 ·rw[List.flatten_append,List.flatten_singleton,iQ,List.length_singleton]
  exact R
 ·rcases eD.1 C with C|C
  ·exact hn c C
  rw[cx.1 C];exact J
 ·rcases j with j|j
  ·exact a1 b (hP b j)
  exact a1 b (hQ b j)
 by_cases hi:i<l.length
 ·rw[ma hi] at hy
  obtain⟨c,C,he⟩:=hE i y hy;exact⟨c,by rw[ma (by omega)];exact C,g.wide (fun b j=>.inl j) (g.keep Y he)⟩
 rw[kH (by omega)] at hy;have hz:i-l.length=0:=by have:=(lS.1 hy).1;simp at this;omega
 rw[hz] at hy;cases hy;exact⟨cs,by rw[kH (by omega),hl,hz];rfl,g.wide (fun b j=>.inr j) (g.keep a7 hx)⟩
theorem wN:∀(o:List (List Value)),(∀c∈o,c.length=n)→∀(i:Nat) cs,o[i]? =some cs→∀(j:Nat) u,cs[j]? =some u→o.flatten[i*n+j]? =some u
 | [],_,i,cs,h,_,_,_=>by simp at h
 |c::o,C,0,cs,h,j,u,hu=>by cases h;rw[List.flatten_cons,Nat.zero_mul,cN,ma (lS.1 hu).1];exact hu
 |c::o,C,i+1,cs,h,j,u,hu=>by have I:=C c (List.mem_cons_self ..);have J:=wN o (fun d R=>C d (List.mem_cons_of_mem _ R)) i cs (by simpa using h) j u hu;rw[List.flatten_cons,kH (by rw[I,Nat.succ_mul];omega),I,show(i+1)*n+j-n=i*n+j by rw[Nat.succ_mul];omega];exact J
theorem dR.read {bw:Nat}(g:cO.Good E)(h:dR n e E B w v l)(I:l.length*bw≤140737488355328):rx n bw E (fun b=>B≤b∧b<w.heap.size) w v l:=by
 obtain⟨R,P,h1,h2,h3,h4,h5⟩:=h;obtain⟨hlen,h1⟩:=h1;rcases h1 with ⟨rfl,h0⟩|⟨gb,cap,cur,rfl,Y,hh,hc,hm,a7,a1⟩
 ·have:l=[]:=oD h0
  subst this;exact rx.nil
 refine⟨_,_,rfl,hc,hm,I,fun i x hx=>?_⟩;obtain⟨cs,C,hE⟩:=h5 i x hx;have o:∀(j:Nat) u,cs[j]? =some u→w.cell? ⟨gb,0+i*n+j,none⟩=some u:=by(
 intro j u hu;have J:=wN R h3 i cs C j u hu;rw[cN,al.cell (w:=w) (t:=e) (cs:=cur) hh,←Array.getElem?_toList];rw[←a1] at J;have a6:i*n+j<l.length*n:=by have:=(lS.1 J).1;rw[fN] at this;omega
 rw[rY a6] at J;exact J)
 refine⟨gb,0,cs,rfl,⟨Y,(mV.1 hh).1⟩,h3 cs (mG C),o,g.wide (fun b I=>⟨(h4 b I).1,(h4 b I).2.1⟩) hE⟩
theorem bN {P:Program}(w:World){ops:Array Oper}{rest:List Oper}{o:Oper}{a:Act}{Q:Exit→Act→World→Prop}(g:cO.Good E)(a8:o.guard=none)(s x:Operand)(t:TypeId)
 (ho:o.op=.call {callee:=.builtin .append,args:=#[s,x],argTypes:=#[t,t]})
 (i:TypeInfo) (z:Value) (bytes:Nat) (ht:P.underlying t=some (.slice e)) (hi:P.info? e=some i) (hz:i.zero=some z)
 (J:i.size=n) (b0:i.bytes=bytes) (b1:z.cells.size=n) (b2:0<n)
 (v:Value) (l:List α) (hs:a.eval s=v) (a6:dR n e E B w v l) (b off c:Nat) (hx:a.eval x=.slice (some ⟨b,off,none⟩) 1 c) (cs:List Value) (y:α) (a7:cs.length=n)
 (R:∀(j:Nat) u,cs[j]? =some u→w.cell? ⟨b,off+j,none⟩=some u) (h1:∀u∈cs,u.oneCell'=true) (hl:l.length≤1000000000) (C:bytes≤10000) (Y:B≤w.heap.size)
 (Qp:Nat→Prop) (hQ:∀b,Qp b→B≤b∧b<w.heap.size∧v.ownBlock≠some b) (hE:E Qp w cs y)
 (h:∀A c w',dR n e E B w' (.slice A (l.length+1) c) (l++[y])→w.grownBy w' v.ownBlock→(∀b,v.ownBlock=some b→B≤b)→wpList P ops Q rest (a.put o.dst (.slice A (l.length+1) c)) w'):wpList P ops Q (o::rest) a w:=by
 obtain⟨b3,Pp,r1,r2,r3,r4,r5⟩:=a6;have hb:(l.length+1)*bytes≤1000000001*10000:=Nat.mul_le_mul (by omega) C;refine aR w a8 s x t ho B e i z n bytes ht hi hz J b0 b1 b2 v l.length b3.flatten hs r1 (some ⟨b,off,none⟩) 1 c cs hx (by rw[a7,Nat.one_mul]) (fun _=>⟨b,off,rfl,R⟩) h1 (by unfold maxLen;omega) (by omega) Y fun v' w' I hg b4=>?_;have a1:=dR.app g r2 r3 a7 Pp r4 r5 hQ hE I hg b4;obtain⟨A,c',rfl⟩:=aU I;exact h A c' w' a1 hg fun b hb=>(aD r1 hb).1
end
end
end Go.Proofs.YtgdlhckhpolnnaaGreatDoor
