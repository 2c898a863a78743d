/- Part 9 of the proof (its last part says what is proved). No condition. -/
import Derived.Test.YtgdlhckhpolnnaaGreatDoorK7
namespace Go.Proofs.YtgdlhckhpolnnaaGreatDoor
set_option maxRecDepth 100000
set_option maxHeartbeats 8000000
open Go.RowKit Go.Proofs.Tryz
section
open Go.RowKit Go.Shelf
attribute [local go_sem] lh qb xr ju nA nE nB nC ms rq nD wL pD
attribute [local go_sem] Oper.semAt_some
attribute [local go_sem] pm lU jt mU List.getElem?_toArray List.getElem?_cons_zero
theorem Km:(prog.info? 163).map (fun i=>(i.zero,i.size,i.bytes))=some (some (.int .u64 0),1,8):=by kernel_rfl
def kM (N:Nat)(f:Nat→BitVec 64):Array Value:=dM N fun i=>U (f i)
theorem Jv (n:Nat)(R:n≤1048576)(w:World):(Instr.makeSlice 23 (.int .i64 n) (.int .i64 n)).run prog w=.ok (.slice (some ⟨w.heap.size,0,none⟩) n n) (w.alloc (.cells (kM n fun _=>0#64) 163)):=by
 obtain⟨i,hi,C,I,J⟩:=info_parts Km;rw[run_make (P:=prog) w 23 163 i (.int .u64 0) underlying23 hi C .i64 .i64 n n (by omega) (by omega) (by rw[J];omega) (by omega)];have e:madeCells (Value.int .u64 0).cells ((n:Int).toNat*i.size)=kM n fun _=>0#64:=by(
 rw[I,dP,Nat.mul_one];apply Array.ext_getElem?;intro j;by_cases o:j<n;·rw[kM,cq o];simp[madeCells,o,Value.cells,Nat.mod_one,U]
 rw[jK (by rw[size_madeCells];omega),jK (by rw[kM,ew];omega)])
 rw[e,dP]
theorem Co {N:Nat}{f:Nat→BitVec 64}{i:Nat}(h:i<N):(kM N f)[i]? =some (U (f i)):=cq h
def Ee (f:Nat→BitVec 64)(i:Nat)(x:BitVec 64):Nat→BitVec 64:=fun k=>if k=i then x else f k
theorem Hv {N:Nat}{f:Nat→BitVec 64}{i:Nat}{x:BitVec 64}:(kM N f).setIfInBounds i (U x)=kM N (Ee f i x):=by unfold kM;rw[jo];congr 1;funext k;unfold qd Ee;split<;>rfl
theorem oY {N:Nat}{f g:Nat→BitVec 64}(h:∀i,i<N→f i=g i):kM N f=kM N g:=by unfold kM dM;congr 1;exact List.map_congr_left fun i hi=>by rw[h i (fg.1 hi)]
structure Md (up:List (BitVec 64))(g:Nat)(wl:World)(k:Nat)(Ds:List Nat)(wr:World):Prop where
 nodup:Ds.Nodup
 marks:∀D∈Ds,wr.heap[D]? =some (.deferred (some []))
 far:∀D∈Ds,wl.heap.size≤D
 kept:aa (fun b=>b≠g) wl wr
 down:al wr g 163 (kM up.length (ow up k))
def ol (up:List (BitVec 64))(k:Nat)(pre:List Nat)(j:Nat):BitVec 64:=if j∈pre then ow up k j|||1#64<<<k else ow up k j
theorem Gg {up:List (BitVec 64)}{k:Nat}{pre:List Nat}(h:pre=dS (aJ up k) 64)(j:Nat)(C:j<64):ol up k pre j=ow up (k+1) j:=by
 unfold ol ow;rw[zt];by_cases o:(aJ up k).getLsbD j=true;·rw[ap o,ap (by rw[h];exact ko.2 ⟨C,o⟩)]
 rw[ae o,ae (fun hm=>o (by rw[h] at hm;exact(ko.1 hm).2))]
theorem Do {up:List (BitVec 64)}{k:Nat}{pre:List Nat}{x:Nat}(o:x∉pre)(N:Nat):kM N (Ee (ol up k pre) x (ol up k pre x|||1#64<<<k))=kM N (ol up k (pre++[x])):=by
 refine oY fun j _=>?_;unfold Ee;by_cases e:j=x;·subst e;rw[ap rfl];unfold ol;rw[ae o,ap (by simp)]
 rw[ae e];unfold ol;by_cases hm:j∈pre;·rw[ap hm,ap (by simp[hm])]
 rw[ae hm,ae (by simp[hm,e])]
theorem Gw (x y:BitVec 64):x|||y|||y=x|||y:=by rw[BitVec.or_assoc,BitVec.or_self]
theorem AE {up:List (BitVec 64)}{k:Nat}{pre:List Nat}{x:Nat}(N:Nat):kM N (Ee (ol up k pre) x (ol up k pre x|||1#64<<<k))=kM N (ol up k (pre++[x])):=by
 by_cases o:x∈pre
 ·refine oY fun j _=>?_;unfold Ee;by_cases e:j=x;·subst e;rw[ap rfl];unfold ol;rw[ap o,ap (by simp),Gw]
  rw[ae e];unfold ol;by_cases hm:j∈pre;·rw[ap hm,ap (by simp[hm])]
  rw[ae hm,ae (by simp[hm,e])]
 exact Do o N
theorem nl {g:Nat}{W j:World}(o:aa (fun b=>b≠g) W j)(C:g≠4)(I:g≠3):eq W j:=fun h=>
 ⟨fun i hi=>o.cell (p:=⟨4,i,none⟩) (fun e=>C e.symm) (h.1 i hi),fun i hi=>o.cell (p:=⟨3,i,none⟩) (fun e=>I e.symm) (h.2 i hi)⟩
theorem Js {w:World}(h:gz w):4<w.heap.size∧3<w.heap.size:=
 ⟨jy w _ (h.1 0 (by decide)),jy w _ (h.2 0 (by decide))⟩
theorem Bu (S:Nat→Prop)(v:Value)(up:List (BitVec 64))(w:World)(hv:nZ S w v up)(hl:gz w)(j8:up.length≤64)(d9:∀i,i<up.length→∀k,k<64→(aJ up i).getLsbD k=true→k<up.length):
 Calls prog 142 #[v] w fun e w'=>∃u,e=.returned u∧aa All w w'∧nZ (fun b=>w.heap.size≤b) w' u (dE up):=by
 have e0:=hv;obtain⟨A,cap,rfl,h1,h2,_,_⟩:=hv;unfold maxLen at h2;have h9:=Jv up.length (by omega);refine(callsIn_wide (n:=8)).1 ?_;refine callsIn_of_wp_marks func142 rfl trivial ?_ rfl;simp only[ntmps142,List.size_toArray,kI,List.length_nil,Nat.reduceAdd,Nat.reduceSub,Array.replicate_succ,Array.replicate_zero,List.push_toArray,List.append_toArray,mF,List.cons_append];rw[wpIn_wide];go_wp2_with fail;obtain⟨wl,a7⟩:=eQ ((w.alloc (.cells (kM up.length fun _=>0#64) 163)).alloc (.cells #[.slice (some ⟨w.heap.size,0,none⟩) up.length up.length] 23));have e1:al wl w.heap.size 163 (kM up.length fun _=>0#64):=by rw[a7];exact(al.new _ _ _).alloc _
 have e2:=aB0 a7 aE1;have b4:=aC2 a7;have j9:=aD2 a7;rw[←a7];clear a7 h9;have e3:=hl.keep b4;have b3:=Js hl;have I:=J8 e0 hl d9 e1 e2 b4 e3 b3;clear e0 hl d9 e1 e2 b4 e3 b3;refine wp_loop_ghost_k (fun gg a wr=>∃(k:Nat) (Ds:List Nat) (x4 x5 e4 e5 e6 e7 e8 e9 h0 h3 b5 b6 b7 b8 b9 c0 c1 c6 c7 c8:Value),a= {tmps:=#[.slice A up.length cap,undef,.slice none 0 0,.pointer (some ⟨w.heap.size+1,0,none⟩),x4,x5,.slice A up.length cap,.int .i64 up.length,.slice (some ⟨w.heap.size,0,none⟩) up.length up.length,.slice A up.length cap,.int .i64 up.length,.int .i64 k,e4,e5,e6,e7,e8,e9,h0,h3,b5,b6,b7,b8,b9,c0,c1,c6,c7,c8,undef],defers:=Ds.map MI}∧k≤up.length∧gg=up.length-k∧Md up w.heap.size wl k Ds wr) up.length ?start ?round
 case start=>exact⟨0,[],undef,undef,undef,undef,undef,undef,undef,undef,undef,undef,undef,undef,undef,undef,undef,undef,undef,undef,undef,undef,rfl,by omega,by omega,List.nodup_nil,(fun D h=>by simp at h),(fun D h=>by simp at h),kR,I.2.2.2.1⟩
 rintro gg a wr ⟨k,Ds,x4,x5,e4,e5,e6,e7,e8,e9,h0,h3,b5,b6,b7,b8,b9,c0,c1,c6,c7,c8,rfl,hk,rfl,hinv⟩ J K hJ hK;have C:=oH hinv;clear hinv;by_cases b2:k<up.length;·(
 obtain⟨b,o,rfl,_,hc⟩:=lx (dU.keep (S:=S) (I.2.2.2.2.2.1.all) I.1) b2;have j0:wr.cell? ⟨b,o+k,none⟩=some (U (aJ up k)):=by have j1:=jy wl _ hc;refine C.out.kept.cell (p:=⟨b,o+k,none⟩) ?_ hc;rintro rfl;have:=(I.2.2.2.1).cell (o+k);obtain⟨b',o',e,_,j2⟩:=lx I.1 b2;cases e;have:=jy w _ j2;simp only at this;omega
 have j1:b<wr.heap.size:=jy wr _ j0;go_wp2_with fail;refine(wk _ _).mono ?_;rintro e w' ⟨rfl,rfl⟩;go_wp2_with fail;have h4:=I.2.2.2.2.2.1.all.trans C.out.kept;have c9:gz wr:=nl C.out.kept (by have:=I.2.2.2.2.2.2.2;omega) (by have:=I.2.2.2.2.2.2.2;omega) I.2.2.2.2.2.2.1;obtain⟨w1,a8⟩:=eQ ((wr.alloc (.cells #[.int .i64 k] 3)).alloc (.cells #[U (aJ up k)] 163));have d7:=aA1 a8;have d8:=aB0 a8 aE1;have R:=aC2 a8;have j7:=aD2 a8;rw[←a8];clear a8;have b0:=c9.keep R;have k0:=C.out.kept.size;have h5:∀D∈Ds,D<wr.heap.size:=fun D hD=>(mV.1 (C.out.marks D hD)).1
 refine wpIn_wide.1 (wpIn_rangeFunc_ownF (F:=Fence.wide) (n:=8) rfl (by omega) (gf:=223) (lb:=#[.pointer (some ⟨wr.heap.size+1,0,none⟩)]) rfl trivial (enters_of func223 (by kernel_rfl) rfl)
  (qm 7 (by omega) (aJ up k) _ w1 b0 d8) mi (mh _) (Below.refl _ _) (fun _=>rfl)
  (fun pre W=>aa (fun b=>b≠w.heap.size) w1 W∧al W w.heap.size 163 (kM up.length (ol up k (pre.map Subtype.val))))
  (fun _ _ _=>False)
  (OwnFrom.and (gL (cf _)) iz)
  (fun _=>fun _ _ _ _ h _ _=>h)
  ⟨kR,C.out.down.kept R trivial⟩
  (fun x=> {tmps:=#[.slice (some ⟨b,o,none⟩) up.length cap,undef,.slice none 0 0,.pointer (some ⟨w.heap.size+1,0,none⟩),.pointer (some ⟨wr.heap.size,0,none⟩),.int .i64 (x.1:Nat),.slice (some ⟨b,o,none⟩) up.length cap,.int .i64 up.length,.slice (some ⟨w.heap.size,0,none⟩) up.length up.length,.slice (some ⟨b,o,none⟩) up.length cap,.int .i64 up.length,.int .i64 k,.bool true,.int .i64 k,.slice (some ⟨b,o,none⟩) up.length cap,.int .i64 k,.pointer (some ⟨b,o+k,none⟩),U (aJ up k),.func (.func 223) #[] #[.pointer (some ⟨wr.heap.size+1,0,none⟩)],.int .i64 (x.1:Nat),b5,b6,b7,b8,b9,c0,c1,c6,c7,c8,undef],defers:=[]}) ?assign ?body ?done ?stop)
 case assign=>intro l x W K hK;gi_wp2;exact hK
 case stop=>rintro D c pre W _ _ h _;exact h.elim
 case body=>(
 rintro l pre x W ⟨Y,a6⟩ _;have j3:=I.2.2.1 k b2 x.1 x.2.1 x.2.2;have k1:w.heap.size+1<wl.heap.size:=by omega
 have c3:W.cell? ⟨w.heap.size+1,0,none⟩=some (.slice (some ⟨w.heap.size,0,none⟩) up.length up.length):=
  ((((I.2.2.2.2.1).kept C.out.kept (by simp)).kept R trivial).kept Y (by simp)).cell 0
 have c4:W.cell? ⟨wr.heap.size,0,none⟩=some (.int .i64 k):=(d7.kept Y (by omega)).cell 0;have c5:=a6.cell x.1;have f5:=a6.free x.1;rw[Co j3] at c5;have b1:=fun W=>Dq (ol up k (pre.map Subtype.val) x.1) k (by omega) W;have HB:=J3 Y a6 b1;clear Y a6 b1 c9 h4 b0 d7 d8;generalize h6:ol up k (pre.map Subtype.val) x.1=mm at*;have HM:=oH h6;clear h6;gi_wp2;refine mv 9 (by kernel_rfl) (by kernel_rfl) (by kernel_rfl) ?j4 ?_
 case j4=>rintro⟨a,w,h⟩;exact h
 simp only[List.take_succ_cons,List.take_zero,List.drop_succ_cons,List.drop_zero];iterate 7 still_step
 still_call ((HB.2.2 _).mono fun _ _ h=>⟨h.1,h.2.symm⟩)
 still_step
 refine wpStill_nil ?_;go_wp2;have h7:aa (fun b=>b≠w.heap.size) W (W.setCell ⟨w.heap.size,x.1,none⟩ (U (mm|||1#64<<<k))).drew:=((aa.refl _ W).setCell (p:=⟨w.heap.size,x.1,none⟩) (.inl (by simp)) _).drew;refine⟨(KeepsOthers.setCell _ _ _).trans (KeepsOthers.drew _),nl h7 (by have:=I.2.2.2.2.2.2.2;omega) (by have:=I.2.2.2.2.2.2.2;omega),HB.1.trans h7,?_⟩;have h1:=(HB.2.1.set x.1 (U (mm|||1#64<<<k))).drew;rw[Hv,←HM.out,AE] at h1;rw[←HM.out,ic];exact h1)
 rintro D xs W hD hS ⟨Y,a6⟩ h8;have hinv:Md up w.heap.size wl (k+1) (D::Ds) W:=by(
 have j5:∀E∈Ds,E≠w.heap.size:=fun E hE=>by have:=C.out.far E hE;omega
 refine⟨List.nodup_cons.2 ⟨fun h=>by have:=h5 D h;omega,C.out.nodup⟩,fun E hE=>?_,fun E hE=>?_,?_,?_⟩
 ·rcases fX.1 hE with rfl|hE;·exact h8
  have h1:=h5 E hE;rw[Y.block E (by omega) (j5 E hE),R.block E h1 trivial];exact C.out.marks E hE
 ·rcases fX.1 hE with rfl|hE
  ·omega
  exact C.out.far E hE
 ·exact(C.out.kept.trans R.all).trans Y
 have e:kM up.length (ol up k (xs.map Subtype.val))=kM up.length (ow up (k+1)):=oY fun j hj=>Gg hS j (by omega);rw[←e];exact a6)
 have HV:=oH hinv;clear hinv hS Y a6 h8 c9 h4 b0 d7 d8;go_wp2;exact Handed.intro (up.length-(k+1)) (by omega) (hJ _ _ _ ⟨k+1,D::Ds,_,_,_,_,_,_,_,_,_,_,_,_,_,_,_,_,_,_,_,_,rfl,by omega,rfl,HV.out⟩))
 obtain rfl:k=up.length:=by omega
 have c3:wr.cell? ⟨w.heap.size+1,0,none⟩=some (.slice (some ⟨w.heap.size,0,none⟩) up.length up.length):=((I.2.2.2.2.1).kept C.out.kept (by simp)).cell 0;clear b2 hk;go_wp2;refine mj Ds _ C.out.nodup C.out.marks fun w' a1=>⟨_,results_tmp rfl _ _ _,_,rfl,?_,?_⟩;·have h1:aa All w wr:=⟨C.out.kept.os.trans I.2.2.2.2.2.1.os,C.out.kept.output.trans I.2.2.2.2.2.1.output,fR I.2.2.2.2.2.1.size C.out.kept.size,fun b hb _=>by rw[C.out.kept.block b (by omega) (by omega)];exact I.2.2.2.2.2.1.block b hb trivial⟩;exact⟨a1.os.trans h1.os,a1.output.trans h1.output,fR h1.size a1.size,fun b hb _=>by rw[a1.block b (Nat.lt_of_lt_of_le hb h1.size) (fun hm=>by have:=C.out.far b hm;omega)];exact h1.block b hb trivial⟩
 have hd:al w' w.heap.size 163 (kM up.length (ow up up.length)):=C.out.down.kept a1 (fun hm=>by have:=C.out.far _ hm;omega);have j6:=kF up;have:=Sl.of_blk (bw:=8) (E:=Cz) (S:=fun b=>w.heap.size≤b) (l:=dE up) (cap:=up.length) hd (cf _) (by omega) (by unfold maxLen;omega) (by omega) (fun i x hx=>⟨_,Co (by have:=(lS.1 hx).1;omega),by
  have hi:i<up.length:=by have:=(lS.1 hx).1;omega
  have:=JS hx;rw[vW hi] at this;show U _=U _;rw[this]⟩)
 rwa [j6] at this
end
section
open Go.RowKit Go.Shelf
attribute [local go_sem] lh qb xr ju nA nE nB nC ms rq nD wL pD
attribute [local go_sem] Oper.semAt_some
attribute [local go_sem] pm lU jt mU List.getElem?_toArray List.getElem?_cons_zero
def qN (up:List (BitVec 64))(i k:Nat):Prop:=(k≠i→(aJ up k).getLsbD i=false)∧aJ up k&&& ~~~(aJ up i)=0#64
def uC (up:List (BitVec 64))(i:Nat):Prop:=(aJ up i).getLsbD i=true∧(∀k,k<64→(aJ up i).getLsbD k=true→k<up.length)∧∀k,k<64→(aJ up i).getLsbD k=true→qN up i k
theorem fL {up:List (BitVec 64)}:dI up↔1≤up.length∧up.length≤64∧∀i,i<up.length→uC up i:=by
 constructor
 ·rintro⟨C,I,h⟩
  exact⟨C,I,fun i hi=>⟨(h i hi).1,fun k j o=>((h i hi).2 k j o).1,fun k j o=>((h i hi).2 k j o).2⟩⟩
 rintro⟨C,I,h⟩;exact⟨C,I,fun i hi=>⟨(h i hi).1,fun k j o=>⟨(h i hi).2.1 k j o,(h i hi).2.2 k j o⟩⟩⟩
theorem Ce {m:BitVec 64}{n:Nat}:m&&& ~~~(oU n)=0#64↔∀k,k<64→m.getLsbD k=true→k<n:=by
 rw[pZ];refine⟨fun h k j o=>?_,fun h k j o=>?_⟩
 ·have:=h k j o
  rw[yD n k j] at this;exact of_decide_eq_true this
 rw[yD n k j];exact bL (h k j o)
def Ii (up:List (BitVec 64))(i:Nat)(pre:List (zD (aJ up i))):Prop:=∀x∈pre,qN up i x.1
def Ma (up:List (BitVec 64))(c:Code):Prop:=c=.ret∧¬dI up
structure LZ (up:List (BitVec 64))(wl:World)(k:Nat)(Ds:List Nat)(wr:World):Prop where
 nodup:Ds.Nodup
 marks:∀D∈Ds,wr.heap[D]? =some (.deferred (some []))
 far:∀D∈Ds,wl.heap.size≤D
 kept:aa All wl wr
 good:∀i,i<k→uC up i
theorem ld {up:List (BitVec 64)}{w wl W:World}{Ds:List Nat}{tmps:Array Value}{b:Bool}(R:Ds.Nodup)(Y:∀D∈Ds,W.heap[D]? =some (.deferred (some [])))(J:∀D∈Ds,wl.heap.size≤D)(o:aa All w wl)(a1:wl.heap.size=w.heap.size+2)
 (C:aa (fun c=>c≠w.heap.size+1) wl W) (hb:al W (w.heap.size+1) 4 #[.bool b]) (ht:tmps[2]? =some (.pointer (some ⟨w.heap.size+1,0,none⟩))) (hv:pB (dI up)=b):
 LeavesInM Fence.wide 8 prog Tryz.f139 tmps (fun e w'=>e=.returned (.bool (pB (dI up)))∧aa All w w') (Ds.map MI) .returning W:=by
 refine mj Ds _ R Y fun w' j=>?_;have I:=(hb.kept j (fun hm=>by have:=J _ hm;omega)).cl 0;refine⟨.bool b,?_,by rw[hv],j.os.trans (C.os.trans o.os),j.output.trans (C.output.trans o.output),fR o.size (fR C.size j.size),fun c I _=>?_⟩;·simp[results,Tryz.f139,go_sem,I,ht]
 have:=C.size;rw[j.block c (by omega) (fun hm=>by have:=J _ hm;omega),C.block c (by omega) (by omega)];exact o.block c I trivial
theorem DC (S:Nat→Prop)(v:Value)(up:List (BitVec 64))(w:World)(hv:nZ S w v up)(hl:gz w):
 Calls prog 139 #[v] w fun e w'=>e=.returned (.bool (pB (dI up)))∧aa All w w':=by
 have e7:=hv;obtain⟨A,cap,rfl,h1,h2,_,_⟩:=hv;unfold maxLen at h2;refine(callsIn_wide (n:=8)).1 ?_;refine callsIn_of_wp_marks func139 rfl trivial ?_ rfl;simp only[ntmps139,List.size_toArray,kI,List.length_nil,Nat.reduceAdd,Nat.reduceSub,Array.replicate_succ,Array.replicate_zero,List.push_toArray,List.append_toArray,mF,List.cons_append];rw[wpIn_wide];by_cases hn:up.length<1∨64<up.length
 ·have b0:=oH (au (P:=dI up) fun h=>by have:=h.1;have:=h.2.1;omega);have hr:decide ((up.length:Int)<1)=true∨(decide ((up.length:Int)<1)=false∧decide ((64:Int)<up.length)=true):=by simp only[qal,decide_eq_false_iff_not];omega
  clear hn e7 hl;rcases hr with hr|⟨hr,o4⟩
  all_goals
   go_wp2;refine⟨.bool false,?_,by rw[b0.out],((aa.refl All w).alloc _).alloc _⟩;simp[results,Tryz.f139,go_sem]
 have hr:decide ((up.length:Int)<1)=false:=by simp;omega
 have o4:decide ((64:Int)<up.length)=false:=by simp;omega
 have k6:up.length≤64:=by omega
 have k7:1≤up.length:=by omega
 have b5:=fun W=>AD up.length k6 W;have o5:=oH b5;clear b5 hn;go_wp2_with (go_at_call 193;refine(o5.out _).mono ?_;rintro e w' ⟨rfl,rfl⟩);obtain⟨wl,b7⟩:=eQ ((w.alloc (.cells #[.slice A up.length cap] 23)).alloc (.cells #[.bool false] 4));have k8:=aA1 b7;have a7:=aB0 b7 aE1;have e8:=aC2 b7;have d9:=aD2 b7;rw[←b7];clear b7;have k9:=hl.keep e8;have HL:=J5 e7 k8 a7 e8 k9;clear e7 hl k8 a7 e8 k9;refine wp_loop_ghost_k (fun gg a wr=>∃(k:Nat) (Ds:List Nat) (x4 x5 x6 l0 l1 l2 l3 l4 l5 l6 l7 l8 l9 m9 n0 n1 n2 n3 n4 n5 e9 h0 h3 h4 h5 h6 h7 h8 h9 j0 j1 j2 j3 j4 j5 j6 j7 j8 j9 k0 k1:Value),a= {tmps:=#[.slice A up.length cap,.pointer (some ⟨w.heap.size,0,none⟩),.pointer (some ⟨w.heap.size+1,0,none⟩),U (oU up.length),x4,x5,x6,.slice A up.length cap,.int .i64 up.length,.bool false,.bool false,.slice A up.length cap,.int .i64 up.length,.bool false,.bool false,.slice A up.length cap,.int .i64 up.length,U (oU up.length),.slice A up.length cap,.int .i64 up.length,.int .i64 k,l0,l1,l2,l3,l4,l5,l6,l7,l8,l9,m9,n0,n1,n2,n3,n4,n5,e9,h0,h3,h4,h5,h6,h7,h8,h9,j0,j1,j2,j3,j4,j5,j6,j7,j8,j9,k0,k1],defers:=Ds.map MI}∧k≤up.length∧gg=up.length-k∧LZ up wl k Ds wr) up.length ?start ?round
 case start=>exact⟨0,[],undef,undef,undef,undef,undef,undef,undef,undef,undef,undef,undef,undef,undef,undef,undef,undef,undef,undef,undef,undef,undef,undef,undef,undef,undef,undef,undef,undef,undef,undef,undef,undef,undef,undef,undef,undef,undef,undef,undef,undef,undef,rfl,by omega,by omega,List.nodup_nil,(fun D h=>by simp at h),(fun D h=>by simp at h),kR,fun i hi=>by omega⟩
 rintro gg a wr ⟨k,Ds,x4,x5,x6,l0,l1,l2,l3,l4,l5,l6,l7,l8,l9,m9,n0,n1,n2,n3,n4,n5,e9,h0,h3,h4,h5,h6,h7,h8,h9,j0,j1,j2,j3,j4,j5,j6,j7,j8,j9,k0,k1,rfl,hk,rfl,hinv⟩ J K hJ hK;have R:=oH hinv;have c1:=(HL.2.1.kept hinv.kept trivial).cl 0;have c4:=(HL.2.2.1.kept hinv.kept trivial).cl 0;have c5:=(HL.2.2.1.kept hinv.kept trivial).free 0;have p0:w.heap.size<wr.heap.size:=by have:=hinv.kept.size;omega
 have p1:w.heap.size+1<wr.heap.size:=by have:=hinv.kept.size;omega
 clear hinv;by_cases b8:k<up.length;·(
 obtain⟨b,o,rfl,_,hc⟩:=lx (dU.keep (S:=S) ((HL.2.2.2.1.trans R.out.kept).all) HL.1) b8;have p2:b<wr.heap.size:=jy wr _ hc;have a8:=fun W=>yJ (aJ up k) k (by omega) W;cases a7:(aJ up k).getLsbD k with
 |false=>
  rw[a7] at a8;have HH:=oH a8;have b0:=oH (au (P:=dI up) fun h=>by have:=(fL.1 h).2.2 k b8;rw[uC,a7] at this;exact oG this.1);clear a8 a7;go_wp2_with (go_at_call 75;refine(HH.out _).mono ?_;rintro e w' ⟨rfl,rfl⟩);refine ld (wl:=wl) R.out.nodup (fun D hD=>?_) R.out.far HL.2.2.2.1 d9 ?_ ?_ rfl b0.out;·have h1:=R.out.marks D hD;have h2:=R.out.far D hD;exact((((aa.refl (fun c=>c≠w.heap.size+1) wr).setCell (p:=⟨w.heap.size+1,0,none⟩) (.inl (by simp)) (.bool false)).alloc (.cells #[.int .i64 k] 3)).alloc (.cells #[U (aJ up k)] 163)).block D (mV.1 h1).1 (by omega)|>.trans h1
  ·exact((R.out.kept.all.setCell (p:=⟨w.heap.size+1,0,none⟩) (.inl (by simp)) _).alloc _).alloc _
  have:=(((HL.2.2.1.kept R.out.kept trivial).set 0 (.bool false)).alloc (.cells #[.int .i64 k] 3)).alloc (.cells #[U (aJ up k)] 163);simpa using this
 |true=>
  rw[a7] at a8;have HH:=oH a8;clear a8;cases b9:(aJ up k&&& ~~~oU up.length !=0#64) with
  |true=>
   have b0:=oH (au (P:=dI up) fun h=>by have h2:=(fL.1 h).2.2 k b8;have:=Ce.2 h2.2.1;rw[this] at b9;simp at b9);clear a7;go_wp2_with (go_at_call 75;refine(HH.out _).mono ?_;rintro e w' ⟨rfl,rfl⟩);refine ld (wl:=wl) R.out.nodup (fun D hD=>?_) R.out.far HL.2.2.2.1 d9 ?_ ?_ rfl b0.out;·have h1:=R.out.marks D hD;have h2:=R.out.far D hD;exact((((aa.refl (fun c=>c≠w.heap.size+1) wr).setCell (p:=⟨w.heap.size+1,0,none⟩) (.inl (by simp)) (.bool false)).alloc (.cells #[.int .i64 k] 3)).alloc (.cells #[U (aJ up k)] 163)).block D (mV.1 h1).1 (by omega)|>.trans h1
   ·exact((R.out.kept.all.setCell (p:=⟨w.heap.size+1,0,none⟩) (.inl (by simp)) _).alloc _).alloc _
   have:=(((HL.2.2.1.kept R.out.kept trivial).set 0 (.bool false)).alloc (.cells #[.int .i64 k] 3)).alloc (.cells #[U (aJ up k)] 163);simpa using this
  |false=>
   have n7:∀j,j<64→(aJ up k).getLsbD j=true→j<up.length:=Ce.1 (by simpa using b9);have k2:=J2 n7 a7;clear n7 a7;go_wp2_with (first|(go_at_call 75;refine(HH.out _).mono ?_;rintro e w' ⟨rfl,rfl⟩)|(go_at_call 194;refine(wk _ _).mono ?_;rintro e w' ⟨rfl,rfl⟩));obtain⟨w1,b3⟩:=eQ (((wr.alloc (.cells #[.int .i64 k] 3)).alloc (.cells #[U (aJ up k)] 163)).alloc (.cells #[U (aJ up k)] 163));have n8:=aA2 b3;have n9:=aB1 b3 aE1;have e0:=aB0 b3 aE2;have c6:=aC3 b3;have o9:=aD3 b3;rw[←b3];clear b3;have b6:gz w1:=HL.2.2.2.2.keep (R.out.kept.trans c6);have o0:∀D∈Ds,D<wr.heap.size:=fun D hD=>(mV.1 (R.out.marks D hD)).1;have HA:=J4 n8 n9 c6 o0;clear n8 n9 c6 o0
   refine wpIn_wide.1 (wpIn_rangeFunc_ownF (F:=Fence.wide) (n:=8) rfl (by omega) (gf:=223) (lb:=#[.pointer (some ⟨wr.heap.size+1+1,0,none⟩)]) rfl trivial (enters_of func223 (by kernel_rfl) rfl)
    (qm 7 (by omega) (aJ up k) _ w1 b6 e0) mi (mh _) (Below.refl _ _) (fun _=>rfl)
    (fun pre W=>Ii up k pre∧aa All w1 W)
    (fun c _ W=>(Ma up c∧aa (fun b=>b≠w.heap.size+1) w1 W)∧al W (w.heap.size+1) 4 #[.bool false])
    (OwnFrom.and (ownFrom_pure _ _) (gL (cf _)))
    (fun c=>OwnFrom.and (OwnFrom.and (ownFrom_pure _ _) (gL (cf _))) iz)
    ⟨fun x hx=>by simp at hx,kR⟩
    (fun x=> {tmps:=#[.slice (some ⟨b,o,none⟩) up.length cap,.pointer (some ⟨w.heap.size,0,none⟩),.pointer (some ⟨w.heap.size+1,0,none⟩),U (oU up.length),.pointer (some ⟨wr.heap.size,0,none⟩),.pointer (some ⟨wr.heap.size+1,0,none⟩),.int .i64 (x.1:Nat),.slice (some ⟨b,o,none⟩) up.length cap,.int .i64 up.length,.bool false,.bool false,.slice (some ⟨b,o,none⟩) up.length cap,.int .i64 up.length,.bool false,.bool false,.slice (some ⟨b,o,none⟩) up.length cap,.int .i64 up.length,U (oU up.length),.slice (some ⟨b,o,none⟩) up.length cap,.int .i64 up.length,.int .i64 k,.bool true,.int .i64 k,.pointer (some ⟨b,o+k,none⟩),U (aJ up k),U (aJ up k),.int .i64 k,.bool true,.bool false,.bool false,U (aJ up k),U (oU up.length),U (aJ up k&&& ~~~oU up.length),.bool false,.bool false,U (aJ up k),.func (.func 223) #[] #[.pointer (some ⟨wr.heap.size+1+1,0,none⟩)],.int .i64 (x.1:Nat),e9,h0,h3,h4,h5,h6,h7,h8,h9,j0,j1,j2,j3,j4,j5,j6,j7,j8,j9,k0,k1],defers:=[]}) ?assign ?body ?done ?stop)
   case assign=>(intro l x W K hK;gi_wp2;exact hK)
   case stop=>(
 rintro D c pre W hD _ ⟨⟨⟨rfl,o1⟩,a6⟩,c7⟩ c8;rw[wpIn_wide];have o2:=R.out.kept.all.trans (HA.2.2.1.all.trans a6);have HV:=J5 o1 c7 a6 c8 o2;clear o1 c7 a6 c8 o2 e0 b6 c1 c4 c5 b9;go_wp2;refine ld (Ds:=D::Ds) (wl:=wl) (List.nodup_cons.2 ⟨fun h=>by have:=HA.2.2.2 D h;omega,R.out.nodup⟩) (fun E hE=>?_) (fun E hE=>?_) HL.2.2.2.1 d9 HV.2.2.2.2 HV.2.1 rfl (au HV.1)
 ·rcases fX.1 hE with rfl|hE;·exact HV.2.2.2.1
  have h1:=HA.2.2.2 E hE;have h2:=R.out.far E hE;rw[HV.2.2.1.block E (by omega) (by omega),HA.2.2.1.block E h1 trivial];exact R.out.marks E hE
 rcases fX.1 hE with rfl|hE;·have:=R.out.kept.size;omega
 exact R.out.far E hE)
   case done=>(
 rintro D xs W hD hS ⟨b1,a6⟩ c8;have hinv:LZ up wl (k+1) (D::Ds) W:=by(
 refine⟨List.nodup_cons.2 ⟨fun h=>by have:=HA.2.2.2 D h;omega,R.out.nodup⟩,fun E hE=>?_,fun E hE=>?_,R.out.kept.trans (HA.2.2.1.trans a6),fun i hi=>?_⟩
 ·rcases fX.1 hE with rfl|hE;·exact c8
  have h1:=HA.2.2.2 E hE;rw[a6.block E (by omega) trivial,HA.2.2.1.block E h1 trivial];exact R.out.marks E hE
 ·rcases fX.1 hE with rfl|hE
  ·have:=R.out.kept.size;omega
  exact R.out.far E hE
 by_cases e:i=k
 ·subst e;refine⟨k2.2,k2.1,fun j hj hb=>?_⟩;have hm:j∈xs.map Subtype.val:=by rw[hS];exact ko.2 ⟨hj,hb⟩
  obtain⟨x,hx,rfl⟩:=dr.1 hm;exact b1 x hx
 exact R.out.good i (by omega))
 have HV:=oH hinv;clear hinv hS a6 b1 c8 b6 e0 c1 c4 c5 b9;go_wp2;exact Handed.intro (up.length-(k+1)) (by omega) (hJ _ _ _ ⟨k+1,D::Ds,_,_,_,_,_,_,_,_,_,_,_,_,_,_,_,_,_,_,_,_,_,_,_,_,_,_,_,_,_,_,_,_,_,_,_,_,_,_,_,_,_,rfl,by omega,rfl,HV.out⟩))
   rintro l pre x W ⟨b1,a6⟩ _;have o6:=k2.1 x.1 x.2.1 x.2.2;have c9:∀wn,aa All W wn→wn.cell? ⟨w.heap.size,0,none⟩=some (.slice (some ⟨b,o,none⟩) up.length cap)∧wn.cell? ⟨wr.heap.size,0,none⟩=some (.int .i64 k)∧wn.cell? ⟨wr.heap.size+1,0,none⟩=some (U (aJ up k))∧wn.cell? ⟨b,o+x.1,none⟩=some (U (aJ up x.1))∧True:=fun wn C=>by have d7:=a6.trans C;have o3:=R.out.kept.trans (HA.2.2.1.trans d7);obtain⟨b',o',e,_,o7⟩:=lx (dU.keep (S:=S) ((HL.2.2.2.1.trans o3).all) HL.1) o6;cases e;exact⟨(HL.2.1.kept o3 trivial).cell 0,(HA.1.kept d7 trivial).cell 0,(HA.2.1.kept d7 trivial).cell 0,o7,trivial⟩
   have c7:=HL.2.2.1.kept (R.out.kept.trans (HA.2.2.1.trans a6)) trivial;have HF:=J4 c9 a6 b1 c7;have Y:=fun W=>yJ (aJ up x.1) k (by omega) W;have e6:((x.1:Int)==(k:Int))=decide (x.1=k):=by rw[Bool.eq_iff_iff,cy,qal];omega
   clear c9 a6 b1 c7 e0 b6 c1 c4 c5 b9 hc;cases k3:(aJ up x.1&&& ~~~(aJ up k) !=0#64) with
   |true=>
    have b0:Hid (¬dI up):=oH fun h=>by have h2:=(((fL.1 h).2.2 k b8).2.2 x.1 x.2.1 x.2.2).2;rw[h2] at k3;simp at k3
    clear Y e6;gi_wp2;refine fJ (aa All W) [] (fun _ _ _=>True) (fun _=>none) (by kernel_rfl) (by kernel_rfl) (by kernel_rfl) (by kernel_rfl) (by kernel_rfl) kR.drew ?_;iterate 8 (refine OR (fun wn hk hp=>by(obtain⟨e1,e2,e3,e4,e5⟩:=HF.1 wn hk;go_simp;with_reducible rfl)) ?_)
    iterate 11 (refine jf (by rfl) (by intro d hd;cases hd;decide) ?_;simp only[PS])
    iterate 1 (refine OR (fun wn hk hp=>by(obtain⟨e1,e2,e3,e4,e5⟩:=HF.1 wn hk;go_simp;with_reducible rfl)) ?_)
    refine dQ fun wn C _=>?_;have a1:=HF.2.1.trans C;have I:=HF.2.2.2.kept C trivial;have k4:=I.cl 0;have k5:=I.free 0;have HN:=J3 C a1 I;clear C a1 I;gi_wp2;refine⟨(KeepsOthers.of_kept HN.1).trans (KeepsOthers.setCell _ _ _),⟨⟨rfl,b0.out⟩,HN.2.1.all.setCell (p:=⟨w.heap.size+1,0,none⟩) (.inl (by simp)) _⟩,?_⟩;have:=HN.2.2.set 0 (.bool false);simpa using this
   |false=>
    have b2:aJ up x.1&&& ~~~(aJ up k)=0#64:=by simpa using k3
    by_cases c0:x.1=k;·(
 have o8:((x.1:Int) !=(k:Int))=false:=by simp[c0]
 have d8:Hid (qN up k x.1):=oH ⟨fun h=>absurd c0 h,b2⟩;clear Y e6 b2 c0;gi_wp2;refine fJ (aa All W) [] (fun _ _ _=>True) (fun _=>none) (by kernel_rfl) (by kernel_rfl) (by kernel_rfl) (by kernel_rfl) (by kernel_rfl) kR.drew ?_;iterate 12 (refine OR (fun wn hk hp=>by(obtain⟨e1,e2,e3,e4,e5⟩:=HF.1 wn hk;go_simp;with_reducible rfl)) ?_)
 iterate 6 (refine jf (by rfl) (by intro d hd;cases hd;decide) ?_;simp only[PS])
 iterate 2 (refine OR (fun wn hk hp=>by(obtain⟨e1,e2,e3,e4,e5⟩:=HF.1 wn hk;go_simp;with_reducible rfl)) ?_)
 refine dQ fun wn C _=>?_;have a1:=HF.2.1.trans C;have I:=HF.2.2.2.kept C trivial;have k4:=I.cl 0;have k5:=I.free 0;have HN:=J3 C a1 I;clear C a1 I;gi_wp2;refine⟨KeepsOthers.of_kept HN.1,eq.of_kept HN.1,fun y hy=>?_,HN.2.1⟩;rcases eD.1 hy with hy|hy;·exact HF.2.2.1 y hy
 rw[cx.1 hy];exact d8.out)
    have o8:((x.1:Int) !=(k:Int))=true:=by simp;omega
    cases b4:(aJ up x.1).getLsbD k with
    |true=>
     have b0:Hid (¬dI up):=oH fun h=>by have h2:=(((fL.1 h).2.2 k b8).2.2 x.1 x.2.1 x.2.2).1 c0;rw[h2] at b4;cases b4
     rw[b4] at Y;have H2:=oH Y;clear Y e6 b2 b4 c0;gi_wp2;refine fJ (aa All W) [] (fun _ _ _=>True) (fun k=>if k=17 then some (fun v=>v=.bool true) else none) (by kernel_rfl) (by kernel_rfl) (by kernel_rfl) (by kernel_rfl) (by kernel_rfl) kR.drew ?_;iterate 17 (refine OR (fun wn hk hp=>by(obtain⟨e1,e2,e3,e4,e5⟩:=HF.1 wn hk;go_simp;with_reducible rfl)) ?_)
     (refine gi (by rfl) (by rfl) (fun wn hk hp=>?_) ?_
      ·obtain⟨e1,e2,e3,e4,e5⟩:=HF.1 wn hk;go_simp;simp only[kl];refine(H2.out _).mono ?_;rintro e2 wq ⟨rfl,rfl⟩;exact⟨_,rfl,rfl,hk,fun _ _ _ _=>trivial,fun _ _ _=>trivial⟩
      rintro v rfl;simp only[PS])
     iterate 2 (refine OR (fun wn hk hp=>by(obtain⟨e1,e2,e3,e4,e5⟩:=HF.1 wn hk;go_simp;with_reducible rfl)) ?_)
     refine dQ fun wn C _=>?_;have a1:=HF.2.1.trans C;have I:=HF.2.2.2.kept C trivial;have k4:=I.cl 0;have k5:=I.free 0;have HN:=J3 C a1 I;clear C a1 I;gi_wp2;refine⟨(KeepsOthers.of_kept HN.1).trans (KeepsOthers.setCell _ _ _),⟨⟨rfl,b0.out⟩,HN.2.1.all.setCell (p:=⟨w.heap.size+1,0,none⟩) (.inl (by simp)) _⟩,?_⟩;have:=HN.2.2.set 0 (.bool false);simpa using this
    |false=>
     have d8:Hid (qN up k x.1):=oH ⟨fun _=>b4,b2⟩;rw[b4] at Y;have H2:=oH Y;clear Y e6 b2 b4 c0;gi_wp2;refine fJ (aa All W) [] (fun _ _ _=>True) (fun k=>if k=17 then some (fun v=>v=.bool false) else none) (by kernel_rfl) (by kernel_rfl) (by kernel_rfl) (by kernel_rfl) (by kernel_rfl) kR.drew ?_;iterate 17 (refine OR (fun wn hk hp=>by(obtain⟨e1,e2,e3,e4,e5⟩:=HF.1 wn hk;go_simp;with_reducible rfl)) ?_)
     (refine gi (by rfl) (by rfl) (fun wn hk hp=>?_) ?_
      ·obtain⟨e1,e2,e3,e4,e5⟩:=HF.1 wn hk;go_simp;simp only[kl];refine(H2.out _).mono ?_;rintro e2 wq ⟨rfl,rfl⟩;exact⟨_,rfl,rfl,hk,fun _ _ _ _=>trivial,fun _ _ _=>trivial⟩
      rintro v rfl;simp only[PS])
     iterate 2 (refine OR (fun wn hk hp=>by(obtain⟨e1,e2,e3,e4,e5⟩:=HF.1 wn hk;go_simp;with_reducible rfl)) ?_)
     refine dQ fun wn C _=>?_;have a1:=HF.2.1.trans C;have I:=HF.2.2.2.kept C trivial;have k4:=I.cl 0;have k5:=I.free 0;have HN:=J3 C a1 I;clear C a1 I;gi_wp2;refine⟨KeepsOthers.of_kept HN.1,eq.of_kept HN.1,fun y hy=>?_,HN.2.1⟩;rcases eD.1 hy with hy|hy;·exact HF.2.2.1 y hy
     rw[cx.1 hy];exact d8.out)
 obtain rfl:k=up.length:=by omega
 have HY:=oH (av (P:=dI up) (fL.2 ⟨k7,k6,R.out.good⟩));clear b8 hk;go_wp2;refine ld (wl:=wl) R.out.nodup (fun D hD=>?_) R.out.far HL.2.2.2.1 d9 (R.out.kept.all.setCell (p:=⟨w.heap.size+1,0,none⟩) (.inl (by simp)) _) ?_ rfl HY.out
 ·have h2:=R.out.far D hD
  rw[pI _ _ _ _ (by simp only;omega)];exact R.out.marks D hD
 have:=(HL.2.2.1.kept R.out.kept trivial).set 0 (.bool true);simpa using this
end
section
open Go.RowKit Go.Shelf
attribute [local go_sem] lh qb xr ju nA nE nB nC ms rq nD wL pD
attribute [local go_sem] pm lU jt mU List.getElem?_toArray List.getElem?_cons_zero
def qP (up:List (BitVec 64)):Prop:=∀a,a<up.length→∀b,b<a→0≤qan up (aJ up a&&&aJ up b)
theorem Ax (up:List (BitVec 64))(set:BitVec 64): -1≤qan up set∧qan up set<64:=wP _ _
theorem ye (S:Nat→Prop)(v:Value)(up:List (BitVec 64))(w:World)(hv:nZ S w v up)(hl:gz w)(b9:up.length≤64)(a7:∀i,i<up.length→∀k,k<64→(aJ up i).getLsbD k=true→k<up.length):
 Calls prog 140 #[v] w fun e w'=>e=.returned (.bool (pB (qP up)))∧aa All w w':=by
 have a8:=hv;obtain⟨A,cap,rfl,h1,h2,_,_⟩:=hv;unfold maxLen at h2;have HL:=J3 a8 hl a7;clear a8 hl a7;go_enter func140,ntmps140;go_wp2;go_loopg [7] up.length (fun g i wr=>∃a:Nat,a≤up.length∧g=up.length-a∧i=.int .i64 a∧aa All w wr∧∀x,x<a→∀b,b<x→0≤qan up (aJ up x&&&aJ up b));·exact⟨0,by omega,by omega,rfl,kR,fun x hx=>by omega⟩
 obtain⟨a,ha,rfl,rfl,j,C⟩:=hrel;have HA:=J2 j C;clear j C;by_cases a1:a<up.length;·(
 go_wp2;obtain⟨wa,b4⟩:=eQ wr;go_loopg [11] a (fun g i wr=>∃b:Nat,b≤a∧g=a-b∧i=.int .i64 b∧aa All w wr∧∀x,x<b→0≤qan up (aJ up a&&&aJ up x));·exact⟨0,by omega,by omega,rfl,HA.1,fun x hx=>by omega⟩
 clear b4;obtain⟨b,hb,rfl,rfl,j,C⟩:=hrel;have Y:=J2 j C;clear j C;by_cases b0:b<a;·(
 have I:∀wn,aa All wr wn→∃bb o,A=some ⟨bb,o,none⟩∧wn.cell? ⟨bb,o+a,none⟩=some (U (aJ up a))∧wn.cell? ⟨bb,o+b,none⟩=some (U (aJ up b)):=fun wn a6=>by have hu:=dU.keep (S:=S) ((Y.1.trans a6).all) HL.1;obtain⟨bb,o,e,_,hc⟩:=lx hu a1;obtain⟨c0,o',e',_,b5⟩:=lx hu (show b<up.length by omega);rw[e] at e';cases e';exact⟨bb,o,e,hc,b5⟩
 obtain⟨bb,o,rfl,_⟩:=I wr kR;have J:∀wn,aa All wr wn→wn.cell? ⟨bb,o+a,none⟩=some (U (aJ up a))∧wn.cell? ⟨bb,o+b,none⟩=some (U (aJ up b)):=fun wn a6=>by obtain⟨b',o',e,h3,h4⟩:=I wn a6;cases e;exact⟨h3,h4⟩
 have R:=fun wn (j:aa All wr wn)=>Dm S _ up (aJ up a&&&aJ up b) wn (dU.keep ((Y.1.trans j).all) HL.1) (HL.2.1.keep (Y.1.trans j)) (fun k b1 b2=>by rw[BitVec.getLsbD_and,gE] at b2;exact HL.2.2 a a1 k b1 b2.1);have c1:=Ax up (aJ up a&&&aJ up b);have HC:=J2 J R;have hx:qan up (aJ up a&&&aJ up b)=qan up (aJ up a&&&aJ up b):=rfl;clear I J R;generalize hr:qan up (aJ up a&&&aJ up b)=r at*;have HR:=oH hr;clear hr hx;have b8:b<up.length:=by omega
 go_wp2_with fail;refine eK (aa All wr) [] (fun _ _ _=>True) (fun k=>if k=10 then some (fun v=>v=.int .i64 r) else none) (by kernel_rfl) (by kernel_rfl) (by kernel_rfl) (by kernel_rfl) kR.drew ?_;iterate 10 (refine OR (fun wn j hp=>by(obtain⟨e1,e2⟩:=HC.1 wn j;go_simp;with_reducible rfl)) ?_)
 refine gi (by rfl) (by rfl) (fun wn j hp=>?_) ?_;·go_simp;simp only[kl];refine(HC.2 wn j).mono ?_;rintro e2 wq ⟨rfl,b6⟩;exact⟨_,rfl,rfl,j.trans b6,fun _ _ _ _=>trivial,fun _ _ _=>trivial⟩
 rintro v rfl;simp only[PS];by_cases b3:r<0
 ·have hd:decide (r<0)=true:=by simpa using b3
  have b7:=oH (au (P:=qP up) fun h=>by have:=h a a1 b b0;rw[HR.out] at this;omega);iterate 1 (refine OR (fun wn j hp=>by(go_simp;with_reducible rfl)) ?_)
  refine dQ fun wn j _=>?_;have HN:=oH (Y.1.trans j);clear j;go_wp2;go_ret;exact⟨by rw[b7.out];rfl,HN.out⟩
 have hd:decide (r<0)=false:=by simpa using b3
 iterate 1 (refine OR (fun wn j hp=>by(go_simp;with_reducible rfl)) ?_)
 refine dQ fun wn j _=>?_;have HN:=oH (Y.1.trans j);clear j;go_wp2;go_roundg (a-(b+1))
 ·refine⟨b+1,by omega,rfl,by go_num,HN.out,fun x hx=>?_⟩
  by_cases e:x=b;·subst e;rw[HR.out];omega
  exact Y.2 x (by omega)
 omega)
 obtain rfl:b=a:=by omega
 go_wp2;go_roundg (up.length-(b+1))
 ·refine⟨b+1,by omega,rfl,by go_num,Y.1,fun x hx=>?_⟩
  by_cases e:x=b;·subst e;exact Y.2
  exact HA.2 x (by omega)
 omega)
 obtain rfl:a=up.length:=by omega
 have HY:=oH (av (P:=qP up) HA.2);go_wp2;go_ret;exact⟨by rw[HY.out];rfl,HA.1⟩
theorem Eo {up:List (BitVec 64)}:∀i,i<(dE up).length→∀k,k<64→(aJ (dE up) i).getLsbD k=true→k<(dE up).length:=by intro i hi k o j;rw[kF] at hi⊢;rw[eI hi o,gE,qal] at j;exact j.1
theorem Gc {up:List (BitVec 64)}(C:dI up):ue up↔qP up∧qP (dE up):=by
 constructor
 ·rintro⟨_,h⟩;refine⟨fun a j b o=>?_,fun a j b o=>?_⟩;·rw[sQ C j (by omega)];exact(h a j b o).1
  rw[kF] at j;rw[sR C j (by omega)];exact(h a j b o).2
 rintro⟨I,J⟩;refine⟨C,fun a j b o=>⟨?_,?_⟩⟩;·rw[←sQ C j (by omega)];exact I a j b o
 rw[←sR C j (by omega)];exact J a (by rw[kF];exact j) b o
theorem AK {P Q:Prop}:pB (P∧Q)=(pB P&&pB Q):=by
 by_cases h:P
 ·by_cases k:Q
  ·rw[av h,av k,av ⟨h,k⟩];rfl
  rw[av h,au k,au fun x=>k x.2];rfl
 rw[au h,au fun x=>h x.1];rfl
theorem kC {P Q:Prop}(h:P↔Q):pB P=pB Q:=by rw[propext h]
theorem wU (S:Nat→Prop)(v:Value)(up:List (BitVec 64))(w:World)(hv:nZ S w v up)(hl:gz w):
 Calls prog 76 #[v] w fun e w'=>e=.returned (.bool (pB (ue up)))∧aa All w w':=by
 have j:=DC S v up w hv hl;by_cases Y:dI up
 ·rw[av Y] at j;have a1:∀i,i<up.length→∀k,k<64→(aJ up i).getLsbD k=true→k<up.length:=fun i hi k hk hb=>((Y.2.2 i hi).2 k hk hb).1;have C:=fun wn (hk:aa All w wn)=>ye S v up wn (dU.keep hk.all hv) (hl.keep hk) Y.2.1 a1;have I:=fun wn (hk:aa All w wn)=>Bu S v up wn (dU.keep hk.all hv) (hl.keep hk) Y.2.1 a1;have HP:=J5 (kC (Gc Y)) j C I hl;have a8:=Y.2.1;clear j C I a1 hv Y hl;have HX:=oH (AK (P:=qP up) (Q:=qP (dE up)));cases he:pB (qP up) with
  |false=>have HE:=oH he;clear he;go_enter func76,ntmps76;go_wp2_with fail;refine HP.2.1.mono ?_;rintro e w1 ⟨rfl,o⟩;have H1:=oH o;clear o;go_wp2_with fail;refine(HP.2.2.1 w1 H1.out).mono ?_;rw[HE.out];rintro e w2 ⟨rfl,J⟩;have H2:=oH (H1.out.trans J);clear J;go_wp2_with fail;go_ret;exact⟨by rw[HP.1,HX.out,HE.out];rfl,H2.out⟩
  |true=>have HE:=oH he;clear he;go_enter func76,ntmps76;go_wp2_with fail;refine HP.2.1.mono ?_;rintro e w1 ⟨rfl,o⟩;have H1:=oH o;clear o;go_wp2_with fail;refine(HP.2.2.1 w1 H1.out).mono ?_;rw[HE.out];rintro e w2 ⟨rfl,J⟩;have H2:=oH (H1.out.trans J);clear J;go_wp2_with fail;refine(HP.2.2.2.1 w2 H2.out).mono ?_;rintro e w3 ⟨u,rfl,a6,hu⟩;have R:=ye _ u (dE up) w3 hu (HP.2.2.2.2.keep (H2.out.trans a6)) (by rw[kF];exact a8) Eo;have H3:=J2 (H2.out.trans a6) R;clear a6 R hu;go_wp2_with fail;refine H3.2.mono ?_;rintro e w4 ⟨rfl,a7⟩;have H4:=oH (H3.1.trans a7);clear a7;go_wp2_with fail;go_ret;exact⟨by rw[HP.1,HX.out,HE.out,Bool.true_and];rfl,H4.out⟩
 rw[au Y] at j;have b0:=oH (au (P:=ue up) fun h=>Y h.1);have HP:=oH j;clear j Y hv hl;go_enter func76,ntmps76;go_wp2_with fail;refine HP.out.mono ?_;rintro e w1 ⟨rfl,o⟩;have H1:=oH o;clear o;go_wp2_with fail;go_ret;exact⟨by rw[b0.out];rfl,H1.out⟩
end
theorem qs {b:aw}{v:Int}{i k blk:Nat}(o:gY b)(C:v≠-1)(I:¬v<b.params)(h:jF b v i k):jl b v blk↔¬gA (dH (bM b)) i blk:=by
 constructor
 ·rintro(j|⟨J,k',j,R⟩)
  ·exact absurd j I
  obtain⟨rfl,rfl⟩:=o.once v i k J k' C h j;exact R
 exact fun j=>.inr ⟨i,k,h,j⟩
theorem tP {b:aw}{v:Int}{i k blk n:Nat}(o:gY b)(C:v≠-1)(I:¬v<b.params)(h:jF b v i k):iP b v blk n↔if i=blk then k<n else¬gA (dH (bM b)) i blk:=by
 constructor
 ·rintro(j|⟨J,k',j,R⟩)
  ·exact absurd j I
  obtain⟨rfl,rfl⟩:=o.once v i k J k' C h j;exact R
 exact fun j=>.inr ⟨i,k,h,j⟩
end Go.Proofs.YtgdlhckhpolnnaaGreatDoor
