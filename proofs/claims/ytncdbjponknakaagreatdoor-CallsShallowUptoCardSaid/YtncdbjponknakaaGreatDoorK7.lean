/- Part 8 of the proof of CallsShallow (its last part says what is proved). No condition. -/
import Derived.Test.YtncdbjponknakaaGreatDoorK6
namespace Go.Proofs.YtncdbjponknakaaGreatDoor
set_option maxRecDepth 100000
set_option maxHeartbeats 8000000
open Go.RowKit Go.Proofs.Tryz
section
open Go.RowKit Go.Shelf
attribute [local go_sem] lh qb xr ju nA nE nB nC ms rq nD wL pD
attribute [local go_sem] Oper.semAt_some
attribute [local go_sem] pm lU jt mU List.getElem?_toArray List.getElem?_cons_zero
def qN (up:List (BitVec 64))(i k:Nat):Prop:=(k≠i→(aJ up k).getLsbD i=false)∧aJ up k&&& ~~~(aJ up i)=0#64
def uC (up:List (BitVec 64))(i:Nat):Prop:=(aJ up i).getLsbD i=true∧(∀k,k<64→(aJ up i).getLsbD k=true→k<up.length)∧∀k,k<64→(aJ up i).getLsbD k=true→qN up i k
theorem fL {up:List (BitVec 64)}:dI up↔1≤up.length∧up.length≤64∧∀i,i<up.length→uC up i:=by
 constructor
 ·rintro⟨o,C,h⟩
  exact⟨o,C,fun i hi=>⟨(h i hi).1,fun k j l=>((h i hi).2 k j l).1,fun k j l=>((h i hi).2 k j l).2⟩⟩
 rintro⟨o,C,h⟩;exact⟨o,C,fun i hi=>⟨(h i hi).1,fun k j l=>⟨(h i hi).2.1 k j l,(h i hi).2.2 k j l⟩⟩⟩
theorem Ce {m:BitVec 64}{n:Nat}:m&&& ~~~(oU n)=0#64↔∀k,k<64→m.getLsbD k=true→k<n:=by
 rw[pZ];refine⟨fun h k j l=>?_,fun h k j l=>?_⟩
 ·have:=h k j l
  rw[yD n k j] at this;exact of_decide_eq_true this
 rw[yD n k j];exact bL (h k j l)
def Ii (up:List (BitVec 64))(i:Nat)(pre:List (zD (aJ up i))):Prop:=∀x∈pre,qN up i x.1
def Ma (up:List (BitVec 64))(c:Code):Prop:=c=.ret∧¬dI up
structure LZ (up:List (BitVec 64))(wl:World)(k:Nat)(Ds:List Nat)(wr:World):Prop where
 nodup:Ds.Nodup
 marks:∀D∈Ds,wr.heap[D]? =some (.deferred (some []))
 far:∀D∈Ds,wl.heap.size≤D
 kept:aa All wl wr
 good:∀i,i<k→uC up i
theorem ld {up:List (BitVec 64)}{w wl W:World}{Ds:List Nat}{tmps:Array Value}{b:Bool}(Y:Ds.Nodup)(Z:∀D∈Ds,W.heap[D]? =some (.deferred (some [])))(J:∀D∈Ds,wl.heap.size≤D)(l:aa All w wl)(a1:wl.heap.size=w.heap.size+2)
 (o:aa (fun c=>c≠w.heap.size+1) wl W) (hb:al W (w.heap.size+1) 4 #[.bool b]) (ht:tmps[2]? =some (.pointer (some ⟨w.heap.size+1,0,none⟩))) (hv:pB (dI up)=b):
 LeavesInM Fence.wide 8 prog Tryz.f81 tmps (fun e R=>e=.returned (.bool (pB (dI up)))∧aa All w R) (Ds.map MI) .returning W:=by
 refine mj Ds _ Y Z fun R j=>?_;have C:=(hb.kept j (fun hm=>by have:=J _ hm;omega)).cell 0;simp only[gc] at C;refine⟨.bool b,?_,by rw[hv],j.os.trans (o.os.trans l.os),j.output.trans (o.output.trans l.output),fR l.size (fR o.size j.size),fun c C _=>?_⟩;·simp[results,Tryz.f81,go_sem,C,ht]
 have:=o.size;rw[j.block c (by omega) (fun hm=>by have:=J _ hm;omega),o.block c (by omega) (by omega)];exact l.block c C trivial
theorem DC (S:Nat→Prop)(v:Value)(up:List (BitVec 64))(w:World)(hv:nZ S w v up)(hl:gz w):
 Calls prog 81 #[v] w fun e w'=>e=.returned (.bool (pB (dI up)))∧aa All w w':=by
 have e6:=hv;obtain⟨A,cap,rfl,h1,h2,_,_⟩:=hv;unfold maxLen at h2;refine(callsIn_wide (n:=8)).1 ?_;refine callsIn_of_wp_marks func81 rfl trivial ?_ rfl;simp only[ntmps81,List.size_toArray,kI,List.length_nil,Nat.reduceAdd,Nat.reduceSub,Array.replicate_succ,Array.replicate_zero,List.push_toArray,List.append_toArray,mF,List.cons_append];rw[wpIn_wide];by_cases hn:up.length<1∨64<up.length
 ·have b0:=oH (au (P:=dI up) fun h=>by have:=h.1;have:=h.2.1;omega);have hr:decide ((up.length:Int)<1)=true∨(decide ((up.length:Int)<1)=false∧decide ((64:Int)<up.length)=true):=by simp only[iH,decide_eq_false_iff_not];omega
  clear hn e6 hl;rcases hr with hr|⟨hr,m5⟩
  all_goals
   go_wp2;refine⟨.bool false,?_,by rw[b0.out],((aa.refl All w).alloc _).alloc _⟩;simp[results,Tryz.f81,go_sem]
 have hr:decide ((up.length:Int)<1)=false:=by simp;omega
 have m5:decide ((64:Int)<up.length)=false:=by simp;omega
 have j7:up.length≤64:=by omega
 have j8:1≤up.length:=by omega
 have b6:=fun W=>AD up.length j7 W;have m6:=oH b6;clear b6 hn;go_wp2_with (go_at_call 123;refine(m6.out _).mono ?_;rintro e w' ⟨rfl,rfl⟩);obtain⟨wl,c0⟩:=eQ ((w.alloc (.cells #[.slice A up.length cap] 23)).alloc (.cells #[.bool false] 4));have j9:al wl w.heap.size 23 #[.slice A up.length cap]:=by rw[c0];exact(al.new _ _ _).alloc _
 have a7:al wl (w.heap.size+1) 4 #[.bool false]:=by rw[c0];exact ac (by simp)
 have e7:aa All w wl:=by rw[c0];exact(kR.alloc _).alloc _
 have d8:wl.heap.size=w.heap.size+2:=by rw[c0];simp
 rw[←c0];clear c0;have k0:=hl.keep e7;have HL:=J5 e6 j9 a7 e7 k0;clear e6 hl j9 a7 e7 k0;refine wp_loop_ghost_k (fun gg a wr=>∃(k:Nat) (Ds:List Nat) (x4 x5 x6 k1 k2 k3 k4 k5 k6 k7 k8 k9 l0 l1 l2 l3 l4 l5 l6 l7 e8 e9 h0 h3 h4 h5 h6 h7 h8 h9 i0 i1 i2 i4 i5 i6 i7 j0 j1 j2 j3:Value),a= {tmps:=#[.slice A up.length cap,.pointer (some ⟨w.heap.size,0,none⟩),.pointer (some ⟨w.heap.size+1,0,none⟩),U (oU up.length),x4,x5,x6,.slice A up.length cap,.int .i64 up.length,.bool false,.bool false,.slice A up.length cap,.int .i64 up.length,.bool false,.bool false,.slice A up.length cap,.int .i64 up.length,U (oU up.length),.slice A up.length cap,.int .i64 up.length,.int .i64 k,k1,k2,k3,k4,k5,k6,k7,k8,k9,l0,l1,l2,l3,l4,l5,l6,l7,e8,e9,h0,h3,h4,h5,h6,h7,h8,h9,i0,i1,i2,i4,i5,i6,i7,j0,j1,j2,j3],defers:=Ds.map MI}∧k≤up.length∧gg=up.length-k∧LZ up wl k Ds wr) up.length ?start ?round
 case start=>exact⟨0,[],undef,undef,undef,undef,undef,undef,undef,undef,undef,undef,undef,undef,undef,undef,undef,undef,undef,undef,undef,undef,undef,undef,undef,undef,undef,undef,undef,undef,undef,undef,undef,undef,undef,undef,undef,undef,undef,undef,undef,undef,undef,rfl,by omega,by omega,List.nodup_nil,(fun D h=>by simp at h),(fun D h=>by simp at h),kR,fun i hi=>by omega⟩
 rintro gg a wr ⟨k,Ds,x4,x5,x6,k1,k2,k3,k4,k5,k6,k7,k8,k9,l0,l1,l2,l3,l4,l5,l6,l7,e8,e9,h0,h3,h4,h5,h6,h7,h8,h9,i0,i1,i2,i4,i5,i6,i7,j0,j1,j2,j3,rfl,hk,rfl,hinv⟩ J K hJ hK;have Y:=oH hinv;have b7:=(HL.2.1.kept hinv.kept trivial).cell 0;have b8:=(HL.2.2.1.kept hinv.kept trivial).cell 0;have c4:=(HL.2.2.1.kept hinv.kept trivial).free 0;simp only[gc] at b7 b8;have n1:w.heap.size<wr.heap.size:=by have:=hinv.kept.size;omega
 have n2:w.heap.size+1<wr.heap.size:=by have:=hinv.kept.size;omega
 clear hinv;by_cases c1:k<up.length;·(
 obtain⟨b,o,rfl,_,hc⟩:=lx (dU.keep (S:=S) ((HL.2.2.2.1.trans Y.out.kept).all) HL.1) c1;have n3:b<wr.heap.size:=jy wr _ hc;have a8:=fun W=>yJ (aJ up k) k (by omega) W;cases a7:(aJ up k).getLsbD k with
 |false=>
  rw[a7] at a8;have HH:=oH a8;have b0:=oH (au (P:=dI up) fun h=>by have:=(fL.1 h).2.2 k c1;rw[uC,a7] at this;exact oG this.1);clear a8 a7;go_wp2_with (go_at_call 124;refine(HH.out _).mono ?_;rintro e w' ⟨rfl,rfl⟩);refine ld (wl:=wl) Y.out.nodup (fun D hD=>?_) Y.out.far HL.2.2.2.1 d8 ?_ ?_ rfl b0.out;·have h1:=Y.out.marks D hD;have h2:=Y.out.far D hD;exact((((aa.refl (fun c=>c≠w.heap.size+1) wr).setCell (p:=⟨w.heap.size+1,0,none⟩) (.inl (by simp)) (.bool false)).alloc (.cells #[.int .i64 k] 3)).alloc (.cells #[U (aJ up k)] 90)).block D (mV.1 h1).1 (by omega)|>.trans h1
  ·exact((Y.out.kept.all.setCell (p:=⟨w.heap.size+1,0,none⟩) (.inl (by simp)) _).alloc _).alloc _
  have:=(((HL.2.2.1.kept Y.out.kept trivial).set 0 (.bool false)).alloc (.cells #[.int .i64 k] 3)).alloc (.cells #[U (aJ up k)] 90);simpa using this
 |true=>
  rw[a7] at a8;have HH:=oH a8;clear a8;cases c2:(aJ up k&&& ~~~oU up.length !=0#64) with
  |true=>
   have b0:=oH (au (P:=dI up) fun h=>by have h2:=(fL.1 h).2.2 k c1;have:=Ce.2 h2.2.1;rw[this] at c2;simp at c2);clear a7;go_wp2_with (go_at_call 124;refine(HH.out _).mono ?_;rintro e w' ⟨rfl,rfl⟩);refine ld (wl:=wl) Y.out.nodup (fun D hD=>?_) Y.out.far HL.2.2.2.1 d8 ?_ ?_ rfl b0.out;·have h1:=Y.out.marks D hD;have h2:=Y.out.far D hD;exact((((aa.refl (fun c=>c≠w.heap.size+1) wr).setCell (p:=⟨w.heap.size+1,0,none⟩) (.inl (by simp)) (.bool false)).alloc (.cells #[.int .i64 k] 3)).alloc (.cells #[U (aJ up k)] 90)).block D (mV.1 h1).1 (by omega)|>.trans h1
   ·exact((Y.out.kept.all.setCell (p:=⟨w.heap.size+1,0,none⟩) (.inl (by simp)) _).alloc _).alloc _
   have:=(((HL.2.2.1.kept Y.out.kept trivial).set 0 (.bool false)).alloc (.cells #[.int .i64 k] 3)).alloc (.cells #[U (aJ up k)] 90);simpa using this
  |false=>
   have l8:∀j,j<64→(aJ up k).getLsbD j=true→j<up.length:=Ce.1 (by simpa using c2);have j4:=J2 l8 a7;clear l8 a7;go_wp2_with (first|(go_at_call 124;refine(HH.out _).mono ?_;rintro e w' ⟨rfl,rfl⟩)|(go_at_call 125;refine(wk _ _).mono ?_;rintro e w' ⟨rfl,rfl⟩));obtain⟨w1,b3⟩:=eQ (((wr.alloc (.cells #[.int .i64 k] 3)).alloc (.cells #[U (aJ up k)] 90)).alloc (.cells #[U (aJ up k)] 90));have l9:al w1 wr.heap.size 3 #[.int .i64 k]:=by rw[b3];exact((al.new _ _ _).alloc _).alloc _
   have m0:al w1 (wr.heap.size+1) 90 #[U (aJ up k)]:=by rw[b3];exact(ac (by simp)).alloc _
   have d9:al w1 (wr.heap.size+1+1) 90 #[U (aJ up k)]:=by rw[b3];exact ac (by simp)
   have c5:aa All wr w1:=by rw[b3];exact((kR.alloc _).alloc _).alloc _
   have n0:w1.heap.size=wr.heap.size+3:=by rw[b3];simp
   rw[←b3];clear b3;have b9:gz w1:=HL.2.2.2.2.keep (Y.out.kept.trans c5);have m1:∀D∈Ds,D<wr.heap.size:=fun D hD=>(mV.1 (Y.out.marks D hD)).1;have HA:=J4 l9 m0 c5 m1;clear l9 m0 c5 m1
   refine wpIn_wide.1 (wpIn_rangeFunc_ownF (F:=Fence.wide) (n:=8) rfl (by omega) (gf:=151) (lb:=#[.pointer (some ⟨wr.heap.size+1+1,0,none⟩)]) rfl trivial (enters_of func151 (by kernel_rfl) rfl)
    (qm 7 (by omega) (aJ up k) _ w1 b9 d9) mi (mh _) (Below.refl _ _) (fun _=>rfl)
    (fun pre W=>Ii up k pre∧aa All w1 W)
    (fun c _ W=>(Ma up c∧aa (fun b=>b≠w.heap.size+1) w1 W)∧al W (w.heap.size+1) 4 #[.bool false])
    (OwnFrom.and (ownFrom_pure _ _) (gL (cf _)))
    (fun c=>OwnFrom.and (OwnFrom.and (ownFrom_pure _ _) (gL (cf _))) iz)
    ⟨fun x hx=>by simp at hx,kR⟩
    (fun x=> {tmps:=#[.slice (some ⟨b,o,none⟩) up.length cap,.pointer (some ⟨w.heap.size,0,none⟩),.pointer (some ⟨w.heap.size+1,0,none⟩),U (oU up.length),.pointer (some ⟨wr.heap.size,0,none⟩),.pointer (some ⟨wr.heap.size+1,0,none⟩),.int .i64 (x.1:Nat),.slice (some ⟨b,o,none⟩) up.length cap,.int .i64 up.length,.bool false,.bool false,.slice (some ⟨b,o,none⟩) up.length cap,.int .i64 up.length,.bool false,.bool false,.slice (some ⟨b,o,none⟩) up.length cap,.int .i64 up.length,U (oU up.length),.slice (some ⟨b,o,none⟩) up.length cap,.int .i64 up.length,.int .i64 k,.bool true,.int .i64 k,.pointer (some ⟨b,o+k,none⟩),U (aJ up k),U (aJ up k),.int .i64 k,.bool true,.bool false,.bool false,U (aJ up k),U (oU up.length),U (aJ up k&&& ~~~oU up.length),.bool false,.bool false,U (aJ up k),.func (.func 151) #[] #[.pointer (some ⟨wr.heap.size+1+1,0,none⟩)],.int .i64 (x.1:Nat),e8,e9,h0,h3,h4,h5,h6,h7,h8,h9,i0,i1,i2,i4,i5,i6,i7,j0,j1,j2,j3],defers:=[]}) ?assign ?body ?done ?stop)
   case assign=>(intro l x W K hK;gi_wp2;exact hK)
   case stop=>(
 rintro D c pre W hD _ ⟨⟨⟨rfl,m2⟩,a6⟩,c6⟩ c7;rw[wpIn_wide];have m3:=Y.out.kept.all.trans (HA.2.2.1.all.trans a6);have HV:=J5 m2 c6 a6 c7 m3;clear m2 c6 a6 c7 m3 d9 b9 b7 b8 c4 c2;go_wp2;refine ld (Ds:=D::Ds) (wl:=wl) (List.nodup_cons.2 ⟨fun h=>by have:=HA.2.2.2 D h;omega,Y.out.nodup⟩) (fun E hE=>?_) (fun E hE=>?_) HL.2.2.2.1 d8 HV.2.2.2.2 HV.2.1 rfl (au HV.1)
 ·rcases fX.1 hE with rfl|hE;·exact HV.2.2.2.1
  have h1:=HA.2.2.2 E hE;have h2:=Y.out.far E hE;rw[HV.2.2.1.block E (by omega) (by omega),HA.2.2.1.block E h1 trivial];exact Y.out.marks E hE
 rcases fX.1 hE with rfl|hE;·have:=Y.out.kept.size;omega
 exact Y.out.far E hE)
   case done=>(
 rintro D xs W hD hS ⟨b1,a6⟩ c7;have hinv:LZ up wl (k+1) (D::Ds) W:=by(
 refine⟨List.nodup_cons.2 ⟨fun h=>by have:=HA.2.2.2 D h;omega,Y.out.nodup⟩,fun E hE=>?_,fun E hE=>?_,Y.out.kept.trans (HA.2.2.1.trans a6),fun i hi=>?_⟩
 ·rcases fX.1 hE with rfl|hE;·exact c7
  have h1:=HA.2.2.2 E hE;rw[a6.block E (by omega) trivial,HA.2.2.1.block E h1 trivial];exact Y.out.marks E hE
 ·rcases fX.1 hE with rfl|hE
  ·have:=Y.out.kept.size;omega
  exact Y.out.far E hE
 by_cases e:i=k
 ·subst e;refine⟨j4.2,j4.1,fun j hj hb=>?_⟩;have hm:j∈xs.map Subtype.val:=by rw[hS];exact ko.2 ⟨hj,hb⟩
  obtain⟨x,hx,rfl⟩:=dr.1 hm;exact b1 x hx
 exact Y.out.good i (by omega))
 have HV:=oH hinv;clear hinv hS a6 b1 c7 b9 d9 b7 b8 c4 c2;go_wp2;exact Handed.intro (up.length-(k+1)) (by omega) (hJ _ _ _ ⟨k+1,D::Ds,_,_,_,_,_,_,_,_,_,_,_,_,_,_,_,_,_,_,_,_,_,_,_,_,_,_,_,_,_,_,_,_,_,_,_,_,_,_,_,_,_,rfl,by omega,rfl,HV.out⟩))
   rintro l pre x W ⟨b1,a6⟩ _;have m7:=j4.1 x.1 x.2.1 x.2.2;have c8:∀wn,aa All W wn→wn.cell? ⟨w.heap.size,0,none⟩=some (.slice (some ⟨b,o,none⟩) up.length cap)∧wn.cell? ⟨wr.heap.size,0,none⟩=some (.int .i64 k)∧wn.cell? ⟨wr.heap.size+1,0,none⟩=some (U (aJ up k))∧wn.cell? ⟨b,o+x.1,none⟩=some (U (aJ up x.1))∧True:=fun wn C=>by have c9:=a6.trans C;have m4:=Y.out.kept.trans (HA.2.2.1.trans c9);obtain⟨b',o',e,_,m8⟩:=lx (dU.keep (S:=S) ((HL.2.2.2.1.trans m4).all) HL.1) m7;cases e;exact⟨(HL.2.1.kept m4 trivial).cell 0,(HA.1.kept c9 trivial).cell 0,(HA.2.1.kept c9 trivial).cell 0,m8,trivial⟩
   have c6:=HL.2.2.1.kept (Y.out.kept.trans (HA.2.2.1.trans a6)) trivial;have HF:=J4 c8 a6 b1 c6;have Z:=fun W=>yJ (aJ up x.1) k (by omega) W;have e0:((x.1:Int)==(k:Int))=decide (x.1=k):=by rw[Bool.eq_iff_iff,cy,iH];omega
   clear c8 a6 b1 c6 d9 b9 b7 b8 c4 c2 hc;cases j5:(aJ up x.1&&& ~~~(aJ up k) !=0#64) with
   |true=>
    have b0:Hid (¬dI up):=oH fun h=>by have h2:=(((fL.1 h).2.2 k c1).2.2 x.1 x.2.1 x.2.2).2;rw[h2] at j5;simp at j5
    clear Z e0;gi_wp2;refine fJ (aa All W) [] (fun _ _ _=>True) (fun _=>none) (by kernel_rfl) (by kernel_rfl) (by kernel_rfl) (by kernel_rfl) (by kernel_rfl) kR.drew ?_;iterate 8 (refine bG (by rfl) (by rfl) (by intro d hd;cases hd;decide) (fun wn hk hp=>by(obtain⟨e1,e2,e3,e4,e5⟩:=HF.1 wn hk;go_simp;with_reducible rfl)) ?_;simp only[PS])
    iterate 11 (refine jf (by rfl) (by intro d hd;cases hd;decide) ?_;simp only[PS])
    iterate 1 (refine bG (by rfl) (by rfl) (by intro d hd;cases hd;decide) (fun wn hk hp=>by(obtain⟨e1,e2,e3,e4,e5⟩:=HF.1 wn hk;go_simp;with_reducible rfl)) ?_;simp only[PS])
    refine dQ fun wn C _=>?_;have a1:=HF.2.1.trans C;have R:=HF.2.2.2.kept C trivial;have b4:=R.cell 0;have j6:=R.free 0;simp only[gc] at b4;have HN:=J3 C a1 R;clear C a1 R;gi_wp2;refine⟨(KeepsOthers.of_kept HN.1).trans (KeepsOthers.setCell _ _ _),⟨⟨rfl,b0.out⟩,HN.2.1.all.setCell (p:=⟨w.heap.size+1,0,none⟩) (.inl (by simp)) _⟩,?_⟩;have:=HN.2.2.set 0 (.bool false);simpa using this
   |false=>
    have b2:aJ up x.1&&& ~~~(aJ up k)=0#64:=by simpa using j5
    by_cases c3:x.1=k;·(
 have m9:((x.1:Int) !=(k:Int))=false:=by simp[c3]
 have d7:Hid (qN up k x.1):=oH ⟨fun h=>absurd c3 h,b2⟩;clear Z e0 b2 c3;gi_wp2;refine fJ (aa All W) [] (fun _ _ _=>True) (fun _=>none) (by kernel_rfl) (by kernel_rfl) (by kernel_rfl) (by kernel_rfl) (by kernel_rfl) kR.drew ?_;iterate 12 (refine bG (by rfl) (by rfl) (by intro d hd;cases hd;decide) (fun wn hk hp=>by(obtain⟨e1,e2,e3,e4,e5⟩:=HF.1 wn hk;go_simp;with_reducible rfl)) ?_;simp only[PS])
 iterate 6 (refine jf (by rfl) (by intro d hd;cases hd;decide) ?_;simp only[PS])
 iterate 2 (refine bG (by rfl) (by rfl) (by intro d hd;cases hd;decide) (fun wn hk hp=>by(obtain⟨e1,e2,e3,e4,e5⟩:=HF.1 wn hk;go_simp;with_reducible rfl)) ?_;simp only[PS])
 refine dQ fun wn C _=>?_;have a1:=HF.2.1.trans C;have R:=HF.2.2.2.kept C trivial;have b4:=R.cell 0;have j6:=R.free 0;simp only[gc] at b4;have HN:=J3 C a1 R;clear C a1 R;gi_wp2;refine⟨KeepsOthers.of_kept HN.1,eq.of_kept HN.1,fun y hy=>?_,HN.2.1⟩;rcases eD.1 hy with hy|hy;·exact HF.2.2.1 y hy
 rw[cx.1 hy];exact d7.out)
    have m9:((x.1:Int) !=(k:Int))=true:=by simp;omega
    cases b5:(aJ up x.1).getLsbD k with
    |true=>
     have b0:Hid (¬dI up):=oH fun h=>by have h2:=(((fL.1 h).2.2 k c1).2.2 x.1 x.2.1 x.2.2).1 c3;rw[h2] at b5;cases b5
     rw[b5] at Z;have H2:=oH Z;clear Z e0 b2 b5 c3;gi_wp2;refine fJ (aa All W) [] (fun _ _ _=>True) (fun k=>if k=17 then some (fun v=>v=.bool true) else none) (by kernel_rfl) (by kernel_rfl) (by kernel_rfl) (by kernel_rfl) (by kernel_rfl) kR.drew ?_;iterate 17 (refine bG (by rfl) (by rfl) (by intro d hd;cases hd;decide) (fun wn hk hp=>by(obtain⟨e1,e2,e3,e4,e5⟩:=HF.1 wn hk;go_simp;with_reducible rfl)) ?_;simp only[PS])
     (refine gi (by rfl) (by rfl) (fun wn hk hp=>?_) ?_
      ·obtain⟨e1,e2,e3,e4,e5⟩:=HF.1 wn hk;go_simp;simp only[kl];refine(H2.out _).mono ?_;rintro e2 wq ⟨rfl,rfl⟩;exact⟨_,rfl,rfl,hk,fun _ _ _ _=>trivial,fun _ _ _=>trivial⟩
      rintro v rfl;simp only[PS])
     iterate 2 (refine bG (by rfl) (by rfl) (by intro d hd;cases hd;decide) (fun wn hk hp=>by(obtain⟨e1,e2,e3,e4,e5⟩:=HF.1 wn hk;go_simp;with_reducible rfl)) ?_;simp only[PS])
     refine dQ fun wn C _=>?_;have a1:=HF.2.1.trans C;have R:=HF.2.2.2.kept C trivial;have b4:=R.cell 0;have j6:=R.free 0;simp only[gc] at b4;have HN:=J3 C a1 R;clear C a1 R;gi_wp2;refine⟨(KeepsOthers.of_kept HN.1).trans (KeepsOthers.setCell _ _ _),⟨⟨rfl,b0.out⟩,HN.2.1.all.setCell (p:=⟨w.heap.size+1,0,none⟩) (.inl (by simp)) _⟩,?_⟩;have:=HN.2.2.set 0 (.bool false);simpa using this
    |false=>
     have d7:Hid (qN up k x.1):=oH ⟨fun _=>b5,b2⟩;rw[b5] at Z;have H2:=oH Z;clear Z e0 b2 b5 c3;gi_wp2;refine fJ (aa All W) [] (fun _ _ _=>True) (fun k=>if k=17 then some (fun v=>v=.bool false) else none) (by kernel_rfl) (by kernel_rfl) (by kernel_rfl) (by kernel_rfl) (by kernel_rfl) kR.drew ?_;iterate 17 (refine bG (by rfl) (by rfl) (by intro d hd;cases hd;decide) (fun wn hk hp=>by(obtain⟨e1,e2,e3,e4,e5⟩:=HF.1 wn hk;go_simp;with_reducible rfl)) ?_;simp only[PS])
     (refine gi (by rfl) (by rfl) (fun wn hk hp=>?_) ?_
      ·obtain⟨e1,e2,e3,e4,e5⟩:=HF.1 wn hk;go_simp;simp only[kl];refine(H2.out _).mono ?_;rintro e2 wq ⟨rfl,rfl⟩;exact⟨_,rfl,rfl,hk,fun _ _ _ _=>trivial,fun _ _ _=>trivial⟩
      rintro v rfl;simp only[PS])
     iterate 2 (refine bG (by rfl) (by rfl) (by intro d hd;cases hd;decide) (fun wn hk hp=>by(obtain⟨e1,e2,e3,e4,e5⟩:=HF.1 wn hk;go_simp;with_reducible rfl)) ?_;simp only[PS])
     refine dQ fun wn C _=>?_;have a1:=HF.2.1.trans C;have R:=HF.2.2.2.kept C trivial;have b4:=R.cell 0;have j6:=R.free 0;simp only[gc] at b4;have HN:=J3 C a1 R;clear C a1 R;gi_wp2;refine⟨KeepsOthers.of_kept HN.1,eq.of_kept HN.1,fun y hy=>?_,HN.2.1⟩;rcases eD.1 hy with hy|hy;·exact HF.2.2.1 y hy
     rw[cx.1 hy];exact d7.out)
 obtain rfl:k=up.length:=by omega
 have HY:=oH (av (P:=dI up) (fL.2 ⟨j8,j7,Y.out.good⟩));clear c1 hk;go_wp2;refine ld (wl:=wl) Y.out.nodup (fun D hD=>?_) Y.out.far HL.2.2.2.1 d8 (Y.out.kept.all.setCell (p:=⟨w.heap.size+1,0,none⟩) (.inl (by simp)) _) ?_ rfl HY.out
 ·have h2:=Y.out.far D hD
  rw[pI _ _ _ _ (by simp only;omega)];exact Y.out.marks D hD
 have:=(HL.2.2.1.kept Y.out.kept trivial).set 0 (.bool true);simpa using this
end
section
open Go.RowKit Go.Shelf
attribute [local go_sem] lh qb xr ju nA nE nB nC ms rq nD wL pD
attribute [local go_sem] pm lU jt mU List.getElem?_toArray List.getElem?_cons_zero
def qP (up:List (BitVec 64)):Prop:=∀a,a<up.length→∀b,b<a→0≤gq up (aJ up a&&&aJ up b)
theorem Ax (up:List (BitVec 64))(set:BitVec 64): -1≤gq up set∧gq up set<64:=wP _ _
theorem ye (S:Nat→Prop)(v:Value)(up:List (BitVec 64))(w:World)(hv:nZ S w v up)(hl:gz w)(b8:up.length≤64)(a6:∀i,i<up.length→∀k,k<64→(aJ up i).getLsbD k=true→k<up.length):
 Calls prog 82 #[v] w fun e w'=>e=.returned (.bool (pB (qP up)))∧aa All w w':=by
 have a7:=hv;obtain⟨A,cap,rfl,h1,h2,_,_⟩:=hv;unfold maxLen at h2;have HL:=J3 a7 hl a6;clear a7 hl a6;go_enter func82,ntmps82;go_wp2;go_loopg [7] up.length (fun g i wr=>∃a:Nat,a≤up.length∧g=up.length-a∧i=.int .i64 a∧aa All w wr∧∀x,x<a→∀b,b<x→0≤gq up (aJ up x&&&aJ up b));·exact⟨0,by omega,by omega,rfl,kR,fun x hx=>by omega⟩
 obtain⟨a,ha,rfl,rfl,j,l⟩:=hrel;have HA:=J2 j l;clear j l;by_cases Z:a<up.length;·(
 go_wp2;obtain⟨wa,b3⟩:=eQ wr;go_loopg [11] a (fun g i wr=>∃b:Nat,b≤a∧g=a-b∧i=.int .i64 b∧aa All w wr∧∀x,x<b→0≤gq up (aJ up a&&&aJ up x));·exact⟨0,by omega,by omega,rfl,HA.1,fun x hx=>by omega⟩
 clear b3;obtain⟨b,hb,rfl,rfl,j,l⟩:=hrel;have Y:=J2 j l;clear j l;by_cases a8:b<a;·(
 have C:∀wn,aa All wr wn→∃bb o,A=some ⟨bb,o,none⟩∧wn.cell? ⟨bb,o+a,none⟩=some (U (aJ up a))∧wn.cell? ⟨bb,o+b,none⟩=some (U (aJ up b)):=fun wn a1=>by have hu:=dU.keep (S:=S) ((Y.1.trans a1).all) HL.1;obtain⟨bb,o,e,_,hc⟩:=lx hu Z;obtain⟨b9,o',e',_,b4⟩:=lx hu (show b<up.length by omega);rw[e] at e';cases e';exact⟨bb,o,e,hc,b4⟩
 obtain⟨bb,o,rfl,_⟩:=C wr kR;have J:∀wn,aa All wr wn→wn.cell? ⟨bb,o+a,none⟩=some (U (aJ up a))∧wn.cell? ⟨bb,o+b,none⟩=some (U (aJ up b)):=fun wn a1=>by obtain⟨b',o',e,h3,h4⟩:=C wn a1;cases e;exact⟨h3,h4⟩
 have R:=fun wn (j:aa All wr wn)=>Dm S _ up (aJ up a&&&aJ up b) wn (dU.keep ((Y.1.trans j).all) HL.1) (HL.2.1.keep (Y.1.trans j)) (fun k b0 b1=>by rw[BitVec.getLsbD_and,gE] at b1;exact HL.2.2 a Z k b0 b1.1);have c0:=Ax up (aJ up a&&&aJ up b);have HC:=J2 J R;have hx:gq up (aJ up a&&&aJ up b)=gq up (aJ up a&&&aJ up b):=rfl;clear C J R;generalize hr:gq up (aJ up a&&&aJ up b)=r at*;have HR:=oH hr;clear hr hx;have b7:b<up.length:=by omega
 go_wp2_with fail;refine eK (aa All wr) [] (fun _ _ _=>True) (fun k=>if k=10 then some (fun v=>v=.int .i64 r) else none) (by kernel_rfl) (by kernel_rfl) (by kernel_rfl) (by kernel_rfl) kR.drew ?_;iterate 10 (refine bG (by rfl) (by rfl) (by intro d hd;cases hd;decide) (fun wn j hp=>by(obtain⟨e1,e2⟩:=HC.1 wn j;go_simp;with_reducible rfl)) ?_;simp only[PS])
 refine gi (by rfl) (by rfl) (fun wn j hp=>?_) ?_;·go_simp;simp only[kl];refine(HC.2 wn j).mono ?_;rintro e2 wq ⟨rfl,b5⟩;exact⟨_,rfl,rfl,j.trans b5,fun _ _ _ _=>trivial,fun _ _ _=>trivial⟩
 rintro v rfl;simp only[PS];by_cases b2:r<0
 ·have hd:decide (r<0)=true:=by simpa using b2
  have b6:=oH (au (P:=qP up) fun h=>by have:=h a Z b a8;rw[HR.out] at this;omega);iterate 1 (refine bG (by rfl) (by rfl) (by intro d hd;cases hd;decide) (fun wn j hp=>by(go_simp;with_reducible rfl)) ?_;simp only[PS])
  refine dQ fun wn j _=>?_;have HN:=oH (Y.1.trans j);clear j;go_wp2;go_ret;exact⟨by rw[b6.out];rfl,HN.out⟩
 have hd:decide (r<0)=false:=by simpa using b2
 iterate 1 (refine bG (by rfl) (by rfl) (by intro d hd;cases hd;decide) (fun wn j hp=>by(go_simp;with_reducible rfl)) ?_;simp only[PS])
 refine dQ fun wn j _=>?_;have HN:=oH (Y.1.trans j);clear j;go_wp2;go_roundg (a-(b+1))
 ·refine⟨b+1,by omega,rfl,by go_num,HN.out,fun x hx=>?_⟩
  by_cases e:x=b;·subst e;rw[HR.out];omega
  exact Y.2 x (by omega)
 omega)
 obtain rfl:b=a:=by omega
 go_wp2;go_roundg (up.length-(b+1))
 ·refine⟨b+1,by omega,rfl,by go_num,Y.1,fun x hx=>?_⟩
  by_cases e:x=b;·subst e;exact Y.2
  exact HA.2 x (by omega)
 omega)
 obtain rfl:a=up.length:=by omega
 have HY:=oH (av (P:=qP up) HA.2);go_wp2;go_ret;exact⟨by rw[HY.out];rfl,HA.1⟩
theorem Eo {up:List (BitVec 64)}:∀i,i<(dE up).length→∀k,k<64→(aJ (dE up) i).getLsbD k=true→k<(dE up).length:=by intro i hi k l j;rw[kF] at hi⊢;rw[eI hi l,gE,iH] at j;exact j.1
theorem Gc {up:List (BitVec 64)}(o:dI up):ue up↔qP up∧qP (dE up):=by
 constructor
 ·rintro⟨_,h⟩;refine⟨fun a j b l=>?_,fun a j b l=>?_⟩;·rw[sQ o j (by omega)];exact(h a j b l).1
  rw[kF] at j;rw[sR o j (by omega)];exact(h a j b l).2
 rintro⟨C,J⟩;refine⟨o,fun a j b l=>⟨?_,?_⟩⟩;·rw[←sQ o j (by omega)];exact C a j b l
 rw[←sR o j (by omega)];exact J a (by rw[kF];exact j) b l
theorem AK {P Q:Prop}:pB (P∧Q)=(pB P&&pB Q):=by
 by_cases h:P
 ·by_cases k:Q
  ·rw[av h,av k,av ⟨h,k⟩];rfl
  rw[av h,au k,au fun x=>k x.2];rfl
 rw[au h,au fun x=>h x.1];rfl
theorem kC {P Q:Prop}(h:P↔Q):pB P=pB Q:=by rw[propext h]
theorem wU (S:Nat→Prop)(v:Value)(up:List (BitVec 64))(w:World)(hv:nZ S w v up)(hl:gz w):
 Calls prog 60 #[v] w fun e w'=>e=.returned (.bool (pB (ue up)))∧aa All w w':=by
 have j:=DC S v up w hv hl;by_cases Y:dI up
 ·rw[av Y] at j;have a1:∀i,i<up.length→∀k,k<64→(aJ up i).getLsbD k=true→k<up.length:=fun i hi k hk hb=>((Y.2.2 i hi).2 k hk hb).1;have o:=fun wn (hk:aa All w wn)=>ye S v up wn (dU.keep hk.all hv) (hl.keep hk) Y.2.1 a1;have C:=fun wn (hk:aa All w wn)=>Bu S v up wn (dU.keep hk.all hv) (hl.keep hk) Y.2.1 a1;have Z:=J5 (kC (Gc Y)) j o C hl;have a8:=Y.2.1;clear j o C a1 hv Y hl;have HX:=oH (AK (P:=qP up) (Q:=qP (dE up)));cases he:pB (qP up) with
  |false=>have HE:=oH he;clear he;go_enter func60,ntmps60;go_wp2_with fail;refine Z.2.1.mono ?_;rintro e w1 ⟨rfl,l⟩;have H1:=oH l;clear l;go_wp2_with fail;refine(Z.2.2.1 w1 H1.out).mono ?_;rw[HE.out];rintro e w2 ⟨rfl,J⟩;have H2:=oH (H1.out.trans J);clear J;go_wp2_with fail;go_ret;exact⟨by rw[Z.1,HX.out,HE.out];rfl,H2.out⟩
  |true=>have HE:=oH he;clear he;go_enter func60,ntmps60;go_wp2_with fail;refine Z.2.1.mono ?_;rintro e w1 ⟨rfl,l⟩;have H1:=oH l;clear l;go_wp2_with fail;refine(Z.2.2.1 w1 H1.out).mono ?_;rw[HE.out];rintro e w2 ⟨rfl,J⟩;have H2:=oH (H1.out.trans J);clear J;go_wp2_with fail;refine(Z.2.2.2.1 w2 H2.out).mono ?_;rintro e w3 ⟨u,rfl,a6,hu⟩;have R:=ye _ u (dE up) w3 hu (Z.2.2.2.2.keep (H2.out.trans a6)) (by rw[kF];exact a8) Eo;have H3:=J2 (H2.out.trans a6) R;clear a6 R hu;go_wp2_with fail;refine H3.2.mono ?_;rintro e w4 ⟨rfl,a7⟩;have H4:=oH (H3.1.trans a7);clear a7;go_wp2_with fail;go_ret;exact⟨by rw[Z.1,HX.out,HE.out,Bool.true_and];rfl,H4.out⟩
 rw[au Y] at j;have b0:=oH (au (P:=ue up) fun h=>Y h.1);have Z:=oH j;clear j Y hv hl;go_enter func60,ntmps60;go_wp2_with fail;refine Z.out.mono ?_;rintro e w1 ⟨rfl,l⟩;have H1:=oH l;clear l;go_wp2_with fail;go_ret;exact⟨by rw[b0.out];rfl,H1.out⟩
end
theorem AC {p:aH}{k:Nat}{s:ByteArray}(h:p.MZ[k]? =some s):0≤eZ p s:=by unfold eZ gJ;have:p.MZ.any (fun y=>y.toList==s.toList)=true:=mW.2 ⟨s,mG h,by simp⟩;rw[ap this];omega
theorem Bs {S:Nat→Prop}{w:World}{A:Option Addr}{n c:Nat}{l:List ByteArray}(h:gB S w (.slice A n c) l){i:Nat}{s:ByteArray}(hi:l[i]? =some s):∃b o,A=some ⟨b,o,none⟩∧S b∧w.cell? ⟨b,o+i,none⟩=some (.string s):=by obtain⟨a,cap,j,_,_,_,h⟩:=h;injection j with C Y Z;subst C;obtain⟨b,o,c',e,J,R,rfl⟩:=h i _ hi;exact⟨b,o,e,J,R⟩
def pk (p:aH)(i:Nat)(s:ByteArray):Prop:=aB s=true∧eZ p s=i
theorem mo (S:Nat→Prop)(v:Value)(p:aH)(w:World)(hv:dJ S w v p)(hl:gz w):
 Calls prog 44 #[v] w fun e w'=>e=.returned (.bool (pB (dD p)))∧aa All w w':=by
 have b3:=hv;obtain⟨a,b,c,d,rfl,h1,h2,h3,h4,h5⟩:=hv;have c3:=h1;have c5:=h2;obtain⟨a1,a8,rfl,k1,k2,k3,_⟩:=h1;obtain⟨a2,b0,rfl,m1,m2,m3,_⟩:=h2;unfold maxLen at k2 m2;have c6:aa All w (w.alloc (.cells #[.slice a1 p.MZ.length a8,.slice a2 p.up.length b0,c,d,.int .i64 p.Nc] 26)):=(aa.refl All w).alloc _;have c7:al (w.alloc (.cells #[.slice a1 p.MZ.length a8,.slice a2 p.up.length b0,c,d,.int .i64 p.Nc] 26)) w.heap.size 26 #[.slice a1 p.MZ.length a8,.slice a2 p.up.length b0,c,d,.int .i64 p.Nc]:=al.new _ _ _;have b6:=fun wn (hk:aa All w wn)=>wU S _ p.up wn (dU.keep hk.all c5) (hl.keep hk);have b7:=fun wn s (hk:aa All w wn)=>qB S _ p s wn (cB.keep hk.all b3);have c8:=fun wn (hk:aa All w wn)=>qU S S _ _ p p.Nb wn (cB.keep hk.all b3) (aX.keep hk.all h3);have b8:=fun wn (hk:aa All w wn)=>qU S S _ _ p p.Na wn (cB.keep hk.all b3) (aX.keep hk.all h4);obtain⟨d1,d2⟩:=rs h5;have Z:=J6 c3 b7 c8 b8 c6 c7;have b4:=oH b6;obtain⟨ai,h6,rfl,_⟩:=h3;obtain⟨ao,h7,rfl,_⟩:=h4;clear c3 c5 b7 c8 b8 c6 c7 b6 b3 hl h5;go_enter func44,ntmps44;by_cases j:p.MZ.length=p.up.length;·(
 have e6:((p.up.length:Int) !=(p.MZ.length:Int))=false:=by simp[j]
 by_cases hL:ue p.up;·(
 have c1:=oH (av hL);by_cases c9:p.Nc<1
 ·have e7:decide (p.Nc<1)=true:=by simpa using c9
  have R:=oH (au (P:=dD p) fun h=>by have:=h.2.2.1;omega);have HE:=oH j;clear j hL;go_wp2_with (go_at_call 60;refine(b4.out _ Z.2.2.2.2.1).mono ?_;rw[c1.out];rintro e w1 ⟨rfl,J⟩;have l:=Z.2.2.2.2.2.kept J trivial;have c4:=l.cell 4;simp only[gc] at c4;have H1:=J2 J l;clear J l);go_ret;exact⟨by rw[R.out];rfl,Z.2.2.2.2.1.trans H1.1⟩
 have e7:decide (p.Nc<1)=false:=by simpa using c9
 by_cases d7:64<p.Nc
 ·have e8:decide (64<p.Nc)=true:=by simpa using d7
  have R:=oH (au (P:=dD p) fun h=>by have:=h.2.2.2.1;omega);have HE:=oH j;clear j hL;go_wp2_with (go_at_call 60;refine(b4.out _ Z.2.2.2.2.1).mono ?_;rw[c1.out];rintro e w1 ⟨rfl,J⟩;have l:=Z.2.2.2.2.2.kept J trivial;have c4:=l.cell 4;simp only[gc] at c4;have H1:=J2 J l;clear J l);go_ret;exact⟨by rw[R.out];rfl,Z.2.2.2.2.1.trans H1.1⟩
 have e8:decide (64<p.Nc)=false:=by simpa using d7
 have HP:Hid ((∀(i:Nat) s,p.MZ[i]? =some s→pk p i s)∧cE p p.Nb∧cE p p.Na↔dD p):=oH ⟨fun h=>⟨j,hL,by omega,by omega,h.1,h.2.1,h.2.2⟩,fun h=>⟨h.2.2.2.2.1,h.2.2.2.2.2.1,h.2.2.2.2.2.2⟩⟩;have HE:=oH j;clear j hL;go_wp2_with (go_at_call 60;refine(b4.out _ Z.2.2.2.2.1).mono ?_;rw[c1.out];rintro e w1 ⟨rfl,J⟩;have l:=Z.2.2.2.2.2.kept J trivial;have c4:=l.cell 4;have c0:=l.cell 0;simp only[gc] at c4 c0;have H1:=J2 J l;clear J l);clear c4 c0;go_loopg [33] p.MZ.length (fun g i wr=>∃k:Nat,k≤p.MZ.length∧g=p.MZ.length-k∧i=.int .i64 k∧aa All w1 wr∧∀(i:Nat) s,i<k→p.MZ[i]? =some s→pk p i s);·exact⟨0,by omega,by omega,rfl,kR,fun i s hi=>by omega⟩
 obtain⟨k,hk,rfl,rfl,b5,b9⟩:=hrel;have d8:=(Z.2.2.2.2.1.trans H1.1).trans b5;have l:=H1.2.kept b5 trivial;obtain⟨h8,h9,i0,i1,i2⟩:=l.c5;have HA:=J4 b5 b9 d8 l;clear b5 b9 d8 l;by_cases d9:k<p.MZ.length;·(
 obtain⟨s,hs⟩:=eG d9;obtain⟨bb,o,rfl,_,hc⟩:=Bs (ax.keep (S:=S) HA.2.2.1.all Z.1) hs;have b1:=AC hs;have c2:=Z.2.1 wr s HA.2.2.1;have e9:=kT (fun x:ByteArray=>x.toList==s.toList) p.MZ;rw[show gJ (fun x:ByteArray=>x.toList==s.toList) p.MZ=eZ p s from rfl] at e9;rw[show lH (eZ p s)=.tuple #[.int .i64 (eZ p s),.bool true] by rw[lH,Int.max_eq_left b1,bL b1]] at c2;have a6:pk p k s↔aB s=true∧eZ p s=k:=Iff.rfl;have e0:=fun wn=>vK s wn;have HC:=J3 c2 e0 hs;clear c2 e0 hs;generalize aB s=nm at*;generalize eZ p s=r at*;cases nm with
 |false=>
  have R:=oH (au (P:=dD p) fun h=>by have:=a6.1 ((HP.2 h).1 k s HC.2.2);exact Bool.noConfusion this.1);clear a6
  go_wp2_with (first
   |(go_at_call 61;refine HC.1.mono ?_;rintro e w2 ⟨rfl,C⟩;have H2:=oH C;clear C)
   |(go_at_call 62;refine(HC.2.1 _).mono ?_;rintro e w3 ⟨rfl,Y⟩;have H3:=oH Y;clear Y))
  go_ret;exact⟨by rw[R.out];rfl,(HA.2.2.1.trans H2.out).trans H3.out⟩
 |true=>
  by_cases a7:r=(k:Int);·(
 have hx:(r !=(k:Int))=false:=by simpa using a7
 have e1:=oH (a6.2 ⟨rfl,a7⟩);clear a6 a7
 go_wp2_with (first
  |(go_at_call 61;refine HC.1.mono ?_;rintro e w2 ⟨rfl,C⟩;have H2:=oH C;clear C)
  |(go_at_call 62;refine(HC.2.1 _).mono ?_;rintro e w3 ⟨rfl,Y⟩;have H3:=oH Y;clear Y))
 go_roundg (p.MZ.length-(k+1))
 ·refine⟨k+1,by omega,rfl,by go_num,(HA.1.trans H2.out).trans H3.out,fun i t hi ht=>?_⟩
  by_cases e:i=k;·subst e;rw[HC.2.2] at ht;cases ht;exact e1.out
  exact HA.2.1 i t (by omega) ht
 omega)
  have hx:(r !=(k:Int))=true:=by simpa using a7
  have R:=oH (au (P:=dD p) fun h=>by have:=a6.1 ((HP.2 h).1 k s HC.2.2);exact a7 this.2);clear a6 a7
  go_wp2_with (first
   |(go_at_call 61;refine HC.1.mono ?_;rintro e w2 ⟨rfl,C⟩;have H2:=oH C;clear C)
   |(go_at_call 62;refine(HC.2.1 _).mono ?_;rintro e w3 ⟨rfl,Y⟩;have H3:=oH Y;clear Y))
  go_ret;exact⟨by rw[R.out];rfl,(HA.2.2.1.trans H2.out).trans H3.out⟩)
 obtain rfl:k=p.MZ.length:=by omega
 have b2:∀(i:Nat) s,p.MZ[i]? =some s→pk p i s:=fun i s hs=>HA.2.1 i s (lS.1 hs).1 hs;have e2:=oH (kC (P:=dD p) (Q:=cE p p.Nb∧cE p p.Na) ⟨fun h=>(HP.2 h).2,fun h=>HP.1 ⟨b2,h⟩⟩);have HX:=oH (AK (P:=cE p p.Nb) (Q:=cE p p.Na));have e3:=Z.2.2.1 wr HA.2.2.1;have e4:=Z.2.2.2.1;generalize pB (cE p p.Nb)=bi at*;generalize pB (cE p p.Na)=bo at*;have HC:=J2 e3 e4;clear e3 e4 b2 hk d9;cases bi with
 |false=>go_wp2_with fail;refine HC.1.mono ?_;rintro e w2 ⟨rfl,C⟩;have H2:=oH C;clear C;go_wp2_with fail;go_ret;exact⟨by rw[e2.out,HX.out];rfl,HA.2.2.1.trans H2.out⟩
 |true=>go_wp2_with fail;refine HC.1.mono ?_;rintro e w2 ⟨rfl,C⟩;have e5:=HA.2.2.2.kept C trivial;obtain⟨i4,i5,i6,i7,j0⟩:=e5.c5;have H2:=oH (HA.2.2.1.trans C);clear C e5;go_wp2_with fail;refine(HC.2 w2 H2.out).mono ?_;rintro e w3 ⟨rfl,Y⟩;have H3:=oH (H2.out.trans Y);clear Y;go_wp2_with fail;go_ret;exact⟨by rw[e2.out,HX.out,Bool.true_and];rfl,H3.out⟩)
 have h0:=oH (au hL);have R:=oH (au (P:=dD p) fun h=>hL h.2.1);have HE:=oH j;clear j hL;go_wp2_with (go_at_call 60;refine(b4.out _ Z.2.2.2.2.1).mono ?_;rw[h0.out];rintro e w1 ⟨rfl,J⟩;have H1:=oH J;clear J);go_ret;exact⟨by rw[R.out];rfl,Z.2.2.2.2.1.trans H1.out⟩)
 have e6:((p.up.length:Int) !=(p.MZ.length:Int))=true:=by simp;omega
 have R:=oH (au (P:=dD p) fun h=>j h.1);clear j;go_wp2_with fail;go_ret;exact⟨by rw[R.out];rfl,Z.2.2.2.2.1⟩
end Go.Proofs.YtncdbjponknakaaGreatDoor
