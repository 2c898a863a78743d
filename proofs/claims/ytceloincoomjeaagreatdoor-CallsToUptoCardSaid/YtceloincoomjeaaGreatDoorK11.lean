/- Part 12 of the proof of CallsTo (its last part says what is proved). No condition. -/
import Derived.Test.YtceloincoomjeaaGreatDoorK10
namespace Go.Proofs.YtceloincoomjeaaGreatDoor
set_option maxRecDepth 100000
set_option maxHeartbeats 8000000
open Go.RowKit Go.Proofs.Tryz
section
open Go.RowKit Go.Shelf
attribute [local go_sem] lh qb xr ju nA nE nB nC ms rq nD wL pD
attribute [local go_sem] Oper.semAt_some
attribute [local go_sem] pm lU jt mU List.getElem?_toArray List.getElem?_cons_zero
def qN (up:List (BitVec 64))(i k:Nat):Prop:=(k≠i→(aJ up k).getLsbD i=false)∧aJ up k&&& ~~~(aJ up i)=0#64
def uC (up:List (BitVec 64))(i:Nat):Prop:=(aJ up i).getLsbD i=true∧(∀k,k<64→(aJ up i).getLsbD k=true→k<up.length)∧∀k,k<64→(aJ up i).getLsbD k=true→qN up i k
theorem fL {up:List (BitVec 64)}:dI up↔1≤up.length∧up.length≤64∧∀i,i<up.length→uC up i:=by
 constructor
 ·rintro⟨o,C,h⟩
  exact⟨o,C,fun i hi=>⟨(h i hi).1,fun k j l=>((h i hi).2 k j l).1,fun k j l=>((h i hi).2 k j l).2⟩⟩
 rintro⟨o,C,h⟩;exact⟨o,C,fun i hi=>⟨(h i hi).1,fun k j l=>⟨(h i hi).2.1 k j l,(h i hi).2.2 k j l⟩⟩⟩
theorem Ce {m:BitVec 64}{n:Nat}:m&&& ~~~(oU n)=0#64↔∀k,k<64→m.getLsbD k=true→k<n:=by
 rw[pZ];refine⟨fun h k j l=>?_,fun h k j l=>?_⟩
 ·have:=h k j l
  rw[yD n k j] at this;exact of_decide_eq_true this
 rw[yD n k j];exact bL (h k j l)
def Ii (up:List (BitVec 64))(i:Nat)(pre:List (zD (aJ up i))):Prop:=∀x∈pre,qN up i x.1
def Ma (up:List (BitVec 64))(c:Code):Prop:=c=.ret∧¬dI up
structure LZ (up:List (BitVec 64))(wl:World)(k:Nat)(Ds:List Nat)(wr:World):Prop where
 nodup:Ds.Nodup
 marks:∀D∈Ds,wr.heap[D]? =some (.deferred (some []))
 far:∀D∈Ds,wl.heap.size≤D
 kept:aa All wl wr
 good:∀i,i<k→uC up i
theorem ld {up:List (BitVec 64)}{w wl W:World}{Ds:List Nat}{tmps:Array Value}{b:Bool}(R:Ds.Nodup)(Y:∀D∈Ds,W.heap[D]? =some (.deferred (some [])))(I:∀D∈Ds,wl.heap.size≤D)(l:aa All w wl)(Z:wl.heap.size=w.heap.size+2)
 (o:aa (fun c=>c≠w.heap.size+1) wl W) (hb:al W (w.heap.size+1) 4 #[.bool b]) (ht:tmps[2]? =some (.pointer (some ⟨w.heap.size+1,0,none⟩))) (hv:pB (dI up)=b):
 LeavesInM Fence.wide 8 prog Tryz.f126 tmps (fun e J=>e=.returned (.bool (pB (dI up)))∧aa All w J) (Ds.map MI) .returning W:=by
 refine mj Ds _ R Y fun J j=>?_;have C:=(hb.kept j (fun hm=>by have:=I _ hm;omega)).cell 0;simp only[gc] at C;refine⟨.bool b,?_,by rw[hv],j.os.trans (o.os.trans l.os),j.output.trans (o.output.trans l.output),fR l.size (fR o.size j.size),fun c C _=>?_⟩;·simp[results,Tryz.f126,go_sem,C,ht]
 have:=o.size;rw[j.block c (by omega) (fun hm=>by have:=I _ hm;omega),o.block c (by omega) (by omega)];exact l.block c C trivial
theorem DC (S:Nat→Prop)(v:Value)(up:List (BitVec 64))(w:World)(hv:nZ S w v up)(hl:gz w):
 Calls prog 126 #[v] w fun e w'=>e=.returned (.bool (pB (dI up)))∧aa All w w':=by
 have e0:=hv;obtain⟨A,cap,rfl,h1,h2,_,_⟩:=hv;unfold maxLen at h2;refine(callsIn_wide (n:=8)).1 ?_;refine callsIn_of_wp_marks func126 rfl trivial ?_ rfl;simp only[ntmps126,List.size_toArray,kI,List.length_nil,Nat.reduceAdd,Nat.reduceSub,Array.replicate_succ,Array.replicate_zero,List.push_toArray,List.append_toArray,mF,List.cons_append];rw[wpIn_wide];by_cases hn:up.length<1∨64<up.length
 ·have a8:=oH (au (P:=dI up) fun h=>by have:=h.1;have:=h.2.1;omega);have hr:decide ((up.length:Int)<1)=true∨(decide ((up.length:Int)<1)=false∧decide ((64:Int)<up.length)=true):=by simp only[iH,decide_eq_false_iff_not];omega
  clear hn e0 hl;rcases hr with hr|⟨hr,m4⟩
  all_goals
   go_wp2;refine⟨.bool false,?_,by rw[a8.out],((aa.refl All w).alloc _).alloc _⟩;simp[results,Tryz.f126,go_sem]
 have hr:decide ((up.length:Int)<1)=false:=by simp;omega
 have m4:decide ((64:Int)<up.length)=false:=by simp;omega
 have j6:up.length≤64:=by omega
 have j7:1≤up.length:=by omega
 have b5:=fun W=>AD up.length j6 W;have m5:=oH b5;clear b5 hn;go_wp2_with (go_at_call 165;refine(m5.out _).mono ?_;rintro e w' ⟨rfl,rfl⟩);obtain⟨wl,b9⟩:=eQ ((w.alloc (.cells #[.slice A up.length cap] 23)).alloc (.cells #[.bool false] 4));have j8:al wl w.heap.size 23 #[.slice A up.length cap]:=by rw[b9];exact(al.new _ _ _).alloc _
 have a6:al wl (w.heap.size+1) 4 #[.bool false]:=by rw[b9];exact ac (by simp)
 have e6:aa All w wl:=by rw[b9];exact(kR.alloc _).alloc _
 have d7:wl.heap.size=w.heap.size+2:=by rw[b9];simp
 rw[←b9];clear b9;have j9:=hl.keep e6;have HL:=J5 e0 j8 a6 e6 j9;clear e0 hl j8 a6 e6 j9;refine wp_loop_ghost_k (fun gg a wr=>∃(k:Nat) (Ds:List Nat) (x4 x5 x6 k0 k1 k2 k3 k4 k5 k6 k7 k8 k9 l0 l1 l2 l3 l4 l5 l6 e7 e8 e9 h0 h3 h4 h5 h6 h7 h8 h9 i0 i1 i2 i4 i5 i6 i7 j0 j1 j2:Value),a= {tmps:=#[.slice A up.length cap,.pointer (some ⟨w.heap.size,0,none⟩),.pointer (some ⟨w.heap.size+1,0,none⟩),U (oU up.length),x4,x5,x6,.slice A up.length cap,.int .i64 up.length,.bool false,.bool false,.slice A up.length cap,.int .i64 up.length,.bool false,.bool false,.slice A up.length cap,.int .i64 up.length,U (oU up.length),.slice A up.length cap,.int .i64 up.length,.int .i64 k,k0,k1,k2,k3,k4,k5,k6,k7,k8,k9,l0,l1,l2,l3,l4,l5,l6,e7,e8,e9,h0,h3,h4,h5,h6,h7,h8,h9,i0,i1,i2,i4,i5,i6,i7,j0,j1,j2],defers:=Ds.map MI}∧k≤up.length∧gg=up.length-k∧LZ up wl k Ds wr) up.length ?start ?round
 case start=>exact⟨0,[],undef,undef,undef,undef,undef,undef,undef,undef,undef,undef,undef,undef,undef,undef,undef,undef,undef,undef,undef,undef,undef,undef,undef,undef,undef,undef,undef,undef,undef,undef,undef,undef,undef,undef,undef,undef,undef,undef,undef,undef,undef,rfl,by omega,by omega,List.nodup_nil,(fun D h=>by simp at h),(fun D h=>by simp at h),kR,fun i hi=>by omega⟩
 rintro gg a wr ⟨k,Ds,x4,x5,x6,k0,k1,k2,k3,k4,k5,k6,k7,k8,k9,l0,l1,l2,l3,l4,l5,l6,e7,e8,e9,h0,h3,h4,h5,h6,h7,h8,h9,i0,i1,i2,i4,i5,i6,i7,j0,j1,j2,rfl,hk,rfl,hinv⟩ J K hJ hK;have R:=oH hinv;have b6:=(HL.2.1.kept hinv.kept trivial).cell 0;have b7:=(HL.2.2.1.kept hinv.kept trivial).cell 0;have c3:=(HL.2.2.1.kept hinv.kept trivial).free 0;simp only[gc] at b6 b7;have n0:w.heap.size<wr.heap.size:=by have:=hinv.kept.size;omega
 have n1:w.heap.size+1<wr.heap.size:=by have:=hinv.kept.size;omega
 clear hinv;by_cases c0:k<up.length;·(
 obtain⟨b,o,rfl,_,hc⟩:=lx (dU.keep (S:=S) ((HL.2.2.2.1.trans R.out.kept).all) HL.1) c0;have n2:b<wr.heap.size:=jy wr _ hc;have a7:=fun W=>yJ (aJ up k) k (by omega) W;cases a6:(aJ up k).getLsbD k with
 |false=>
  rw[a6] at a7;have HH:=oH a7;have a8:=oH (au (P:=dI up) fun h=>by have:=(fL.1 h).2.2 k c0;rw[uC,a6] at this;exact oG this.1);clear a7 a6;go_wp2_with (go_at_call 166;refine(HH.out _).mono ?_;rintro e w' ⟨rfl,rfl⟩);refine ld (wl:=wl) R.out.nodup (fun D hD=>?_) R.out.far HL.2.2.2.1 d7 ?_ ?_ rfl a8.out;·have h1:=R.out.marks D hD;have h2:=R.out.far D hD;exact((((aa.refl (fun c=>c≠w.heap.size+1) wr).setCell (p:=⟨w.heap.size+1,0,none⟩) (.inl (by simp)) (.bool false)).alloc (.cells #[.int .i64 k] 3)).alloc (.cells #[U (aJ up k)] 180)).block D (mV.1 h1).1 (by omega)|>.trans h1
  ·exact((R.out.kept.all.setCell (p:=⟨w.heap.size+1,0,none⟩) (.inl (by simp)) _).alloc _).alloc _
  have:=(((HL.2.2.1.kept R.out.kept trivial).set 0 (.bool false)).alloc (.cells #[.int .i64 k] 3)).alloc (.cells #[U (aJ up k)] 180);simpa using this
 |true=>
  rw[a6] at a7;have HH:=oH a7;clear a7;cases c1:(aJ up k&&& ~~~oU up.length !=0#64) with
  |true=>
   have a8:=oH (au (P:=dI up) fun h=>by have h2:=(fL.1 h).2.2 k c0;have:=Ce.2 h2.2.1;rw[this] at c1;simp at c1);clear a6;go_wp2_with (go_at_call 166;refine(HH.out _).mono ?_;rintro e w' ⟨rfl,rfl⟩);refine ld (wl:=wl) R.out.nodup (fun D hD=>?_) R.out.far HL.2.2.2.1 d7 ?_ ?_ rfl a8.out;·have h1:=R.out.marks D hD;have h2:=R.out.far D hD;exact((((aa.refl (fun c=>c≠w.heap.size+1) wr).setCell (p:=⟨w.heap.size+1,0,none⟩) (.inl (by simp)) (.bool false)).alloc (.cells #[.int .i64 k] 3)).alloc (.cells #[U (aJ up k)] 180)).block D (mV.1 h1).1 (by omega)|>.trans h1
   ·exact((R.out.kept.all.setCell (p:=⟨w.heap.size+1,0,none⟩) (.inl (by simp)) _).alloc _).alloc _
   have:=(((HL.2.2.1.kept R.out.kept trivial).set 0 (.bool false)).alloc (.cells #[.int .i64 k] 3)).alloc (.cells #[U (aJ up k)] 180);simpa using this
  |false=>
   have l7:∀j,j<64→(aJ up k).getLsbD j=true→j<up.length:=Ce.1 (by simpa using c1);have j3:=J2 l7 a6;clear l7 a6;go_wp2_with (first|(go_at_call 166;refine(HH.out _).mono ?_;rintro e w' ⟨rfl,rfl⟩)|(go_at_call 167;refine(wk _ _).mono ?_;rintro e w' ⟨rfl,rfl⟩));obtain⟨w1,b2⟩:=eQ (((wr.alloc (.cells #[.int .i64 k] 3)).alloc (.cells #[U (aJ up k)] 180)).alloc (.cells #[U (aJ up k)] 180));have l8:al w1 wr.heap.size 3 #[.int .i64 k]:=by rw[b2];exact((al.new _ _ _).alloc _).alloc _
   have l9:al w1 (wr.heap.size+1) 180 #[U (aJ up k)]:=by rw[b2];exact(ac (by simp)).alloc _
   have d8:al w1 (wr.heap.size+1+1) 180 #[U (aJ up k)]:=by rw[b2];exact ac (by simp)
   have c4:aa All wr w1:=by rw[b2];exact((kR.alloc _).alloc _).alloc _
   have m9:w1.heap.size=wr.heap.size+3:=by rw[b2];simp
   rw[←b2];clear b2;have b8:gz w1:=HL.2.2.2.2.keep (R.out.kept.trans c4);have m0:∀D∈Ds,D<wr.heap.size:=fun D hD=>(mV.1 (R.out.marks D hD)).1;have HA:=J4 l8 l9 c4 m0;clear l8 l9 c4 m0
   refine wpIn_wide.1 (wpIn_rangeFunc_ownF (F:=Fence.wide) (n:=8) rfl (by omega) (gf:=189) (lb:=#[.pointer (some ⟨wr.heap.size+1+1,0,none⟩)]) rfl trivial (enters_of func189 (by kernel_rfl) rfl)
    (qm 7 (by omega) (aJ up k) _ w1 b8 d8) mi (mh _) (Below.refl _ _) (fun _=>rfl)
    (fun pre W=>Ii up k pre∧aa All w1 W)
    (fun c _ W=>(Ma up c∧aa (fun b=>b≠w.heap.size+1) w1 W)∧al W (w.heap.size+1) 4 #[.bool false])
    (OwnFrom.and (ownFrom_pure _ _) (gL (cf _)))
    (fun c=>OwnFrom.and (OwnFrom.and (ownFrom_pure _ _) (gL (cf _))) iz)
    ⟨fun x hx=>by simp at hx,kR⟩
    (fun x=> {tmps:=#[.slice (some ⟨b,o,none⟩) up.length cap,.pointer (some ⟨w.heap.size,0,none⟩),.pointer (some ⟨w.heap.size+1,0,none⟩),U (oU up.length),.pointer (some ⟨wr.heap.size,0,none⟩),.pointer (some ⟨wr.heap.size+1,0,none⟩),.int .i64 (x.1:Nat),.slice (some ⟨b,o,none⟩) up.length cap,.int .i64 up.length,.bool false,.bool false,.slice (some ⟨b,o,none⟩) up.length cap,.int .i64 up.length,.bool false,.bool false,.slice (some ⟨b,o,none⟩) up.length cap,.int .i64 up.length,U (oU up.length),.slice (some ⟨b,o,none⟩) up.length cap,.int .i64 up.length,.int .i64 k,.bool true,.int .i64 k,.pointer (some ⟨b,o+k,none⟩),U (aJ up k),U (aJ up k),.int .i64 k,.bool true,.bool false,.bool false,U (aJ up k),U (oU up.length),U (aJ up k&&& ~~~oU up.length),.bool false,.bool false,U (aJ up k),.func (.func 189) #[] #[.pointer (some ⟨wr.heap.size+1+1,0,none⟩)],.int .i64 (x.1:Nat),e7,e8,e9,h0,h3,h4,h5,h6,h7,h8,h9,i0,i1,i2,i4,i5,i6,i7,j0,j1,j2],defers:=[]}) ?assign ?body ?done ?stop)
   case assign=>(intro l x W K hK;gi_wp2;exact hK)
   case stop=>(
 rintro D c pre W hD _ ⟨⟨⟨rfl,m1⟩,a1⟩,c5⟩ c6;rw[wpIn_wide];have m2:=R.out.kept.all.trans (HA.2.2.1.all.trans a1);have HV:=J5 m1 c5 a1 c6 m2;clear m1 c5 a1 c6 m2 d8 b8 b6 b7 c3 c1;go_wp2;refine ld (Ds:=D::Ds) (wl:=wl) (List.nodup_cons.2 ⟨fun h=>by have:=HA.2.2.2 D h;omega,R.out.nodup⟩) (fun E hE=>?_) (fun E hE=>?_) HL.2.2.2.1 d7 HV.2.2.2.2 HV.2.1 rfl (au HV.1)
 ·rcases fX.1 hE with rfl|hE;·exact HV.2.2.2.1
  have h1:=HA.2.2.2 E hE;have h2:=R.out.far E hE;rw[HV.2.2.1.block E (by omega) (by omega),HA.2.2.1.block E h1 trivial];exact R.out.marks E hE
 rcases fX.1 hE with rfl|hE;·have:=R.out.kept.size;omega
 exact R.out.far E hE)
   case done=>(
 rintro D xs W hD hS ⟨b0,a1⟩ c6;have hinv:LZ up wl (k+1) (D::Ds) W:=by(
 refine⟨List.nodup_cons.2 ⟨fun h=>by have:=HA.2.2.2 D h;omega,R.out.nodup⟩,fun E hE=>?_,fun E hE=>?_,R.out.kept.trans (HA.2.2.1.trans a1),fun i hi=>?_⟩
 ·rcases fX.1 hE with rfl|hE;·exact c6
  have h1:=HA.2.2.2 E hE;rw[a1.block E (by omega) trivial,HA.2.2.1.block E h1 trivial];exact R.out.marks E hE
 ·rcases fX.1 hE with rfl|hE
  ·have:=R.out.kept.size;omega
  exact R.out.far E hE
 by_cases e:i=k
 ·subst e;refine⟨j3.2,j3.1,fun j hj hb=>?_⟩;have hm:j∈xs.map Subtype.val:=by rw[hS];exact ko.2 ⟨hj,hb⟩
  obtain⟨x,hx,rfl⟩:=dr.1 hm;exact b0 x hx
 exact R.out.good i (by omega))
 have HV:=oH hinv;clear hinv hS a1 b0 c6 b8 d8 b6 b7 c3 c1;go_wp2;exact Handed.intro (up.length-(k+1)) (by omega) (hJ _ _ _ ⟨k+1,D::Ds,_,_,_,_,_,_,_,_,_,_,_,_,_,_,_,_,_,_,_,_,_,_,_,_,_,_,_,_,_,_,_,_,_,_,_,_,_,_,_,_,_,rfl,by omega,rfl,HV.out⟩))
   rintro l pre x W ⟨b0,a1⟩ _;have m6:=j3.1 x.1 x.2.1 x.2.2;have c7:∀wn,aa All W wn→wn.cell? ⟨w.heap.size,0,none⟩=some (.slice (some ⟨b,o,none⟩) up.length cap)∧wn.cell? ⟨wr.heap.size,0,none⟩=some (.int .i64 k)∧wn.cell? ⟨wr.heap.size+1,0,none⟩=some (U (aJ up k))∧wn.cell? ⟨b,o+x.1,none⟩=some (U (aJ up x.1))∧True:=fun wn C=>by have c8:=a1.trans C;have m3:=R.out.kept.trans (HA.2.2.1.trans c8);obtain⟨b',o',e,_,m7⟩:=lx (dU.keep (S:=S) ((HL.2.2.2.1.trans m3).all) HL.1) m6;cases e;exact⟨(HL.2.1.kept m3 trivial).cell 0,(HA.1.kept c8 trivial).cell 0,(HA.2.1.kept c8 trivial).cell 0,m7,trivial⟩
   have c5:=HL.2.2.1.kept (R.out.kept.trans (HA.2.2.1.trans a1)) trivial;have HF:=J4 c7 a1 b0 c5;have Y:=fun W=>yJ (aJ up x.1) k (by omega) W;have d9:((x.1:Int)==(k:Int))=decide (x.1=k):=by rw[Bool.eq_iff_iff,cy,iH];omega
   clear c7 a1 b0 c5 d8 b8 b6 b7 c3 c1 hc;cases j4:(aJ up x.1&&& ~~~(aJ up k) !=0#64) with
   |true=>
    have a8:Hid (¬dI up):=oH fun h=>by have h2:=(((fL.1 h).2.2 k c0).2.2 x.1 x.2.1 x.2.2).2;rw[h2] at j4;simp at j4
    clear Y d9;gi_wp2;refine fJ (aa All W) [] (fun _ _ _=>True) (fun _=>none) (by kernel_rfl) (by kernel_rfl) (by kernel_rfl) (by kernel_rfl) (by kernel_rfl) kR.drew ?_;iterate 8 (refine bG (by rfl) (by rfl) (by intro d hd;cases hd;decide) (fun wn hk hp=>by(obtain⟨e1,e2,e3,e4,e5⟩:=HF.1 wn hk;go_simp;with_reducible rfl)) ?_;simp only[PS])
    iterate 11 (refine jf (by rfl) (by intro d hd;cases hd;decide) ?_;simp only[PS])
    iterate 1 (refine bG (by rfl) (by rfl) (by intro d hd;cases hd;decide) (fun wn hk hp=>by(obtain⟨e1,e2,e3,e4,e5⟩:=HF.1 wn hk;go_simp;with_reducible rfl)) ?_;simp only[PS])
    refine dQ fun wn C _=>?_;have Z:=HF.2.1.trans C;have I:=HF.2.2.2.kept C trivial;have b3:=I.cell 0;have j5:=I.free 0;simp only[gc] at b3;have HN:=J3 C Z I;clear C Z I;gi_wp2;refine⟨(KeepsOthers.of_kept HN.1).trans (KeepsOthers.setCell _ _ _),⟨⟨rfl,a8.out⟩,HN.2.1.all.setCell (p:=⟨w.heap.size+1,0,none⟩) (.inl (by simp)) _⟩,?_⟩;have:=HN.2.2.set 0 (.bool false);simpa using this
   |false=>
    have b1:aJ up x.1&&& ~~~(aJ up k)=0#64:=by simpa using j4
    by_cases c2:x.1=k;·(
 have m8:((x.1:Int) !=(k:Int))=false:=by simp[c2]
 have c9:Hid (qN up k x.1):=oH ⟨fun h=>absurd c2 h,b1⟩;clear Y d9 b1 c2;gi_wp2;refine fJ (aa All W) [] (fun _ _ _=>True) (fun _=>none) (by kernel_rfl) (by kernel_rfl) (by kernel_rfl) (by kernel_rfl) (by kernel_rfl) kR.drew ?_;iterate 12 (refine bG (by rfl) (by rfl) (by intro d hd;cases hd;decide) (fun wn hk hp=>by(obtain⟨e1,e2,e3,e4,e5⟩:=HF.1 wn hk;go_simp;with_reducible rfl)) ?_;simp only[PS])
 iterate 6 (refine jf (by rfl) (by intro d hd;cases hd;decide) ?_;simp only[PS])
 iterate 2 (refine bG (by rfl) (by rfl) (by intro d hd;cases hd;decide) (fun wn hk hp=>by(obtain⟨e1,e2,e3,e4,e5⟩:=HF.1 wn hk;go_simp;with_reducible rfl)) ?_;simp only[PS])
 refine dQ fun wn C _=>?_;have Z:=HF.2.1.trans C;have I:=HF.2.2.2.kept C trivial;have b3:=I.cell 0;have j5:=I.free 0;simp only[gc] at b3;have HN:=J3 C Z I;clear C Z I;gi_wp2;refine⟨KeepsOthers.of_kept HN.1,eq.of_kept HN.1,fun y hy=>?_,HN.2.1⟩;rcases eD.1 hy with hy|hy;·exact HF.2.2.1 y hy
 rw[cx.1 hy];exact c9.out)
    have m8:((x.1:Int) !=(k:Int))=true:=by simp;omega
    cases b4:(aJ up x.1).getLsbD k with
    |true=>
     have a8:Hid (¬dI up):=oH fun h=>by have h2:=(((fL.1 h).2.2 k c0).2.2 x.1 x.2.1 x.2.2).1 c2;rw[h2] at b4;cases b4
     rw[b4] at Y;have H2:=oH Y;clear Y d9 b1 b4 c2;gi_wp2;refine fJ (aa All W) [] (fun _ _ _=>True) (fun k=>if k=17 then some (fun v=>v=.bool true) else none) (by kernel_rfl) (by kernel_rfl) (by kernel_rfl) (by kernel_rfl) (by kernel_rfl) kR.drew ?_;iterate 17 (refine bG (by rfl) (by rfl) (by intro d hd;cases hd;decide) (fun wn hk hp=>by(obtain⟨e1,e2,e3,e4,e5⟩:=HF.1 wn hk;go_simp;with_reducible rfl)) ?_;simp only[PS])
     (refine gi (by rfl) (by rfl) (fun wn hk hp=>?_) ?_
      ·obtain⟨e1,e2,e3,e4,e5⟩:=HF.1 wn hk;go_simp;simp only[kl];refine(H2.out _).mono ?_;rintro e2 wq ⟨rfl,rfl⟩;exact⟨_,rfl,rfl,hk,fun _ _ _ _=>trivial,fun _ _ _=>trivial⟩
      rintro v rfl;simp only[PS])
     iterate 2 (refine bG (by rfl) (by rfl) (by intro d hd;cases hd;decide) (fun wn hk hp=>by(obtain⟨e1,e2,e3,e4,e5⟩:=HF.1 wn hk;go_simp;with_reducible rfl)) ?_;simp only[PS])
     refine dQ fun wn C _=>?_;have Z:=HF.2.1.trans C;have I:=HF.2.2.2.kept C trivial;have b3:=I.cell 0;have j5:=I.free 0;simp only[gc] at b3;have HN:=J3 C Z I;clear C Z I;gi_wp2;refine⟨(KeepsOthers.of_kept HN.1).trans (KeepsOthers.setCell _ _ _),⟨⟨rfl,a8.out⟩,HN.2.1.all.setCell (p:=⟨w.heap.size+1,0,none⟩) (.inl (by simp)) _⟩,?_⟩;have:=HN.2.2.set 0 (.bool false);simpa using this
    |false=>
     have c9:Hid (qN up k x.1):=oH ⟨fun _=>b4,b1⟩;rw[b4] at Y;have H2:=oH Y;clear Y d9 b1 b4 c2;gi_wp2;refine fJ (aa All W) [] (fun _ _ _=>True) (fun k=>if k=17 then some (fun v=>v=.bool false) else none) (by kernel_rfl) (by kernel_rfl) (by kernel_rfl) (by kernel_rfl) (by kernel_rfl) kR.drew ?_;iterate 17 (refine bG (by rfl) (by rfl) (by intro d hd;cases hd;decide) (fun wn hk hp=>by(obtain⟨e1,e2,e3,e4,e5⟩:=HF.1 wn hk;go_simp;with_reducible rfl)) ?_;simp only[PS])
     (refine gi (by rfl) (by rfl) (fun wn hk hp=>?_) ?_
      ·obtain⟨e1,e2,e3,e4,e5⟩:=HF.1 wn hk;go_simp;simp only[kl];refine(H2.out _).mono ?_;rintro e2 wq ⟨rfl,rfl⟩;exact⟨_,rfl,rfl,hk,fun _ _ _ _=>trivial,fun _ _ _=>trivial⟩
      rintro v rfl;simp only[PS])
     iterate 2 (refine bG (by rfl) (by rfl) (by intro d hd;cases hd;decide) (fun wn hk hp=>by(obtain⟨e1,e2,e3,e4,e5⟩:=HF.1 wn hk;go_simp;with_reducible rfl)) ?_;simp only[PS])
     refine dQ fun wn C _=>?_;have Z:=HF.2.1.trans C;have I:=HF.2.2.2.kept C trivial;have b3:=I.cell 0;have j5:=I.free 0;simp only[gc] at b3;have HN:=J3 C Z I;clear C Z I;gi_wp2;refine⟨KeepsOthers.of_kept HN.1,eq.of_kept HN.1,fun y hy=>?_,HN.2.1⟩;rcases eD.1 hy with hy|hy;·exact HF.2.2.1 y hy
     rw[cx.1 hy];exact c9.out)
 obtain rfl:k=up.length:=by omega
 have HY:=oH (av (P:=dI up) (fL.2 ⟨j7,j6,R.out.good⟩));clear c0 hk;go_wp2;refine ld (wl:=wl) R.out.nodup (fun D hD=>?_) R.out.far HL.2.2.2.1 d7 (R.out.kept.all.setCell (p:=⟨w.heap.size+1,0,none⟩) (.inl (by simp)) _) ?_ rfl HY.out
 ·have h2:=R.out.far D hD
  rw[pI _ _ _ _ (by simp only;omega)];exact R.out.marks D hD
 have:=(HL.2.2.1.kept R.out.kept trivial).set 0 (.bool true);simpa using this
end
section
open Go.RowKit Go.Shelf
attribute [local go_sem] lh qb xr ju nA nE nB nC ms rq nD wL pD
attribute [local go_sem] pm lU jt mU List.getElem?_toArray List.getElem?_cons_zero
def qP (up:List (BitVec 64)):Prop:=∀a,a<up.length→∀b,b<a→0≤gq up (aJ up a&&&aJ up b)
theorem Ax (up:List (BitVec 64))(set:BitVec 64): -1≤gq up set∧gq up set<64:=wP _ _
theorem ye (S:Nat→Prop)(v:Value)(up:List (BitVec 64))(w:World)(hv:nZ S w v up)(hl:gz w)(b8:up.length≤64)(a6:∀i,i<up.length→∀k,k<64→(aJ up i).getLsbD k=true→k<up.length):
 Calls prog 127 #[v] w fun e w'=>e=.returned (.bool (pB (qP up)))∧aa All w w':=by
 have a7:=hv;obtain⟨A,cap,rfl,h1,h2,_,_⟩:=hv;unfold maxLen at h2;have HL:=J3 a7 hl a6;clear a7 hl a6;go_enter func127,ntmps127;go_wp2;go_loopg [7] up.length (fun g i wr=>∃a:Nat,a≤up.length∧g=up.length-a∧i=.int .i64 a∧aa All w wr∧∀x,x<a→∀b,b<x→0≤gq up (aJ up x&&&aJ up b));·exact⟨0,by omega,by omega,rfl,kR,fun x hx=>by omega⟩
 obtain⟨a,ha,rfl,rfl,j,l⟩:=hrel;have HA:=J2 j l;clear j l;by_cases Z:a<up.length;·(
 go_wp2;obtain⟨wa,b3⟩:=eQ wr;go_loopg [11] a (fun g i wr=>∃b:Nat,b≤a∧g=a-b∧i=.int .i64 b∧aa All w wr∧∀x,x<b→0≤gq up (aJ up a&&&aJ up x));·exact⟨0,by omega,by omega,rfl,HA.1,fun x hx=>by omega⟩
 clear b3;obtain⟨b,hb,rfl,rfl,j,l⟩:=hrel;have R:=J2 j l;clear j l;by_cases a8:b<a;·(
 have C:∀wn,aa All wr wn→∃Y o,A=some ⟨Y,o,none⟩∧wn.cell? ⟨Y,o+a,none⟩=some (U (aJ up a))∧wn.cell? ⟨Y,o+b,none⟩=some (U (aJ up b)):=fun wn a1=>by have hu:=dU.keep (S:=S) ((R.1.trans a1).all) HL.1;obtain⟨Y,o,e,_,hc⟩:=lx hu Z;obtain⟨b9,o',e',_,b4⟩:=lx hu (show b<up.length by omega);rw[e] at e';cases e';exact⟨Y,o,e,hc,b4⟩
 obtain⟨Y,o,rfl,_⟩:=C wr kR;have I:∀wn,aa All wr wn→wn.cell? ⟨Y,o+a,none⟩=some (U (aJ up a))∧wn.cell? ⟨Y,o+b,none⟩=some (U (aJ up b)):=fun wn a1=>by obtain⟨b',o',e,h3,h4⟩:=C wn a1;cases e;exact⟨h3,h4⟩
 have J:=fun wn (j:aa All wr wn)=>Dm S _ up (aJ up a&&&aJ up b) wn (dU.keep ((R.1.trans j).all) HL.1) (HL.2.1.keep (R.1.trans j)) (fun k b0 b1=>by rw[BitVec.getLsbD_and,gE] at b1;exact HL.2.2 a Z k b0 b1.1);have c0:=Ax up (aJ up a&&&aJ up b);have HC:=J2 I J;have hx:gq up (aJ up a&&&aJ up b)=gq up (aJ up a&&&aJ up b):=rfl;clear C I J;generalize hr:gq up (aJ up a&&&aJ up b)=r at*;have HR:=oH hr;clear hr hx;have b7:b<up.length:=by omega
 go_wp2_with fail;refine eK (aa All wr) [] (fun _ _ _=>True) (fun k=>if k=10 then some (fun v=>v=.int .i64 r) else none) (by kernel_rfl) (by kernel_rfl) (by kernel_rfl) (by kernel_rfl) kR.drew ?_;iterate 10 (refine bG (by rfl) (by rfl) (by intro d hd;cases hd;decide) (fun wn j hp=>by(obtain⟨e1,e2⟩:=HC.1 wn j;go_simp;with_reducible rfl)) ?_;simp only[PS])
 refine gi (by rfl) (by rfl) (fun wn j hp=>?_) ?_;·go_simp;simp only[kl];refine(HC.2 wn j).mono ?_;rintro e2 wq ⟨rfl,b5⟩;exact⟨_,rfl,rfl,j.trans b5,fun _ _ _ _=>trivial,fun _ _ _=>trivial⟩
 rintro v rfl;simp only[PS];by_cases b2:r<0
 ·have hd:decide (r<0)=true:=by simpa using b2
  have b6:=oH (au (P:=qP up) fun h=>by have:=h a Z b a8;rw[HR.out] at this;omega);iterate 1 (refine bG (by rfl) (by rfl) (by intro d hd;cases hd;decide) (fun wn j hp=>by(go_simp;with_reducible rfl)) ?_;simp only[PS])
  refine dQ fun wn j _=>?_;have HN:=oH (R.1.trans j);clear j;go_wp2;go_ret;exact⟨by rw[b6.out];rfl,HN.out⟩
 have hd:decide (r<0)=false:=by simpa using b2
 iterate 1 (refine bG (by rfl) (by rfl) (by intro d hd;cases hd;decide) (fun wn j hp=>by(go_simp;with_reducible rfl)) ?_;simp only[PS])
 refine dQ fun wn j _=>?_;have HN:=oH (R.1.trans j);clear j;go_wp2;go_roundg (a-(b+1))
 ·refine⟨b+1,by omega,rfl,by go_num,HN.out,fun x hx=>?_⟩
  by_cases e:x=b;·subst e;rw[HR.out];omega
  exact R.2 x (by omega)
 omega)
 obtain rfl:b=a:=by omega
 go_wp2;go_roundg (up.length-(b+1))
 ·refine⟨b+1,by omega,rfl,by go_num,R.1,fun x hx=>?_⟩
  by_cases e:x=b;·subst e;exact R.2
  exact HA.2 x (by omega)
 omega)
 obtain rfl:a=up.length:=by omega
 have HY:=oH (av (P:=qP up) HA.2);go_wp2;go_ret;exact⟨by rw[HY.out];rfl,HA.1⟩
theorem Eo {up:List (BitVec 64)}:∀i,i<(dE up).length→∀k,k<64→(aJ (dE up) i).getLsbD k=true→k<(dE up).length:=by intro i hi k l j;rw[kF] at hi⊢;rw[eI hi l,gE,iH] at j;exact j.1
theorem Gc {up:List (BitVec 64)}(o:dI up):ue up↔qP up∧qP (dE up):=by
 constructor
 ·rintro⟨_,h⟩;refine⟨fun a j b l=>?_,fun a j b l=>?_⟩;·rw[sQ o j (by omega)];exact(h a j b l).1
  rw[kF] at j;rw[sR o j (by omega)];exact(h a j b l).2
 rintro⟨C,I⟩;refine⟨o,fun a j b l=>⟨?_,?_⟩⟩;·rw[←sQ o j (by omega)];exact C a j b l
 rw[←sR o j (by omega)];exact I a (by rw[kF];exact j) b l
theorem AK {P Q:Prop}:pB (P∧Q)=(pB P&&pB Q):=by
 by_cases h:P
 ·by_cases k:Q
  ·rw[av h,av k,av ⟨h,k⟩];rfl
  rw[av h,au k,au fun x=>k x.2];rfl
 rw[au h,au fun x=>h x.1];rfl
theorem kC {P Q:Prop}(h:P↔Q):pB P=pB Q:=by rw[propext h]
theorem wU (S:Nat→Prop)(v:Value)(up:List (BitVec 64))(w:World)(hv:nZ S w v up)(hl:gz w):
 Calls prog 98 #[v] w fun e w'=>e=.returned (.bool (pB (ue up)))∧aa All w w':=by
 have j:=DC S v up w hv hl;by_cases R:dI up
 ·rw[av R] at j;have Z:∀i,i<up.length→∀k,k<64→(aJ up i).getLsbD k=true→k<up.length:=fun i hi k hk hb=>((R.2.2 i hi).2 k hk hb).1;have o:=fun wn (hk:aa All w wn)=>ye S v up wn (dU.keep hk.all hv) (hl.keep hk) R.2.1 Z;have C:=fun wn (hk:aa All w wn)=>Bu S v up wn (dU.keep hk.all hv) (hl.keep hk) R.2.1 Z;have Y:=J5 (kC (Gc R)) j o C hl;have a7:=R.2.1;clear j o C Z hv R hl;have HX:=oH (AK (P:=qP up) (Q:=qP (dE up)));cases he:pB (qP up) with
  |false=>have HE:=oH he;clear he;go_enter func98,ntmps98;go_wp2_with fail;refine Y.2.1.mono ?_;rintro e w1 ⟨rfl,l⟩;have H1:=oH l;clear l;go_wp2_with fail;refine(Y.2.2.1 w1 H1.out).mono ?_;rw[HE.out];rintro e w2 ⟨rfl,I⟩;have H2:=oH (H1.out.trans I);clear I;go_wp2_with fail;go_ret;exact⟨by rw[Y.1,HX.out,HE.out];rfl,H2.out⟩
  |true=>have HE:=oH he;clear he;go_enter func98,ntmps98;go_wp2_with fail;refine Y.2.1.mono ?_;rintro e w1 ⟨rfl,l⟩;have H1:=oH l;clear l;go_wp2_with fail;refine(Y.2.2.1 w1 H1.out).mono ?_;rw[HE.out];rintro e w2 ⟨rfl,I⟩;have H2:=oH (H1.out.trans I);clear I;go_wp2_with fail;refine(Y.2.2.2.1 w2 H2.out).mono ?_;rintro e w3 ⟨u,rfl,a1,hu⟩;have J:=ye _ u (dE up) w3 hu (Y.2.2.2.2.keep (H2.out.trans a1)) (by rw[kF];exact a7) Eo;have H3:=J2 (H2.out.trans a1) J;clear a1 J hu;go_wp2_with fail;refine H3.2.mono ?_;rintro e w4 ⟨rfl,a6⟩;have H4:=oH (H3.1.trans a6);clear a6;go_wp2_with fail;go_ret;exact⟨by rw[Y.1,HX.out,HE.out,Bool.true_and];rfl,H4.out⟩
 rw[au R] at j;have a8:=oH (au (P:=ue up) fun h=>R h.1);have Y:=oH j;clear j R hv hl;go_enter func98,ntmps98;go_wp2_with fail;refine Y.out.mono ?_;rintro e w1 ⟨rfl,l⟩;have H1:=oH l;clear l;go_wp2_with fail;go_ret;exact⟨by rw[a8.out];rfl,H1.out⟩
end
def Ij (b:aw)(v:Int)(w:World)(e:Ending)(w':World):Prop:=∃x y:Int,e=.returned (.tuple #[.int .i64 x,.int .i64 y])∧((x= -1∧y= -1∧∀i k,¬jF b v i k)∨∃i k:Nat,x=i∧y=k∧jF b v i k)∧aa All w w'
theorem yW (S:Nat→Prop)(bv:Value)(b:aw)(v:Int)(w:World)(hb:bW S w bv b.Ng):
 Calls prog 69 #[.agg #[.int .i64 b.params,.int .i64 b.vars,bv],.int .i64 v] w (Ij b v w):=by
 have Y:=bg.la hb;obtain⟨B1,d1,rfl,m5,m6,m7,_⟩:=hb;unfold maxLen at*;obtain⟨Z,C⟩:=eQ (w.alloc (.cells #[.int .i64 b.params,.int .i64 b.vars,.slice B1 b.Ng.length d1] 48));have I:aa All w Z:=by rw[C];exact kR.alloc _
 have bB:al Z w.heap.size 48 #[.int .i64 b.params,.int .i64 b.vars,.slice B1 b.Ng.length d1]:=by rw[C];exact ac rfl
 obtain⟨b0,b1,b2⟩:=bB.c3;have HW:=J3 C I (Y Z I);clear C I bB Y;go_enter func69,ntmps69;go_upto_region 1 with fail;rw[←HW.1];go_wp2_with fail;go_loopg [6,7] b.Ng.length (fun g s6 s7 wr=>∃j:Nat,j≤b.Ng.length∧g=b.Ng.length-j∧s6=.int .i64 j∧wr=Z∧∀(i k:Nat),i<j→¬jF b v i k);·exact⟨0,by omega,by omega,rfl,rfl,fun i k hi=>by omega⟩
 obtain⟨j,hj,rfl,rfl,hw,o⟩:=hrel;have J:=hw.symm;subst J;by_cases a8:j<b.Ng.length;·(
 obtain⟨l,hl⟩:=eG a8;obtain⟨rb,ro,rv,rfl,b3,b8,R⟩:=bn HW.2.2 hl;obtain⟨LA,lc,rfl,l1,l2,l3,_⟩:=id R;unfold maxLen at l2;have HA:=J3 o hl R;clear o hl R b3;go_wp2_with fail;go_loopg [7] l.length (fun g s7 wr=>∃k:Nat,k≤l.length∧g=l.length-k∧s7=.int .i64 k∧wr=Z∧∀(i:Nat) x,i<k→l[i]? =some x→x.dst≠v);·exact⟨0,by omega,by omega,rfl,rfl,fun i x hi=>by omega⟩
 obtain⟨k,hk,rfl,rfl,hw,o⟩:=hrel;have J:=hw.symm;subst J;by_cases a1:k<l.length;·(
 obtain⟨x,hx⟩:=eG a1;obtain⟨xb,xo,b9,rfl,b4,a6,a7,xa,xf,rfl,b5,b6,b7⟩:=aZ HA.2.2 hx;have z2:=a7 2 _ rfl;have HX:=J2 o hx;clear o hx a7 b5 b6 b7 a6 b4;by_cases e:x.dst=v
 ·have t:(x.dst==v)=true:=by rw[cy];exact e
  have HY:=oH (show jF b v j k from⟨l,x,HA.2.1,HX.2,e⟩);clear e;go_wp2_with fail;go_ret2;exact⟨j,k,rfl,.inr ⟨j,k,rfl,rfl,HY.out⟩,HW.2.1⟩
 have t:(x.dst==v)=false:=by rw[bE];exact e
 have HE:=oH e;clear e;go_wp2_with fail;go_roundg (l.length-(k+1))
 ·refine⟨k+1,by omega,rfl,by go_num,rfl,fun i z hi hz=>?_⟩
  by_cases e:i=k;·subst e;rw[HX.2] at hz;cases hz;exact HE.out
  exact HX.1 i z (by omega) hz
 omega)
 obtain rfl:k=l.length:=by omega
 have HN:=oH o;clear o;go_wp2_with fail;go_roundg (b.Ng.length-(j+1))
 ·refine⟨j+1,by omega,rfl,by go_num,rfl,fun i k hi=>?_⟩
  by_cases e:i=j;·subst e;rintro⟨l',x,h1,h2,h3⟩;rw[HA.2.1] at h1;cases h1;exact HN.out k x (lS.1 h2).1 h2 h3
  exact HA.1 i k (by omega)
 omega)
 obtain rfl:j=b.Ng.length:=by omega
 have HN:=oH (show∀i k,¬jF b v i k from fun i k h=>by obtain⟨l,x,h1,_⟩:=id h;exact o i k (lS.1 h1).1 h);clear o;go_wp2_with fail;go_ret2;exact⟨-1,-1,rfl,.inl ⟨rfl,rfl,HN.out⟩,HW.2.1⟩
theorem qs {b:aw}{v:Int}{i k blk:Nat}(l:gY b)(o:v≠-1)(C:¬v<b.params)(h:jF b v i k):jl b v blk↔¬gA (dH (bM b)) i blk:=by
 constructor
 ·rintro(j|⟨I,J,j,R⟩)
  ·exact absurd j C
  obtain⟨rfl,rfl⟩:=l.once v i k I J o h j;exact R
 exact fun j=>.inr ⟨i,k,h,j⟩
theorem Aa {b:aw}{v:Int}{blk:Nat}(l:¬v<b.params)(h:∀i k,¬jF b v i k):¬jl b v blk:=by
 rintro(j|⟨o,C,j,I⟩);·exact l j
 exact h _ _ j
theorem tP {b:aw}{v:Int}{i k blk n:Nat}(l:gY b)(o:v≠-1)(C:¬v<b.params)(h:jF b v i k):iP b v blk n↔if i=blk then k<n else¬gA (dH (bM b)) i blk:=by
 constructor
 ·rintro(j|⟨I,J,j,R⟩)
  ·exact absurd j C
  obtain⟨rfl,rfl⟩:=l.once v i k I J o h j;exact R
 exact fun j=>.inr ⟨i,k,h,j⟩
theorem zw {b:aw}{v:Int}{blk n:Nat}(l:¬v<b.params)(h:∀i k,¬jF b v i k):¬iP b v blk n:=by
 rintro(j|⟨o,C,j,I⟩);·exact l j
 exact h _ _ j
theorem AW (S T:Nat→Prop)(bv tv:Value)(b:aw)(v:Int)(blk:Nat)(w:World)(hb:bW S w bv b.Ng)(ht:Rows T w tv (bM b))(hB:gY b)(h0:v≠-1)(hk:blk<b.Ng.length):
 Calls prog 68 #[.agg #[.int .i64 b.params,.int .i64 b.vars,bv],tv,.int .i64 v,.int .i64 blk] w fun e w'=>e=.returned (.bool (pB (jl b v blk)))∧aa All w w':=by
 have hG:=oH hB;have I:=bg.la hb;have HT:=oH (aq.la ht);obtain⟨B1,d1,rfl,m5,m6,m7,_⟩:=hb;obtain⟨TA,tc,rfl,_⟩:=ht;unfold maxLen at*;obtain⟨Y,j⟩:=eQ (w.alloc (.cells #[.int .i64 b.params,.int .i64 b.vars,.slice B1 b.Ng.length d1] 48));have l:aa All w Y:=by rw[j];exact kR.alloc _
 have bB:al Y w.heap.size 48 #[.int .i64 b.params,.int .i64 b.vars,.slice B1 b.Ng.length d1]:=by rw[j];exact ac rfl
 obtain⟨b0,b1,b2⟩:=bB.c3;have o:=J4 j l (yW S _ b v Y (I Y l)) True.intro;clear j l bB I hB;go_enter func68,ntmps68;go_upto_region 1 with fail;rw[←o.1];by_cases C:v<b.params
 ·have t:decide (v<b.params)=true:=by simpa using C
  have HY:=oH (show jl b v blk from .inl C);clear C;go_wp2_with fail;go_ret;exact⟨by rw[av HY.out]<;>rfl,o.2.1⟩
 have t:decide (v<b.params)=false:=by simpa using C
 have HP:=oH C;clear C;go_wp2_with fail;refine o.2.2.1.mono ?_;rintro e w1 ⟨x,y,rfl,Z,J⟩;have HK:=oH J;clear J;rcases Z with ⟨rfl,rfl,hn⟩|⟨i,k,rfl,rfl,Z⟩;·have HN:=oH (Aa (blk:=blk) (by have:=HP.out;omega) hn);clear hn;go_wp2_with fail;go_ret;exact⟨by rw[au HN.out]<;>rfl,o.2.1.trans HK.out⟩
 have HD:=oH (qs (blk:=blk) hG.out h0 (by have:=HP.out;omega) Z);have HC:=oH (yX T _ (bM b) i blk w1 (HT.out w1 (o.2.1.trans HK.out)) (gd hG.out) (by rw[cS];exact hk));clear Z;go_wp2_with fail;refine HC.out.mono ?_;rintro e w2 ⟨rfl,R⟩;have a1:=oH R;clear R;go_wp2_with fail;go_ret;exact⟨by rw[kC HD.out]<;>rfl,(o.2.1.trans HK.out).trans a1.out⟩
theorem zj (S T:Nat→Prop)(bv tv:Value)(b:aw)(v:Int)(blk n:Nat)(w:World)(hb:bW S w bv b.Ng)(ht:Rows T w tv (bM b))(hB:gY b)(h0:v≠-1)(hk:blk<b.Ng.length):
 Calls prog 46 #[.agg #[.int .i64 b.params,.int .i64 b.vars,bv],tv,.int .i64 v,.int .i64 blk,.int .i64 n] w fun e w'=>e=.returned (.bool (pB (iP b v blk n)))∧aa All w w':=by
 have hG:=oH hB;have R:=bg.la hb;have HT:=oH (aq.la ht);obtain⟨B1,d1,rfl,m5,m6,m7,_⟩:=hb;obtain⟨TA,tc,rfl,_⟩:=ht;unfold maxLen at*;obtain⟨W0,j⟩:=eQ (w.alloc (.cells #[.int .i64 b.params,.int .i64 b.vars,.slice B1 b.Ng.length d1] 48));have l:aa All w W0:=by rw[j];exact kR.alloc _
 have bB:al W0 w.heap.size 48 #[.int .i64 b.params,.int .i64 b.vars,.slice B1 b.Ng.length d1]:=by rw[j];exact ac rfl
 obtain⟨b0,b1,b2⟩:=bB.c3;have o:=J4 j l (yW S _ b v W0 (R W0 l)) True.intro;clear j l bB R hB;go_enter func46,ntmps46;go_upto_region 1 with fail;rw[←o.1];by_cases I:v<b.params
 ·have t:decide (v<b.params)=true:=by simpa using I
  have HY:=oH (show iP b v blk n from .inl I);clear I;go_wp2_with fail;go_ret;exact⟨by rw[av HY.out]<;>rfl,o.2.1⟩
 have t:decide (v<b.params)=false:=by simpa using I
 have HP:=oH I;clear I;go_wp2_with fail;refine o.2.2.1.mono ?_;rintro e w1 ⟨x,y,rfl,Y,Z⟩;have HK:=oH Z;clear Z;rcases Y with ⟨rfl,rfl,hn⟩|⟨i,k,rfl,rfl,Y⟩
 ·have HN:=oH (zw (blk:=blk) (n:=n) (by have:=HP.out;omega) hn);have t2:((-1:Int)==(blk:Int))=false:=by rw[bE];omega
  clear hn;go_wp2_with fail;go_ret;exact⟨by rw[au HN.out]<;>rfl,o.2.1.trans HK.out⟩
 have J:=tP (blk:=blk) (n:=n) hG.out h0 (by have:=HP.out;omega) Y;by_cases e:i=blk
 ·rw[ap e] at J;have HD:=J2 J e;have t2:((i:Int)==(blk:Int))=true:=by rw[cy];omega
  clear Y J e;go_wp2_with fail;go_ret;refine⟨?_,o.2.1.trans HK.out⟩;by_cases C:k<n;·rw[av (HD.1.2 C)];simp[C]
  rw[au fun h=>C (HD.1.1 h)];simp;omega
 rw[ae e] at J;have HD:=oH J;have t2:((i:Int)==(blk:Int))=false:=by rw[bE];omega
 have HC:=oH (yX T _ (bM b) i blk w1 (HT.out w1 (o.2.1.trans HK.out)) (gd hG.out) (by rw[cS];exact hk));clear Y J e;go_wp2_with fail;refine HC.out.mono ?_;rintro e w2 ⟨rfl,a1⟩;have a6:=oH a1;clear a1;go_wp2_with fail;go_ret;exact⟨by rw[kC HD.out]<;>rfl,(o.2.1.trans HK.out).trans a6.out⟩
end Go.Proofs.YtceloincoomjeaaGreatDoor
