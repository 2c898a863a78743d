/- Part 9 of the proof (its last part says what is proved). No condition. -/
import Derived.Test.YtccbbkopmlnkpaaGreatDoorK7
namespace Go.Proofs.YtccbbkopmlnkpaaGreatDoor
set_option maxRecDepth 100000
set_option maxHeartbeats 8000000
open Go.RowKit Go.Proofs.Tryz
section
open Go.RowKit Go.Shelf
attribute [local go_sem] ko pZ uy iD ni nq nj nk lY rq nl wD pz
attribute [local go_sem] Oper.semAt_some
attribute [local go_sem] ny jo gj kP List.getElem?_toArray List.getElem?_cons_zero
def Bj (up:List (BitVec 64))(i k:Nat):Prop:=(k≠i→(aN up k).getLsbD i=false)∧aN up k&&& ~~~(aN up i)=0#64
def EO (up:List (BitVec 64))(i:Nat):Prop:=(aN up i).getLsbD i=true∧(∀k,k<64→(aN up i).getLsbD k=true→k<up.length)∧∀k,k<64→(aN up i).getLsbD k=true→Bj up i k
theorem lk {up:List (BitVec 64)}:eM up↔1≤up.length∧up.length≤64∧∀i,i<up.length→EO up i:=by
 constructor
 ·rintro⟨C,I,h⟩
  exact⟨C,I,fun i hi=>⟨(h i hi).1,fun k j o=>((h i hi).2 k j o).1,fun k j o=>((h i hi).2 k j o).2⟩⟩
 rintro⟨C,I,h⟩;exact⟨C,I,fun i hi=>⟨(h i hi).1,fun k j o=>⟨(h i hi).2.1 k j o,(h i hi).2.2 k j o⟩⟩⟩
theorem BX {m:BitVec 64}{n:Nat}:m&&& ~~~(oP n)=0#64↔∀k,k<64→m.getLsbD k=true→k<n:=by
 rw[xe];refine⟨fun h k j o=>?_,fun h k j o=>?_⟩
 ·have:=h k j o
  rw[yt n k j] at this;exact of_decide_eq_true this
 rw[yt n k j];exact be (h k j o)
def If (up:List (BitVec 64))(i:Nat)(pre:List (zp (aN up i))):Prop:=∀x∈pre,Bj up i x.1
def LK (up:List (BitVec 64))(c:Code):Prop:=c=.ret∧¬eM up
structure LJ (up:List (BitVec 64))(wl:World)(k:Nat)(Ds:List Nat)(wr:World):Prop where
 nodup:Ds.Nodup
 marks:∀D∈Ds,wr.heap[D]? =some (.deferred (some []))
 far:∀D∈Ds,wl.heap.size≤D
 kept:aa All wl wr
 good:∀i,i<k→EO up i
theorem kl {up:List (BitVec 64)}{w wl W:World}{Ds:List Nat}{tmps:Array Value}{b:Bool}(Y:Ds.Nodup)(h2:∀D∈Ds,W.heap[D]? =some (.deferred (some [])))(J:∀D∈Ds,wl.heap.size≤D)(o:aa All w wl)(a1:wl.heap.size=w.heap.size+2)
 (C:aa (fun c=>c≠w.heap.size+1) wl W) (hb:al W (w.heap.size+1) 4 #[.bool b]) (ht:tmps[2]? =some (.pointer (some ⟨w.heap.size+1,0,none⟩))) (hv:pB (eM up)=b):
 LeavesInM Fence.wide 8 prog Tryz.f149 tmps (fun e R=>e=.returned (.bool (pB (eM up)))∧aa All w R) (Ds.map ME) .returning W:=by
 refine lM Ds _ Y h2 fun R j=>?_;have I:=(hb.kept j (fun hm=>by have:=J _ hm;omega)).cell 0;simp only[gc] at I;refine⟨.bool b,?_,by rw[hv],j.os.trans (C.os.trans o.os),j.output.trans (C.output.trans o.output),dA o.size (dA C.size j.size),fun c I _=>?_⟩;·simp[results,Tryz.f149,go_sem,I,ht]
 have:=C.size;rw[j.block c (by omega) (fun hm=>by have:=J _ hm;omega),C.block c (by omega) (by omega)];exact o.block c I trivial
theorem Dx (S:Nat→Prop)(v:Value)(up:List (BitVec 64))(w:World)(hv:rt S w v up)(hl:cP w):
 Calls prog 149 #[v] w fun e w'=>e=.returned (.bool (pB (eM up)))∧aa All w w':=by
 have e6:=hv;obtain⟨A,cap,rfl,h1,h2,_,_⟩:=hv;unfold maxLen at h2;refine(callsIn_wide (n:=8)).1 ?_;refine callsIn_of_wp_marks func149 rfl trivial ?_ rfl;simp only[ntmps149,List.size_toArray,lD,List.length_nil,Nat.reduceAdd,Nat.reduceSub,Array.replicate_succ,Array.replicate_zero,List.push_toArray,List.append_toArray,si,List.cons_append];rw[wpIn_wide];by_cases hn:up.length<1∨64<up.length
 ·have b0:=oH (az (P:=eM up) fun h=>by have:=h.1;have:=h.2.1;omega);have hr:decide ((up.length:Int)<1)=true∨(decide ((up.length:Int)<1)=false∧decide ((64:Int)<up.length)=true):=by simp only[eq,decide_eq_false_iff_not];omega
  clear hn e6 hl;rcases hr with hr|⟨hr,n9⟩
  all_goals
   go_wp2;refine⟨.bool false,?_,by rw[b0.out],((aa.refl All w).alloc _).alloc _⟩;simp[results,Tryz.f149,go_sem]
 have hr:decide ((up.length:Int)<1)=false:=by simp;omega
 have n9:decide ((64:Int)<up.length)=false:=by simp;omega
 have k1:up.length≤64:=by omega
 have k2:1≤up.length:=by omega
 have b6:=fun W=>Ag up.length k1 W;have o0:=oH b6;clear b6 hn;go_wp2_with (go_at_call 209;refine(o0.out _).mono ?_;rintro e w' ⟨rfl,rfl⟩);obtain⟨wl,c0⟩:=eQ ((w.alloc (.cells #[.slice A up.length cap] 23)).alloc (.cells #[.bool false] 4));have k3:al wl w.heap.size 23 #[.slice A up.length cap]:=by rw[c0];exact(al.new _ _ _).alloc _
 have a7:al wl (w.heap.size+1) 4 #[.bool false]:=by rw[c0];exact ac (by simp)
 have e7:aa All w wl:=by rw[c0];exact(kR.alloc _).alloc _
 have d8:wl.heap.size=w.heap.size+2:=by rw[c0];simp
 rw[←c0];clear c0;have k4:=hl.keep e7;have HL:=J5 e6 k3 a7 e7 k4;clear e6 hl k3 a7 e7 k4;refine wp_loop_ghost_k (fun gg a wr=>∃(k:Nat) (Ds:List Nat) (x4 x5 x6 k5 k6 k7 k8 k9 l0 l1 l2 l3 l4 l5 l6 l7 l8 l9 n0 n1 e8 e9 h0 h3 h4 h5 h6 h7 h8 h9 i1 i6 i7 j0 j1 j2 j3 j4 j5 j6 j7:Value),a= {tmps:=#[.slice A up.length cap,.pointer (some ⟨w.heap.size,0,none⟩),.pointer (some ⟨w.heap.size+1,0,none⟩),U (oP up.length),x4,x5,x6,.slice A up.length cap,.int .i64 up.length,.bool false,.bool false,.slice A up.length cap,.int .i64 up.length,.bool false,.bool false,.slice A up.length cap,.int .i64 up.length,U (oP up.length),.slice A up.length cap,.int .i64 up.length,.int .i64 k,k5,k6,k7,k8,k9,l0,l1,l2,l3,l4,l5,l6,l7,l8,l9,n0,n1,e8,e9,h0,h3,h4,h5,h6,h7,h8,h9,i1,i6,i7,j0,j1,j2,j3,j4,j5,j6,j7],defers:=Ds.map ME}∧k≤up.length∧gg=up.length-k∧LJ up wl k Ds wr) up.length ?start ?round
 case start=>exact⟨0,[],undef,undef,undef,undef,undef,undef,undef,undef,undef,undef,undef,undef,undef,undef,undef,undef,undef,undef,undef,undef,undef,undef,undef,undef,undef,undef,undef,undef,undef,undef,undef,undef,undef,undef,undef,undef,undef,undef,undef,undef,undef,rfl,by omega,by omega,List.nodup_nil,(fun D h=>by simp at h),(fun D h=>by simp at h),kR,fun i hi=>by omega⟩
 rintro gg a wr ⟨k,Ds,x4,x5,x6,k5,k6,k7,k8,k9,l0,l1,l2,l3,l4,l5,l6,l7,l8,l9,n0,n1,e8,e9,h0,h3,h4,h5,h6,h7,h8,h9,i1,i6,i7,j0,j1,j2,j3,j4,j5,j6,j7,rfl,hk,rfl,hinv⟩ J K hJ hK;have R:=oH hinv;have b7:=(HL.2.1.kept hinv.kept trivial).cell 0;have b8:=(HL.2.2.1.kept hinv.kept trivial).cell 0;have c4:=(HL.2.2.1.kept hinv.kept trivial).free 0;simp only[gc] at b7 b8;have o5:w.heap.size<wr.heap.size:=by have:=hinv.kept.size;omega
 have o6:w.heap.size+1<wr.heap.size:=by have:=hinv.kept.size;omega
 clear hinv;by_cases c1:k<up.length;·(
 obtain⟨b,o,rfl,_,hc⟩:=oU (eX.keep (S:=S) ((HL.2.2.2.1.trans R.out.kept).all) HL.1) c1;have o7:b<wr.heap.size:=gx wr _ hc;have a8:=fun W=>lj (aN up k) k (by omega) W;cases a7:(aN up k).getLsbD k with
 |false=>
  rw[a7] at a8;have HH:=oH a8;have b0:=oH (az (P:=eM up) fun h=>by have:=(lk.1 h).2.2 k c1;rw[EO,a7] at this;exact lE this.1);clear a8 a7;go_wp2_with (go_at_call 119;refine(HH.out _).mono ?_;rintro e w' ⟨rfl,rfl⟩);refine kl (wl:=wl) R.out.nodup (fun D hD=>?_) R.out.far HL.2.2.2.1 d8 ?_ ?_ rfl b0.out;·have h1:=R.out.marks D hD;have h2:=R.out.far D hD;exact((((aa.refl (fun c=>c≠w.heap.size+1) wr).setCell (p:=⟨w.heap.size+1,0,none⟩) (.inl (by simp)) (.bool false)).alloc (.cells #[.int .i64 k] 3)).alloc (.cells #[U (aN up k)] 52)).block D (kT.1 h1).1 (by omega)|>.trans h1
  ·exact((R.out.kept.all.setCell (p:=⟨w.heap.size+1,0,none⟩) (.inl (by simp)) _).alloc _).alloc _
  have:=(((HL.2.2.1.kept R.out.kept trivial).set 0 (.bool false)).alloc (.cells #[.int .i64 k] 3)).alloc (.cells #[U (aN up k)] 52);simpa using this
 |true=>
  rw[a7] at a8;have HH:=oH a8;clear a8;cases c2:(aN up k&&& ~~~oP up.length !=0#64) with
  |true=>
   have b0:=oH (az (P:=eM up) fun h=>by have h2:=(lk.1 h).2.2 k c1;have:=BX.2 h2.2.1;rw[this] at c2;simp at c2);clear a7;go_wp2_with (go_at_call 119;refine(HH.out _).mono ?_;rintro e w' ⟨rfl,rfl⟩);refine kl (wl:=wl) R.out.nodup (fun D hD=>?_) R.out.far HL.2.2.2.1 d8 ?_ ?_ rfl b0.out;·have h1:=R.out.marks D hD;have h2:=R.out.far D hD;exact((((aa.refl (fun c=>c≠w.heap.size+1) wr).setCell (p:=⟨w.heap.size+1,0,none⟩) (.inl (by simp)) (.bool false)).alloc (.cells #[.int .i64 k] 3)).alloc (.cells #[U (aN up k)] 52)).block D (kT.1 h1).1 (by omega)|>.trans h1
   ·exact((R.out.kept.all.setCell (p:=⟨w.heap.size+1,0,none⟩) (.inl (by simp)) _).alloc _).alloc _
   have:=(((HL.2.2.1.kept R.out.kept trivial).set 0 (.bool false)).alloc (.cells #[.int .i64 k] 3)).alloc (.cells #[U (aN up k)] 52);simpa using this
  |false=>
   have n2:∀j,j<64→(aN up k).getLsbD j=true→j<up.length:=BX.1 (by simpa using c2);have j8:=J2 n2 a7;clear n2 a7;go_wp2_with (first|(go_at_call 119;refine(HH.out _).mono ?_;rintro e w' ⟨rfl,rfl⟩)|(go_at_call 210;refine(wh _ _).mono ?_;rintro e w' ⟨rfl,rfl⟩));obtain⟨w1,b3⟩:=eQ (((wr.alloc (.cells #[.int .i64 k] 3)).alloc (.cells #[U (aN up k)] 52)).alloc (.cells #[U (aN up k)] 52));have n3:al w1 wr.heap.size 3 #[.int .i64 k]:=by rw[b3];exact((al.new _ _ _).alloc _).alloc _
   have n4:al w1 (wr.heap.size+1) 52 #[U (aN up k)]:=by rw[b3];exact(ac (by simp)).alloc _
   have d9:al w1 (wr.heap.size+1+1) 52 #[U (aN up k)]:=by rw[b3];exact ac (by simp)
   have c5:aa All wr w1:=by rw[b3];exact((kR.alloc _).alloc _).alloc _
   have o4:w1.heap.size=wr.heap.size+3:=by rw[b3];simp
   rw[←b3];clear b3;have b9:cP w1:=HL.2.2.2.2.keep (R.out.kept.trans c5);have n5:∀D∈Ds,D<wr.heap.size:=fun D hD=>(kT.1 (R.out.marks D hD)).1;have HA:=J4 n3 n4 c5 n5;clear n3 n4 c5 n5
   refine wpIn_wide.1 (wpIn_rangeFunc_ownF (F:=Fence.wide) (n:=8) rfl (by omega) (gf:=238) (lb:=#[.pointer (some ⟨wr.heap.size+1+1,0,none⟩)]) rfl trivial (enters_of func238 (by kernel_rfl) rfl)
    (qk 7 (by omega) (aN up k) _ w1 b9 d9) lL (lK _) (Below.refl _ _) (fun _=>rfl)
    (fun pre W=>If up k pre∧aa All w1 W)
    (fun c _ W=>(LK up c∧aa (fun b=>b≠w.heap.size+1) w1 W)∧al W (w.heap.size+1) 4 #[.bool false])
    (OwnFrom.and (ownFrom_pure _ _) (fN (bj _)))
    (fun c=>OwnFrom.and (OwnFrom.and (ownFrom_pure _ _) (fN (bj _))) gF)
    ⟨fun x hx=>by simp at hx,kR⟩
    (fun x=> {tmps:=#[.slice (some ⟨b,o,none⟩) up.length cap,.pointer (some ⟨w.heap.size,0,none⟩),.pointer (some ⟨w.heap.size+1,0,none⟩),U (oP up.length),.pointer (some ⟨wr.heap.size,0,none⟩),.pointer (some ⟨wr.heap.size+1,0,none⟩),.int .i64 (x.1:Nat),.slice (some ⟨b,o,none⟩) up.length cap,.int .i64 up.length,.bool false,.bool false,.slice (some ⟨b,o,none⟩) up.length cap,.int .i64 up.length,.bool false,.bool false,.slice (some ⟨b,o,none⟩) up.length cap,.int .i64 up.length,U (oP up.length),.slice (some ⟨b,o,none⟩) up.length cap,.int .i64 up.length,.int .i64 k,.bool true,.int .i64 k,.pointer (some ⟨b,o+k,none⟩),U (aN up k),U (aN up k),.int .i64 k,.bool true,.bool false,.bool false,U (aN up k),U (oP up.length),U (aN up k&&& ~~~oP up.length),.bool false,.bool false,U (aN up k),.func (.func 238) #[] #[.pointer (some ⟨wr.heap.size+1+1,0,none⟩)],.int .i64 (x.1:Nat),e8,e9,h0,h3,h4,h5,h6,h7,h8,h9,i1,i6,i7,j0,j1,j2,j3,j4,j5,j6,j7],defers:=[]}) ?assign ?body ?done ?stop)
   case assign=>(intro l x W K hK;gi_wp2;exact hK)
   case stop=>(
 rintro D c pre W hD _ ⟨⟨⟨rfl,n6⟩,a6⟩,c6⟩ c7;rw[wpIn_wide];have n7:=R.out.kept.all.trans (HA.2.2.1.all.trans a6);have HV:=J5 n6 c6 a6 c7 n7;clear n6 c6 a6 c7 n7 d9 b9 b7 b8 c4 c2;go_wp2;refine kl (Ds:=D::Ds) (wl:=wl) (List.nodup_cons.2 ⟨fun h=>by have:=HA.2.2.2 D h;omega,R.out.nodup⟩) (fun E hE=>?_) (fun E hE=>?_) HL.2.2.2.1 d8 HV.2.2.2.2 HV.2.1 rfl (az HV.1)
 ·rcases fV.1 hE with rfl|hE;·exact HV.2.2.2.1
  have h1:=HA.2.2.2 E hE;have h2:=R.out.far E hE;rw[HV.2.2.1.block E (by omega) (by omega),HA.2.2.1.block E h1 trivial];exact R.out.marks E hE
 rcases fV.1 hE with rfl|hE;·have:=R.out.kept.size;omega
 exact R.out.far E hE)
   case done=>(
 rintro D xs W hD hS ⟨b1,a6⟩ c7;have hinv:LJ up wl (k+1) (D::Ds) W:=by(
 refine⟨List.nodup_cons.2 ⟨fun h=>by have:=HA.2.2.2 D h;omega,R.out.nodup⟩,fun E hE=>?_,fun E hE=>?_,R.out.kept.trans (HA.2.2.1.trans a6),fun i hi=>?_⟩
 ·rcases fV.1 hE with rfl|hE;·exact c7
  have h1:=HA.2.2.2 E hE;rw[a6.block E (by omega) trivial,HA.2.2.1.block E h1 trivial];exact R.out.marks E hE
 ·rcases fV.1 hE with rfl|hE
  ·have:=R.out.kept.size;omega
  exact R.out.far E hE
 by_cases e:i=k
 ·subst e;refine⟨j8.2,j8.1,fun j hj hb=>?_⟩;have hm:j∈xs.map Subtype.val:=by rw[hS];exact jA.2 ⟨hj,hb⟩
  obtain⟨x,hx,rfl⟩:=dt.1 hm;exact b1 x hx
 exact R.out.good i (by omega))
 have HV:=oH hinv;clear hinv hS a6 b1 c7 b9 d9 b7 b8 c4 c2;go_wp2;exact Handed.intro (up.length-(k+1)) (by omega) (hJ _ _ _ ⟨k+1,D::Ds,_,_,_,_,_,_,_,_,_,_,_,_,_,_,_,_,_,_,_,_,_,_,_,_,_,_,_,_,_,_,_,_,_,_,_,_,_,_,_,_,_,rfl,by omega,rfl,HV.out⟩))
   rintro l pre x W ⟨b1,a6⟩ _;have o1:=j8.1 x.1 x.2.1 x.2.2;have c8:∀wn,aa All W wn→wn.cell? ⟨w.heap.size,0,none⟩=some (.slice (some ⟨b,o,none⟩) up.length cap)∧wn.cell? ⟨wr.heap.size,0,none⟩=some (.int .i64 k)∧wn.cell? ⟨wr.heap.size+1,0,none⟩=some (U (aN up k))∧wn.cell? ⟨b,o+x.1,none⟩=some (U (aN up x.1))∧True:=fun wn C=>by have c9:=a6.trans C;have n8:=R.out.kept.trans (HA.2.2.1.trans c9);obtain⟨b',o',e,_,o2⟩:=oU (eX.keep (S:=S) ((HL.2.2.2.1.trans n8).all) HL.1) o1;cases e;exact⟨(HL.2.1.kept n8 trivial).cell 0,(HA.1.kept c9 trivial).cell 0,(HA.2.1.kept c9 trivial).cell 0,o2,trivial⟩
   have c6:=HL.2.2.1.kept (R.out.kept.trans (HA.2.2.1.trans a6)) trivial;have HF:=J4 c8 a6 b1 c6;have Y:=fun W=>lj (aN up x.1) k (by omega) W;have e0:((x.1:Int)==(k:Int))=decide (x.1=k):=by rw[Bool.eq_iff_iff,cX,eq];omega
   clear c8 a6 b1 c6 d9 b9 b7 b8 c4 c2 hc;cases j9:(aN up x.1&&& ~~~(aN up k) !=0#64) with
   |true=>
    have b0:Hid (¬eM up):=oH fun h=>by have h2:=(((lk.1 h).2.2 k c1).2.2 x.1 x.2.1 x.2.2).2;rw[h2] at j9;simp at j9
    clear Y e0;gi_wp2;refine eI (aa All W) [] (fun _ _ _=>True) (fun _=>none) (by kernel_rfl) (by kernel_rfl) (by kernel_rfl) (by kernel_rfl) (by kernel_rfl) kR.drew ?_;iterate 8 (refine cO (by rfl) (by rfl) (by intro d hd;cases hd;decide) (fun wn hk hp=>by(obtain⟨e1,e2,e3,e4,e5⟩:=HF.1 wn hk;go_simp;with_reducible rfl)) ?_;simp only[PS])
    iterate 11 (refine uf (by rfl) (by intro d hd;cases hd;decide) ?_;simp only[PS])
    iterate 1 (refine cO (by rfl) (by rfl) (by intro d hd;cases hd;decide) (fun wn hk hp=>by(obtain⟨e1,e2,e3,e4,e5⟩:=HF.1 wn hk;go_simp;with_reducible rfl)) ?_;simp only[PS])
    refine gq fun wn C _=>?_;have a1:=HF.2.1.trans C;have I:=HF.2.2.2.kept C trivial;have b4:=I.cell 0;have k0:=I.free 0;simp only[gc] at b4;have HN:=J3 C a1 I;clear C a1 I;gi_wp2;refine⟨(KeepsOthers.of_kept HN.1).trans (KeepsOthers.setCell _ _ _),⟨⟨rfl,b0.out⟩,HN.2.1.all.setCell (p:=⟨w.heap.size+1,0,none⟩) (.inl (by simp)) _⟩,?_⟩;have:=HN.2.2.set 0 (.bool false);simpa using this
   |false=>
    have b2:aN up x.1&&& ~~~(aN up k)=0#64:=by simpa using j9
    by_cases c3:x.1=k;·(
 have o3:((x.1:Int) !=(k:Int))=false:=by simp[c3]
 have d7:Hid (Bj up k x.1):=oH ⟨fun h=>absurd c3 h,b2⟩;clear Y e0 b2 c3;gi_wp2;refine eI (aa All W) [] (fun _ _ _=>True) (fun _=>none) (by kernel_rfl) (by kernel_rfl) (by kernel_rfl) (by kernel_rfl) (by kernel_rfl) kR.drew ?_;iterate 12 (refine cO (by rfl) (by rfl) (by intro d hd;cases hd;decide) (fun wn hk hp=>by(obtain⟨e1,e2,e3,e4,e5⟩:=HF.1 wn hk;go_simp;with_reducible rfl)) ?_;simp only[PS])
 iterate 6 (refine uf (by rfl) (by intro d hd;cases hd;decide) ?_;simp only[PS])
 iterate 2 (refine cO (by rfl) (by rfl) (by intro d hd;cases hd;decide) (fun wn hk hp=>by(obtain⟨e1,e2,e3,e4,e5⟩:=HF.1 wn hk;go_simp;with_reducible rfl)) ?_;simp only[PS])
 refine gq fun wn C _=>?_;have a1:=HF.2.1.trans C;have I:=HF.2.2.2.kept C trivial;have b4:=I.cell 0;have k0:=I.free 0;simp only[gc] at b4;have HN:=J3 C a1 I;clear C a1 I;gi_wp2;refine⟨KeepsOthers.of_kept HN.1,dw.of_kept HN.1,fun y hy=>?_,HN.2.1⟩;rcases dV.1 hy with hy|hy;·exact HF.2.2.1 y hy
 rw[ce.1 hy];exact d7.out)
    have o3:((x.1:Int) !=(k:Int))=true:=by simp;omega
    cases b5:(aN up x.1).getLsbD k with
    |true=>
     have b0:Hid (¬eM up):=oH fun h=>by have h2:=(((lk.1 h).2.2 k c1).2.2 x.1 x.2.1 x.2.2).1 c3;rw[h2] at b5;cases b5
     rw[b5] at Y;have H2:=oH Y;clear Y e0 b2 b5 c3;gi_wp2;refine eI (aa All W) [] (fun _ _ _=>True) (fun k=>if k=17 then some (fun v=>v=.bool true) else none) (by kernel_rfl) (by kernel_rfl) (by kernel_rfl) (by kernel_rfl) (by kernel_rfl) kR.drew ?_;iterate 17 (refine cO (by rfl) (by rfl) (by intro d hd;cases hd;decide) (fun wn hk hp=>by(obtain⟨e1,e2,e3,e4,e5⟩:=HF.1 wn hk;go_simp;with_reducible rfl)) ?_;simp only[PS])
     (refine kt (by rfl) (by rfl) (fun wn hk hp=>?_) ?_
      ·obtain⟨e1,e2,e3,e4,e5⟩:=HF.1 wn hk;go_simp;simp only[mf];refine(H2.out _).mono ?_;rintro e2 wq ⟨rfl,rfl⟩;exact⟨_,rfl,rfl,hk,fun _ _ _ _=>trivial,fun _ _ _=>trivial⟩
      rintro v rfl;simp only[PS])
     iterate 2 (refine cO (by rfl) (by rfl) (by intro d hd;cases hd;decide) (fun wn hk hp=>by(obtain⟨e1,e2,e3,e4,e5⟩:=HF.1 wn hk;go_simp;with_reducible rfl)) ?_;simp only[PS])
     refine gq fun wn C _=>?_;have a1:=HF.2.1.trans C;have I:=HF.2.2.2.kept C trivial;have b4:=I.cell 0;have k0:=I.free 0;simp only[gc] at b4;have HN:=J3 C a1 I;clear C a1 I;gi_wp2;refine⟨(KeepsOthers.of_kept HN.1).trans (KeepsOthers.setCell _ _ _),⟨⟨rfl,b0.out⟩,HN.2.1.all.setCell (p:=⟨w.heap.size+1,0,none⟩) (.inl (by simp)) _⟩,?_⟩;have:=HN.2.2.set 0 (.bool false);simpa using this
    |false=>
     have d7:Hid (Bj up k x.1):=oH ⟨fun _=>b5,b2⟩;rw[b5] at Y;have H2:=oH Y;clear Y e0 b2 b5 c3;gi_wp2;refine eI (aa All W) [] (fun _ _ _=>True) (fun k=>if k=17 then some (fun v=>v=.bool false) else none) (by kernel_rfl) (by kernel_rfl) (by kernel_rfl) (by kernel_rfl) (by kernel_rfl) kR.drew ?_;iterate 17 (refine cO (by rfl) (by rfl) (by intro d hd;cases hd;decide) (fun wn hk hp=>by(obtain⟨e1,e2,e3,e4,e5⟩:=HF.1 wn hk;go_simp;with_reducible rfl)) ?_;simp only[PS])
     (refine kt (by rfl) (by rfl) (fun wn hk hp=>?_) ?_
      ·obtain⟨e1,e2,e3,e4,e5⟩:=HF.1 wn hk;go_simp;simp only[mf];refine(H2.out _).mono ?_;rintro e2 wq ⟨rfl,rfl⟩;exact⟨_,rfl,rfl,hk,fun _ _ _ _=>trivial,fun _ _ _=>trivial⟩
      rintro v rfl;simp only[PS])
     iterate 2 (refine cO (by rfl) (by rfl) (by intro d hd;cases hd;decide) (fun wn hk hp=>by(obtain⟨e1,e2,e3,e4,e5⟩:=HF.1 wn hk;go_simp;with_reducible rfl)) ?_;simp only[PS])
     refine gq fun wn C _=>?_;have a1:=HF.2.1.trans C;have I:=HF.2.2.2.kept C trivial;have b4:=I.cell 0;have k0:=I.free 0;simp only[gc] at b4;have HN:=J3 C a1 I;clear C a1 I;gi_wp2;refine⟨KeepsOthers.of_kept HN.1,dw.of_kept HN.1,fun y hy=>?_,HN.2.1⟩;rcases dV.1 hy with hy|hy;·exact HF.2.2.1 y hy
     rw[ce.1 hy];exact d7.out)
 obtain rfl:k=up.length:=by omega
 have HY:=oH (aw (P:=eM up) (lk.2 ⟨k2,k1,R.out.good⟩));clear c1 hk;go_wp2;refine kl (wl:=wl) R.out.nodup (fun D hD=>?_) R.out.far HL.2.2.2.1 d8 (R.out.kept.all.setCell (p:=⟨w.heap.size+1,0,none⟩) (.inl (by simp)) _) ?_ rfl HY.out
 ·have h2:=R.out.far D hD
  rw[pI _ _ _ _ (by simp only;omega)];exact R.out.marks D hD
 have:=(HL.2.2.1.kept R.out.kept trivial).set 0 (.bool true);simpa using this
end
section
open Go.RowKit Go.Shelf
attribute [local go_sem] ko pZ uy iD ni nq nj nk lY rq nl wD pz
attribute [local go_sem] ny jo gj kP List.getElem?_toArray List.getElem?_cons_zero
def qQ (up:List (BitVec 64)):Prop:=∀a,a<up.length→∀b,b<a→0≤fi up (aN up a&&&aN up b)
theorem Ac (up:List (BitVec 64))(set:BitVec 64): -1≤fi up set∧fi up set<64:=IN _ _
theorem xW (S:Nat→Prop)(v:Value)(up:List (BitVec 64))(w:World)(hv:rt S w v up)(hl:cP w)(b9:up.length≤64)(a7:∀i,i<up.length→∀k,k<64→(aN up i).getLsbD k=true→k<up.length):
 Calls prog 150 #[v] w fun e w'=>e=.returned (.bool (pB (qQ up)))∧aa All w w':=by
 have a8:=hv;obtain⟨A,cap,rfl,h1,h2,_,_⟩:=hv;unfold maxLen at h2;have HL:=J3 a8 hl a7;clear a8 hl a7;go_enter func150,ntmps150;go_wp2;go_loopg [7] up.length (fun g i wr=>∃a:Nat,a≤up.length∧g=up.length-a∧i=.int .i64 a∧aa All w wr∧∀x,x<a→∀b,b<x→0≤fi up (aN up x&&&aN up b));·exact⟨0,by omega,by omega,rfl,kR,fun x hx=>by omega⟩
 obtain⟨a,ha,rfl,rfl,j,C⟩:=hrel;have HA:=J2 j C;clear j C;by_cases a1:a<up.length;·(
 go_wp2;obtain⟨wa,b4⟩:=eQ wr;go_loopg [11] a (fun g i wr=>∃b:Nat,b≤a∧g=a-b∧i=.int .i64 b∧aa All w wr∧∀x,x<b→0≤fi up (aN up a&&&aN up x));·exact⟨0,by omega,by omega,rfl,HA.1,fun x hx=>by omega⟩
 clear b4;obtain⟨b,hb,rfl,rfl,j,C⟩:=hrel;have Y:=J2 j C;clear j C;by_cases b0:b<a;·(
 have I:∀wn,aa All wr wn→∃bb o,A=some ⟨bb,o,none⟩∧wn.cell? ⟨bb,o+a,none⟩=some (U (aN up a))∧wn.cell? ⟨bb,o+b,none⟩=some (U (aN up b)):=fun wn a6=>by have hu:=eX.keep (S:=S) ((Y.1.trans a6).all) HL.1;obtain⟨bb,o,e,_,hc⟩:=oU hu a1;obtain⟨c0,o',e',_,b5⟩:=oU hu (show b<up.length by omega);rw[e] at e';cases e';exact⟨bb,o,e,hc,b5⟩
 obtain⟨bb,o,rfl,_⟩:=I wr kR;have J:∀wn,aa All wr wn→wn.cell? ⟨bb,o+a,none⟩=some (U (aN up a))∧wn.cell? ⟨bb,o+b,none⟩=some (U (aN up b)):=fun wn a6=>by obtain⟨b',o',e,h3,h4⟩:=I wn a6;cases e;exact⟨h3,h4⟩
 have R:=fun wn (j:aa All wr wn)=>Dh S _ up (aN up a&&&aN up b) wn (eX.keep ((Y.1.trans j).all) HL.1) (HL.2.1.keep (Y.1.trans j)) (fun k b1 b2=>by rw[BitVec.getLsbD_and,dX] at b2;exact HL.2.2 a a1 k b1 b2.1);have c1:=Ac up (aN up a&&&aN up b);have HC:=J2 J R;have hx:fi up (aN up a&&&aN up b)=fi up (aN up a&&&aN up b):=rfl;clear I J R;generalize hr:fi up (aN up a&&&aN up b)=r at*;have HR:=oH hr;clear hr hx;have b8:b<up.length:=by omega
 go_wp2_with fail;refine ow (aa All wr) [] (fun _ _ _=>True) (fun k=>if k=10 then some (fun v=>v=.int .i64 r) else none) (by kernel_rfl) (by kernel_rfl) (by kernel_rfl) (by kernel_rfl) kR.drew ?_;iterate 10 (refine cO (by rfl) (by rfl) (by intro d hd;cases hd;decide) (fun wn j hp=>by(obtain⟨e1,e2⟩:=HC.1 wn j;go_simp;with_reducible rfl)) ?_;simp only[PS])
 refine kt (by rfl) (by rfl) (fun wn j hp=>?_) ?_;·go_simp;simp only[mf];refine(HC.2 wn j).mono ?_;rintro e2 wq ⟨rfl,b6⟩;exact⟨_,rfl,rfl,j.trans b6,fun _ _ _ _=>trivial,fun _ _ _=>trivial⟩
 rintro v rfl;simp only[PS];by_cases b3:r<0
 ·have hd:decide (r<0)=true:=by simpa using b3
  have b7:=oH (az (P:=qQ up) fun h=>by have:=h a a1 b b0;rw[HR.out] at this;omega);iterate 1 (refine cO (by rfl) (by rfl) (by intro d hd;cases hd;decide) (fun wn j hp=>by(go_simp;with_reducible rfl)) ?_;simp only[PS])
  refine gq fun wn j _=>?_;have HN:=oH (Y.1.trans j);clear j;go_wp2;go_ret;exact⟨by rw[b7.out];rfl,HN.out⟩
 have hd:decide (r<0)=false:=by simpa using b3
 iterate 1 (refine cO (by rfl) (by rfl) (by intro d hd;cases hd;decide) (fun wn j hp=>by(go_simp;with_reducible rfl)) ?_;simp only[PS])
 refine gq fun wn j _=>?_;have HN:=oH (Y.1.trans j);clear j;go_wp2;go_roundg (a-(b+1))
 ·refine⟨b+1,by omega,rfl,by go_num,HN.out,fun x hx=>?_⟩
  by_cases e:x=b;·subst e;rw[HR.out];omega
  exact Y.2 x (by omega)
 omega)
 obtain rfl:b=a:=by omega
 go_wp2;go_roundg (up.length-(b+1))
 ·refine⟨b+1,by omega,rfl,by go_num,Y.1,fun x hx=>?_⟩
  by_cases e:x=b;·subst e;exact Y.2
  exact HA.2 x (by omega)
 omega)
 obtain rfl:a=up.length:=by omega
 have HY:=oH (aw (P:=qQ up) HA.2);go_wp2;go_ret;exact⟨by rw[HY.out];rfl,HA.1⟩
theorem Ej {up:List (BitVec 64)}:∀i,i<(cY up).length→∀k,k<64→(aN (cY up) i).getLsbD k=true→k<(cY up).length:=by intro i hi k o j;rw[jK] at hi⊢;rw[dF hi o,dX,eq] at j;exact j.1
theorem Ge {up:List (BitVec 64)}(C:eM up):vY up↔qQ up∧qQ (cY up):=by
 constructor
 ·rintro⟨_,h⟩;refine⟨fun a j b o=>?_,fun a j b o=>?_⟩;·rw[sL C j (by omega)];exact(h a j b o).1
  rw[jK] at j;rw[sM C j (by omega)];exact(h a j b o).2
 rintro⟨I,J⟩;refine⟨C,fun a j b o=>⟨?_,?_⟩⟩;·rw[←sL C j (by omega)];exact I a j b o
 rw[←sM C j (by omega)];exact J a (by rw[jK];exact j) b o
theorem Gx {P Q:Prop}:pB (P∧Q)=(pB P&&pB Q):=by
 by_cases h:P
 ·by_cases k:Q
  ·rw[aw h,aw k,aw ⟨h,k⟩];rfl
  rw[aw h,az k,az fun x=>k x.2];rfl
 rw[az h,az fun x=>h x.1];rfl
theorem mU {P Q:Prop}(h:P↔Q):pB P=pB Q:=by rw[propext h]
theorem pN (S:Nat→Prop)(v:Value)(up:List (BitVec 64))(w:World)(hv:rt S w v up)(hl:cP w):
 Calls prog 103 #[v] w fun e w'=>e=.returned (.bool (pB (vY up)))∧aa All w w':=by
 have j:=Dx S v up w hv hl;by_cases Y:eM up
 ·rw[aw Y] at j;have a1:∀i,i<up.length→∀k,k<64→(aN up i).getLsbD k=true→k<up.length:=fun i hi k hk hb=>((Y.2.2 i hi).2 k hk hb).1;have C:=fun wn (hk:aa All w wn)=>xW S v up wn (eX.keep hk.all hv) (hl.keep hk) Y.2.1 a1;have I:=fun wn (hk:aa All w wn)=>Bd S v up wn (eX.keep hk.all hv) (hl.keep hk) Y.2.1 a1;have HP:=J5 (mU (Ge Y)) j C I hl;have a8:=Y.2.1;clear j C I a1 hv Y hl;have HX:=oH (Gx (P:=qQ up) (Q:=qQ (cY up)));cases he:pB (qQ up) with
  |false=>have HE:=oH he;clear he;go_enter func103,ntmps103;go_wp2_with fail;refine HP.2.1.mono ?_;rintro e w1 ⟨rfl,o⟩;have H1:=oH o;clear o;go_wp2_with fail;refine(HP.2.2.1 w1 H1.out).mono ?_;rw[HE.out];rintro e w2 ⟨rfl,J⟩;have H2:=oH (H1.out.trans J);clear J;go_wp2_with fail;go_ret;exact⟨by rw[HP.1,HX.out,HE.out];rfl,H2.out⟩
  |true=>have HE:=oH he;clear he;go_enter func103,ntmps103;go_wp2_with fail;refine HP.2.1.mono ?_;rintro e w1 ⟨rfl,o⟩;have H1:=oH o;clear o;go_wp2_with fail;refine(HP.2.2.1 w1 H1.out).mono ?_;rw[HE.out];rintro e w2 ⟨rfl,J⟩;have H2:=oH (H1.out.trans J);clear J;go_wp2_with fail;refine(HP.2.2.2.1 w2 H2.out).mono ?_;rintro e w3 ⟨u,rfl,a6,hu⟩;have R:=xW _ u (cY up) w3 hu (HP.2.2.2.2.keep (H2.out.trans a6)) (by rw[jK];exact a8) Ej;have H3:=J2 (H2.out.trans a6) R;clear a6 R hu;go_wp2_with fail;refine H3.2.mono ?_;rintro e w4 ⟨rfl,a7⟩;have H4:=oH (H3.1.trans a7);clear a7;go_wp2_with fail;go_ret;exact⟨by rw[HP.1,HX.out,HE.out,Bool.true_and];rfl,H4.out⟩
 rw[az Y] at j;have b0:=oH (az (P:=vY up) fun h=>Y h.1);have HP:=oH j;clear j Y hv hl;go_enter func103,ntmps103;go_wp2_with fail;refine HP.out.mono ?_;rintro e w1 ⟨rfl,o⟩;have H1:=oH o;clear o;go_wp2_with fail;go_ret;exact⟨by rw[b0.out];rfl,H1.out⟩
end
theorem Af {p:aI}{k:Nat}{s:ByteArray}(h:p.Ng[k]? =some s):0≤cH p s:=by unfold cH gt;have:p.Ng.any (fun y=>y.toList==s.toList)=true:=od.2 ⟨s,mG h,by simp⟩;rw[am this];omega
theorem ic {S:Nat→Prop}{w:World}{A:Option Addr}{n c:Nat}{l:List ByteArray}(h:cC S w (.slice A n c) l){i:Nat}{s:ByteArray}(hi:l[i]? =some s):∃b o,A=some ⟨b,o,none⟩∧S b∧w.cell? ⟨b,o+i,none⟩=some (.string s):=by obtain⟨a,cap,j,_,_,_,h⟩:=h;injection j with C R Y;subst C;obtain⟨b,o,c',e,I,J,rfl⟩:=h i _ hi;exact⟨b,o,e,I,J⟩
def Bv (p:aI)(i:Nat)(s:ByteArray):Prop:=ax s=true∧cH p s=i
theorem lU (S:Nat→Prop)(v:Value)(p:aI)(w:World)(hv:gR S w v p)(hl:cP w):
 Calls prog 52 #[v] w fun e w'=>e=.returned (.bool (pB (dZ p)))∧aa All w w':=by
 have b3:=hv;obtain⟨a,b,c,d,rfl,h1,h2,h3,h4,h5⟩:=hv;have c3:=h1;have c5:=h2;obtain⟨a1,a8,rfl,k1,k2,k3,_⟩:=h1;obtain⟨a2,b0,rfl,m1,m2,m3,_⟩:=h2;unfold maxLen at k2 m2;have c6:aa All w (w.alloc (.cells #[.slice a1 p.Ng.length a8,.slice a2 p.up.length b0,c,d,.int .i64 p.Nj] 26)):=(aa.refl All w).alloc _;have c7:al (w.alloc (.cells #[.slice a1 p.Ng.length a8,.slice a2 p.up.length b0,c,d,.int .i64 p.Nj] 26)) w.heap.size 26 #[.slice a1 p.Ng.length a8,.slice a2 p.up.length b0,c,d,.int .i64 p.Nj]:=al.new _ _ _;have b6:=fun wn (hk:aa All w wn)=>pN S _ p.up wn (eX.keep hk.all c5) (hl.keep hk);have b7:=fun wn s (hk:aa All w wn)=>gi S _ p s wn (bG.keep hk.all b3);have c8:=fun wn (hk:aa All w wn)=>qV S S _ _ p p.Ni wn (bG.keep hk.all b3) (cG.keep hk.all h3);have b8:=fun wn (hk:aa All w wn)=>qV S S _ _ p p.Nh wn (bG.keep hk.all b3) (cG.keep hk.all h4);obtain⟨d1,d2⟩:=zk h5;have HV:=J6 c3 b7 c8 b8 c6 c7;have b4:=oH b6;obtain⟨ai,h6,rfl,_⟩:=h3;obtain⟨ao,h7,rfl,_⟩:=h4;clear c3 c5 b7 c8 b8 c6 c7 b6 b3 hl h5;go_enter func52,ntmps52;by_cases j:p.Ng.length=p.up.length;·(
 have e6:((p.up.length:Int) !=(p.Ng.length:Int))=false:=by simp[j]
 by_cases hL:vY p.up;·(
 have c1:=oH (aw hL);by_cases c9:p.Nj<1
 ·have e7:decide (p.Nj<1)=true:=by simpa using c9
  have R:=oH (az (P:=dZ p) fun h=>by have:=h.2.2.1;omega);have HE:=oH j;clear j hL;go_wp2_with (go_at_call 103;refine(b4.out _ HV.2.2.2.2.1).mono ?_;rw[c1.out];rintro e w1 ⟨rfl,J⟩;have C:=HV.2.2.2.2.2.kept J trivial;have c4:=C.cell 4;simp only[gc] at c4;have H1:=J2 J C;clear J C);go_ret;exact⟨by rw[R.out];rfl,HV.2.2.2.2.1.trans H1.1⟩
 have e7:decide (p.Nj<1)=false:=by simpa using c9
 by_cases d7:64<p.Nj
 ·have e8:decide (64<p.Nj)=true:=by simpa using d7
  have R:=oH (az (P:=dZ p) fun h=>by have:=h.2.2.2.1;omega);have HE:=oH j;clear j hL;go_wp2_with (go_at_call 103;refine(b4.out _ HV.2.2.2.2.1).mono ?_;rw[c1.out];rintro e w1 ⟨rfl,J⟩;have C:=HV.2.2.2.2.2.kept J trivial;have c4:=C.cell 4;simp only[gc] at c4;have H1:=J2 J C;clear J C);go_ret;exact⟨by rw[R.out];rfl,HV.2.2.2.2.1.trans H1.1⟩
 have e8:decide (64<p.Nj)=false:=by simpa using d7
 have HP:Hid ((∀(i:Nat) s,p.Ng[i]? =some s→Bv p i s)∧dG p p.Ni∧dG p p.Nh↔dZ p):=oH ⟨fun h=>⟨j,hL,by omega,by omega,h.1,h.2.1,h.2.2⟩,fun h=>⟨h.2.2.2.2.1,h.2.2.2.2.2.1,h.2.2.2.2.2.2⟩⟩;have HE:=oH j;clear j hL;go_wp2_with (go_at_call 103;refine(b4.out _ HV.2.2.2.2.1).mono ?_;rw[c1.out];rintro e w1 ⟨rfl,J⟩;have C:=HV.2.2.2.2.2.kept J trivial;have c4:=C.cell 4;have c0:=C.cell 0;simp only[gc] at c4 c0;have H1:=J2 J C;clear J C);clear c4 c0;go_loopg [33] p.Ng.length (fun g i wr=>∃k:Nat,k≤p.Ng.length∧g=p.Ng.length-k∧i=.int .i64 k∧aa All w1 wr∧∀(i:Nat) s,i<k→p.Ng[i]? =some s→Bv p i s);·exact⟨0,by omega,by omega,rfl,kR,fun i s hi=>by omega⟩
 obtain⟨k,hk,rfl,rfl,b5,b9⟩:=hrel;have d8:=(HV.2.2.2.2.1.trans H1.1).trans b5;have C:=H1.2.kept b5 trivial;obtain⟨h8,h9,i1,i6,i7⟩:=C.c5;have HA:=J4 b5 b9 d8 C;clear b5 b9 d8 C;by_cases d9:k<p.Ng.length;·(
 obtain⟨s,hs⟩:=eG d9;obtain⟨bb,o,rfl,_,hc⟩:=ic (ap.keep (S:=S) HA.2.2.1.all HV.1) hs;have b1:=Af hs;have c2:=HV.2.1 wr s HA.2.2.1;have e9:=nN (fun x:ByteArray=>x.toList==s.toList) p.Ng;rw[show gt (fun x:ByteArray=>x.toList==s.toList) p.Ng=cH p s from rfl] at e9;rw[show gM (cH p s)=.tuple #[.int .i64 (cH p s),.bool true] by rw[gM,Int.max_eq_left b1,be b1]] at c2;have a6:Bv p k s↔ax s=true∧cH p s=k:=Iff.rfl;have e0:=fun wn=>qD s wn;have HC:=J3 c2 e0 hs;clear c2 e0 hs;generalize ax s=nm at*;generalize cH p s=r at*;cases nm with
 |false=>
  have R:=oH (az (P:=dZ p) fun h=>by have:=a6.1 ((HP.2 h).1 k s HC.2.2);exact Bool.noConfusion this.1);clear a6
  go_wp2_with (first
   |(go_at_call 84;refine HC.1.mono ?_;rintro e w2 ⟨rfl,I⟩;have H2:=oH I;clear I)
   |(go_at_call 104;refine(HC.2.1 _).mono ?_;rintro e w3 ⟨rfl,Y⟩;have H3:=oH Y;clear Y))
  go_ret;exact⟨by rw[R.out];rfl,(HA.2.2.1.trans H2.out).trans H3.out⟩
 |true=>
  by_cases a7:r=(k:Int);·(
 have hx:(r !=(k:Int))=false:=by simpa using a7
 have e1:=oH (a6.2 ⟨rfl,a7⟩);clear a6 a7
 go_wp2_with (first
  |(go_at_call 84;refine HC.1.mono ?_;rintro e w2 ⟨rfl,I⟩;have H2:=oH I;clear I)
  |(go_at_call 104;refine(HC.2.1 _).mono ?_;rintro e w3 ⟨rfl,Y⟩;have H3:=oH Y;clear Y))
 go_roundg (p.Ng.length-(k+1))
 ·refine⟨k+1,by omega,rfl,by go_num,(HA.1.trans H2.out).trans H3.out,fun i t hi ht=>?_⟩
  by_cases e:i=k;·subst e;rw[HC.2.2] at ht;cases ht;exact e1.out
  exact HA.2.1 i t (by omega) ht
 omega)
  have hx:(r !=(k:Int))=true:=by simpa using a7
  have R:=oH (az (P:=dZ p) fun h=>by have:=a6.1 ((HP.2 h).1 k s HC.2.2);exact a7 this.2);clear a6 a7
  go_wp2_with (first
   |(go_at_call 84;refine HC.1.mono ?_;rintro e w2 ⟨rfl,I⟩;have H2:=oH I;clear I)
   |(go_at_call 104;refine(HC.2.1 _).mono ?_;rintro e w3 ⟨rfl,Y⟩;have H3:=oH Y;clear Y))
  go_ret;exact⟨by rw[R.out];rfl,(HA.2.2.1.trans H2.out).trans H3.out⟩)
 obtain rfl:k=p.Ng.length:=by omega
 have b2:∀(i:Nat) s,p.Ng[i]? =some s→Bv p i s:=fun i s hs=>HA.2.1 i s (lS.1 hs).1 hs;have e2:=oH (mU (P:=dZ p) (Q:=dG p p.Ni∧dG p p.Nh) ⟨fun h=>(HP.2 h).2,fun h=>HP.1 ⟨b2,h⟩⟩);have HX:=oH (Gx (P:=dG p p.Ni) (Q:=dG p p.Nh));have e3:=HV.2.2.1 wr HA.2.2.1;have e4:=HV.2.2.2.1;generalize pB (dG p p.Ni)=bi at*;generalize pB (dG p p.Nh)=bo at*;have HC:=J2 e3 e4;clear e3 e4 b2 hk d9;cases bi with
 |false=>go_wp2_with fail;refine HC.1.mono ?_;rintro e w2 ⟨rfl,I⟩;have H2:=oH I;clear I;go_wp2_with fail;go_ret;exact⟨by rw[e2.out,HX.out];rfl,HA.2.2.1.trans H2.out⟩
 |true=>go_wp2_with fail;refine HC.1.mono ?_;rintro e w2 ⟨rfl,I⟩;have e5:=HA.2.2.2.kept I trivial;obtain⟨j0,j1,j2,j3,j4⟩:=e5.c5;have H2:=oH (HA.2.2.1.trans I);clear I e5;go_wp2_with fail;refine(HC.2 w2 H2.out).mono ?_;rintro e w3 ⟨rfl,Y⟩;have H3:=oH (H2.out.trans Y);clear Y;go_wp2_with fail;go_ret;exact⟨by rw[e2.out,HX.out,Bool.true_and];rfl,H3.out⟩)
 have h0:=oH (az hL);have R:=oH (az (P:=dZ p) fun h=>hL h.2.1);have HE:=oH j;clear j hL;go_wp2_with (go_at_call 103;refine(b4.out _ HV.2.2.2.2.1).mono ?_;rw[h0.out];rintro e w1 ⟨rfl,J⟩;have H1:=oH J;clear J);go_ret;exact⟨by rw[R.out];rfl,HV.2.2.2.2.1.trans H1.out⟩)
 have e6:((p.up.length:Int) !=(p.Ng.length:Int))=true:=by simp;omega
 have R:=oH (az (P:=dZ p) fun h=>j h.1);clear j;go_wp2_with fail;go_ret;exact⟨by rw[R.out];rfl,HV.2.2.2.2.1⟩
end Go.Proofs.YtccbbkopmlnkpaaGreatDoor
