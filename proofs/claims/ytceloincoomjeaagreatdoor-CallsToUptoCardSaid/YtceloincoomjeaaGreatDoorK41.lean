/- Part 42 of the proof of CallsTo (its last part says what is proved). No condition. -/
import Derived.Test.YtceloincoomjeaaGreatDoorK24
import Derived.Test.YtceloincoomjeaaGreatDoorK40
namespace Go.Proofs.YtceloincoomjeaaGreatDoor
set_option maxRecDepth 100000
set_option maxHeartbeats 8000000
open Go.RowKit Go.Proofs.Tryz
def zE (p:aH)(a:Int×Int):Prop:=1≤a.1∧a.1≤256∧0≤a.2∧a.2<p.MZ.length
theorem yH {L:List (List bz)}{l:List bz}(h:l∈L):l.length≤L.flatten.length:=by rw[List.length_flatten];exact qz (dr.2 ⟨l,h,rfl⟩)
theorem zT {p:aH}{c:aE}{b:aw}(h:bJ p c)(j:b∈c.Nf):gX p c b:=by refine⟨h.2.2.2.2.2.2.2.1 b j,fun l o=>?_⟩;have C:=yH o;have I:b.Ng.flatten.length≤(c.Nf.map ft).sum:=qz (dr.2 ⟨b,j,rfl⟩);have J:=h.2.2.2.2.2.2.2.2;omega
theorem Hr {α:Type}(f:α→Nat)(l:List α)(j:Nat):((l.take j).map f).sum≤(l.map f).sum:=by
 conv=>rhs;rw[←List.take_append_drop j l]
 rw[ic,List.sum_append];omega
theorem Ba (S:Nat→Prop)(pv cv:Value)(p:aH)(c:aE)(w:World)(hp:dJ S w pv p)(hc:cQ S w cv c)(j9:xF p):
 Calls prog 26 #[pv,cv] w fun e w'=>e=.returned (.bool (pB (bJ p c)))∧aa All w w':=by
 have h3:=cB.la hp;have i1:=dc.la hc;obtain⟨o5,vu,vi,vo,rfl,k3,k4,k5,k6,k7⟩:=hp;obtain⟨a1,n1,rfl,l1,l2,_⟩:=k3;obtain⟨a2,n2,rfl,_⟩:=k4;obtain⟨a3,n3,rfl,_⟩:=k5;obtain⟨a4,n4,rfl,_⟩:=k6;obtain⟨ka,kf,rfl,i2,i4,k8⟩:=hc;have i5:=bu.la i2;have i6:=bV.la i4;obtain⟨A1,c1,rfl,m1,m2,m3,_⟩:=i2;obtain⟨A2,c2,rfl,m4,m5,m6,_⟩:=i4;unfold maxLen at*;obtain⟨W0,b3⟩:=eQ ((w.alloc (.cells #[.slice a1 p.MZ.length n1,.slice a2 p.up.length n2,.slice a3 p.Nb.length n3,.slice a4 p.Na.length n4,.int .i64 p.Nc] 26)).alloc (.cells #[.slice A1 c.Nd.length c1,.slice A2 c.Nf.length c2,.int .i64 c.main] 30));have h4:aa All w W0:=by rw[b3];exact(kR.alloc _).alloc _
 have bP:al W0 w.heap.size 26 #[.slice a1 p.MZ.length n1,.slice a2 p.up.length n2,.slice a3 p.Nb.length n3,.slice a4 p.Na.length n4,.int .i64 p.Nc]:=by rw[b3];exact(al.new _ _ _).alloc _
 have bK:al W0 (w.heap.size+1) 30 #[.slice A1 c.Nd.length c1,.slice A2 c.Nf.length c2,.int .i64 c.main]:=by rw[b3];exact ac (by simp)
 obtain⟨p0,p1,p2,p3,p4⟩:=bP.c5;obtain⟨k0,k1,k2⟩:=bK.c3;have HW:=J4 b3 h4 bP bK;have HP:=J4 h3 i1 i5 i6;have HR:=oH (ut S _ p W0 (h3 W0 h4) j9);clear b3 h4 bP bK h3 i1 i5 i6 k7;unfold aV at k8;go_enter func26,ntmps26;go_upto_region 1 with fail;rw[←HW.1];go_wp2_with fail;refine HR.out.mono ?_;rintro e w1 ⟨rfl,h5⟩;have J:=oH h5;have a6:=oH (HW.2.1.trans h5);clear h5 p0 p1 p2 p3 p4 k0 k1 k2;have b4:=HW.2.2.1.kept J.out trivial;have a7:=HW.2.2.2.kept J.out trivial;obtain⟨p0,p1,p2,p3,p4⟩:=b4.c5;obtain⟨k0,k1,k2⟩:=a7.c3;clear b4 a7;by_cases a8:dD p
 case neg=>(rw[au a8];have Y:=oH (show¬bJ p c from fun h=>a8 h.1);clear a8;go_wp2_with fail;go_ret;exact⟨by rw[au Y.out]<;>rfl,a6.out⟩)
 rw[av a8];have k9:=oH a8;clear a8;by_cases b9:c.Nd.length≤16;·(
 have l0:decide ((16:Int)<(c.Nd.length:Int))=false:=by simp;omega
 by_cases c0:c.Nf.length≤64;·(
 have l3:decide ((64:Int)<(c.Nf.length:Int))=false:=by simp;omega
 by_cases c3:0≤c.main;·(
 have i7:decide (c.main<0)=false:=by simp;omega
 by_cases c4:c.main<(c.Nf.length:Int);·(
 have j0:decide ((c.Nf.length:Int)≤c.main)=false:=by simp;omega
 obtain⟨m,hm⟩:∃m:Nat,c.main=m:=⟨c.main.toNat,by omega⟩;have l4:m<c.Nf.length:=by omega
 obtain⟨g,hg⟩:=eG l4;obtain⟨gb,go,o6,rfl,l5,j1,j2,gv,rfl,l6,l7,l8⟩:=aZ (HP.2.2.2 w1 a6.out) hg;have z0:=j2 0 _ rfl;rw[dj] at z0;have HG:=oH (show(c.Nf.getD c.main.toNat ⟨0,0,[]⟩).params=g.params by rw[hm,dP,iG,hg];rfl);have c5:=J4 b9 c0 c3 c4;rw[hm] at k2 i7 j0;have o7:decide (c.Nf.length≤m)=false:=by simp;omega
 clear hg j2 l6 l7 l8 j1 l5 b9 c0 c3 c4 hm;by_cases c6:g.params=0;·(
 have l9:(g.params !=0)=false:=by rw[gj];omega
 have m0:=oH c6;clear c6;go_wp2_with fail;go_loopg [5] c.Nd.length (fun g s wr=>∃j:Nat,j≤c.Nd.length∧g=c.Nd.length-j∧s=.int .i64 j∧aa All w1 wr∧∀(i:Nat) a,i<j→c.Nd[i]? =some a→zE p a);·exact⟨0,by omega,by omega,rfl,kR,fun i l hi=>by omega⟩
 obtain⟨j,hj,rfl,rfl,o,C⟩:=hrel;have R:=a6.out.trans o;clear p0 p1 p2 p3 p4 k0 k1 k2;have a7:=(HW.2.2.2.kept J.out trivial).kept o trivial;obtain⟨k0,k1,k2⟩:=a7.c3;clear a7;by_cases h6:j<c.Nd.length;·(
 obtain⟨a,ha⟩:=eG h6;obtain⟨ab,ao,o8,rfl,o9,o1,h7,rfl,m7,m8⟩:=aZ (HP.2.2.1 wr R) ha;have z1:=h7 0 _ rfl;rw[dj] at z1;have z2:=h7 1 _ rfl;obtain⟨W5,c7⟩:=eQ (wr.alloc (.cells #[.int .i64 a.1,.int .i64 a.2] 79));have h8:aa All wr W5:=by rw[c7];exact kR.alloc _
 have b5:al W5 wr.heap.size 79 #[.int .i64 a.1,.int .i64 a.2]:=by rw[c7];exact ac rfl
 obtain⟨y0,y1⟩:=b5.c2;have b4:=((HW.2.2.1.kept J.out trivial).kept o trivial).kept h8 trivial;have p0:=b4.cell 0;simp only[gc] at p0;have HA:=J6 o C ha c7 h8 R;clear o C ha c7 h8 R b5 b4 h7 m7 m8;go_upto_region 7 with fail;rw[←HA.2.2.2.1];by_cases c8:1≤a.1;·(
 have m9:decide (a.1<1)=false:=by simp;omega
 by_cases c9:a.1≤256;·(
 have n0:decide (256<a.1)=false:=by simp;omega
 by_cases d7:0≤a.2;·(
 have n5:decide (a.2<0)=false:=by simp;omega
 by_cases d8:a.2<(p.MZ.length:Int);·(
 have n6:decide ((p.MZ.length:Int)≤a.2)=false:=by simp;omega
 have HY:=oH (show zE p a from⟨c8,c9,d7,d8⟩);clear c8 c9 d7 d8;go_wp2_with fail;go_roundg (c.Nd.length-(j+1))
 ·refine⟨j+1,by omega,rfl,by go_num,HA.1.trans HA.2.2.2.2.1,fun i z hi hz=>?_⟩
  by_cases e:i=j;·subst e;rw[HA.2.2.1] at hz;cases hz;exact HY.out
  exact HA.2.1 i z (by omega) hz
 omega)
 have n6:decide ((p.MZ.length:Int)≤a.2)=true:=by simp;omega
 have Y:=oH (show¬bJ p c from fun h=>by have h:=h.2.2.2.2.2.2.1 a (mG HA.2.2.1);exact d8 h.2.2.2);clear d8;go_wp2_with fail;go_ret;exact⟨by rw[au Y.out]<;>rfl,HA.2.2.2.2.2.trans HA.2.2.2.2.1⟩)
 have n5:decide (a.2<0)=true:=by simp;omega
 have Y:=oH (show¬bJ p c from fun h=>by have h:=h.2.2.2.2.2.2.1 a (mG HA.2.2.1);exact d7 h.2.2.1);clear d7;go_wp2_with fail;go_ret;exact⟨by rw[au Y.out]<;>rfl,HA.2.2.2.2.2.trans HA.2.2.2.2.1⟩)
 have n0:decide (256<a.1)=true:=by simp;omega
 have Y:=oH (show¬bJ p c from fun h=>by have h:=h.2.2.2.2.2.2.1 a (mG HA.2.2.1);exact c9 h.2.1);clear c9;go_wp2_with fail;go_ret;exact⟨by rw[au Y.out]<;>rfl,HA.2.2.2.2.2.trans HA.2.2.2.2.1⟩)
 have m9:decide (a.1<1)=true:=by simp;omega
 have Y:=oH (show¬bJ p c from fun h=>by have h:=h.2.2.2.2.2.2.1 a (mG HA.2.2.1);exact c8 h.1);clear c8;go_wp2_with fail;go_ret;exact⟨by rw[au Y.out]<;>rfl,HA.2.2.2.2.2.trans HA.2.2.2.2.1⟩)
 obtain rfl:j=c.Nd.length:=by omega
 have n7:=oH (show∀a∈c.Nd,zE p a from fun a ha=>by obtain⟨i,hi⟩:=cY.1 ha;exact C i a (lS.1 hi).1 hi);obtain⟨wa,rfl⟩:=eQ wr;have Z:=J2 o R;clear o R C;go_wp2_with fail;go_loopg [7,8] c.Nf.length (fun g s7 s8 wr=>∃j:Nat,j≤c.Nf.length∧g=c.Nf.length-j∧s8=.int .i64 j∧s7=.int .i64 (((c.Nf.take j).map ft).sum:Nat)∧aa All wa wr∧((c.Nf.take j).map ft).sum≤4096∧∀(i:Nat) b,i<j→c.Nf[i]? =some b→gX p c b);·exact⟨0,by omega,by omega,rfl,by rw[List.take_zero];rfl,kR,by simp,fun i l hi=>by omega⟩
 obtain⟨j,hj,rfl,rfl,rfl,o,h0,C⟩:=hrel;have R:=Z.2.trans o;clear k0 k1 k2;have a7:=((HW.2.2.2.kept J.out trivial).kept Z.1 trivial).kept o trivial;obtain⟨k0,k1,k2⟩:=a7.c3;clear a7;obtain⟨sm,b0⟩:=eR (((c.Nf.take j).map ft).sum);rw[b0] at h0⊢;by_cases h6:j<c.Nf.length;·(
 obtain⟨b,hb⟩:=eG h6;obtain⟨p5,p6,o2,ge,p7,o3,d9,bv,rfl,j3,j4,j5⟩:=aZ (HP.2.2.2 wr R) hb;injection ge with ge;injection ge with n8 n9;subst n8 n9;have j6:=bg.la j3;obtain⟨vA,vc,rfl,_⟩:=j3;have HF:=oH (show∀wn,aa All wr wn→wn.cell? ⟨w.heap.size,0,none⟩=some (.slice a1 p.MZ.length n1)∧wn.cell? ⟨w.heap.size,1,none⟩=some (.slice a2 p.up.length n2)∧wn.cell? ⟨w.heap.size,2,none⟩=some (.slice a3 p.Nb.length n3)∧wn.cell? ⟨w.heap.size,3,none⟩=some (.slice a4 p.Na.length n4)∧wn.cell? ⟨w.heap.size,4,none⟩=some (.int .i64 p.Nc)∧wn.cell? ⟨w.heap.size+1,0,none⟩=some (.slice A1 c.Nd.length c1)∧wn.cell? ⟨w.heap.size+1,1,none⟩=some (.slice (some ⟨gb,go,none⟩) c.Nf.length c2)∧wn.cell? ⟨w.heap.size+1,2,none⟩=some (.int .i64 c.main)∧wn.cell? ⟨gb,go+j*3,none⟩=some (.int .i64 b.params)∧wn.cell? ⟨gb,go+j*3+1,none⟩=some (.int .i64 b.vars)∧wn.cell? ⟨gb,go+j*3+2,none⟩=some (.slice vA b.Ng.length vc) from fun wn I=>
  ⟨((HW.2.2.1.kept J.out trivial).kept ((Z.1.trans o).trans I) trivial).cell 0,((HW.2.2.1.kept J.out trivial).kept ((Z.1.trans o).trans I) trivial).cell 1,((HW.2.2.1.kept J.out trivial).kept ((Z.1.trans o).trans I) trivial).cell 2,((HW.2.2.1.kept J.out trivial).kept ((Z.1.trans o).trans I) trivial).cell 3,((HW.2.2.1.kept J.out trivial).kept ((Z.1.trans o).trans I) trivial).cell 4,((HW.2.2.2.kept J.out trivial).kept ((Z.1.trans o).trans I) trivial).cell 0,((HW.2.2.2.kept J.out trivial).kept ((Z.1.trans o).trans I) trivial).cell 1,((HW.2.2.2.kept J.out trivial).kept ((Z.1.trans o).trans I) trivial).cell 2,I.cell (p:=⟨gb,go+j*3,none⟩) trivial (by have:=d9 0 _ rfl;rw[dj] at this;exact this),I.cell (p:=⟨gb,go+j*3+1,none⟩) trivial (by have:=d9 1 _ rfl;exact this),I.cell (p:=⟨gb,go+j*3+2,none⟩) trivial (by have:=d9 2 _ rfl;exact this)⟩)
 have HC:=oH (fun wn (I:aa All wr wn)=>DN S _ _ _ p c b wn (HP.1 wn (R.trans I)) (HP.2.1 wn (R.trans I)) (j6 wn I) j4 j5);have HB:=J5 o R C hb b0;clear o R C hb d9 j6 j4 j5 b0;go_wp2_with fail;by_cases b6:gX p c b;·(
 have b1:=oH b6;clear b6;obtain⟨bl,h9⟩:=eR (ft b);have j7:=oH (fun wn (I:aa All wr wn)=>(HC.out wn I).mono (R':=fun e wq=>e=.returned (.tuple #[.int .i64 bl,.bool true])∧aa All wn wq∧bl≤1000000) (by rintro e wq ⟨n,ok,rfl,hb,hn,b2,b7⟩;rw[av b1.out] at hb;subst hb;have hn:=hn b1.out;exact⟨by rw[hn,h9],b7,by omega⟩));have o4:bl≤1000000:=by obtain⟨e,wq,_,h,_⟩:=(j7.out wr kR) [];exact h.2.2
 have j8:=oH h9;clear h9;refine R0 13 wr (fun i=>if i=7 then some (·=.tuple #[.int .i64 bl,.bool true]) else none) ?_;iterate 2 refine O4 HF.out ?_
 refine O0 ?_;refine O4 HF.out ?_;iterate 2 refine O0 ?_
 refine O4 HF.out ?_;refine O5 (v:=.tuple #[.int .i64 bl,.bool true]) (fun wn I hp=>⟨_,_,by(skip;go_simp<;>with_reducible rfl),(((fun wn I=>(j7.out wn I).mono (R':=fun e wq=>e=.returned (.tuple #[.int .i64 bl,.bool true])∧aa All wn wq) fun e w' h=>⟨h.1,h.2.1⟩) wn I).mono fun e w' h=>⟨h.1,I.trans h.2,fun _ h=>by cases h⟩)⟩) ?_;iterate 5 refine O0 ?_
 refine aG fun wt b8 hF=>?_;have HT:=oH b8;clear b8 hF;simp only[dK];by_cases hs:sm+bl≤4096;·(
 have ts:decide ((4096:Int)<(sm:Int)+(bl:Int))=false:=by simp;omega
 have i0:((c.Nf.take (j+1)).map ft).sum=sm+bl:=by rw[cU,HB.2.2.2.1,ic,List.sum_append,HB.2.2.2.2,←j8.out];simp
 have HS:=J2 hs i0;clear hs i0;go_wp2_with fail;go_roundg (c.Nf.length-(j+1))
 ·refine⟨j+1,by omega,rfl,by go_num,by rw[HS.2];go_num,HB.1.trans HT.out,by rw[HS.2];exact HS.1,fun i z hi hz=>?_⟩
  by_cases e:i=j;·subst e;rw[HB.2.2.2.1] at hz;cases hz;exact b1.out
  exact HB.2.2.1 i z (by omega) hz
 omega)
 have ts:decide ((4096:Int)<(sm:Int)+(bl:Int))=true:=by simp;omega
 have Y:=oH (show¬bJ p c from fun h=>by
  have h1:=h.2.2.2.2.2.2.2.2;have h2:=Hr ft c.Nf (j+1);have i0:((c.Nf.take (j+1)).map ft).sum=sm+bl:=by rw[cU,HB.2.2.2.1,ic,List.sum_append,HB.2.2.2.2,←j8.out];simp
  omega)
 clear hs;go_wp2_with fail;go_ret;exact⟨by rw[au Y.out]<;>rfl,HB.2.1.trans HT.out⟩)
 have b1:=oH b6;have Y:=oH (show¬bJ p c from fun h=>b6 (zT h (mG HB.2.2.2.1)));clear b6;refine R0 13 wr (fun i=>if i=7 then some (fun v=>∃n:Int,0≤n∧n≤1000000∧v=.tuple #[.int .i64 n,.bool false]) else none) ?_;iterate 2 refine O4 HF.out ?_
 refine O0 ?_;refine O4 HF.out ?_;iterate 2 refine O0 ?_
 refine O4 HF.out ?_;refine O6 (fun wn I hp=>?_) (fun wn I hp=>?_) ?_;·obtain⟨e0,e1,e2,e3,e4,e5,e6,e7,e8,e9,p8⟩:=HF.out wn I;go_simp;refine(HC.out wn I).mono ?_;rintro e wq ⟨n,ok,rfl,hb,hn,b2,b7⟩;rw[au b1.out] at hb;subst hb;exact .inl ⟨rfl,_,rfl,⟨n,b2.1,b2.2,rfl⟩,I.trans b7,fun _ h=>(by cases h),fun d hd hT=>(by cases hT)⟩
 ·obtain⟨e,wq,_,⟨n,ok,rfl,hb,hn,b2,b7⟩,_⟩:=(HC.out wn I) []
  rw[au b1.out] at hb;subst hb;exact⟨_,wq,⟨n,b2.1,b2.2,rfl⟩,I.trans b7,fun _ h=>(by cases h),fun d hd hT=>(by cases hT)⟩
 rintro v ⟨n,p9,q0,rfl⟩;simp only[PS];iterate 5 refine O0 ?_
 refine aG fun wt b8 hF=>?_;have HT:=oH b8;clear b8 hF;simp only[dK];go_wp2_with fail;go_ret;exact⟨by rw[au Y.out]<;>rfl,HB.2.1.trans HT.out⟩)
 obtain rfl:j=c.Nf.length:=by omega
 rw[dZ] at b0;have HY:=oH (show bJ p c from⟨k9.out,c5.1,c5.2.1,c5.2.2.1,c5.2.2.2,by rw[HG.out];exact m0.out,n7.out,fun b hb=>by obtain⟨i,hi⟩:=cY.1 hb;exact(C i b (lS.1 hi).1 hi).1,by rw[b0];exact h0⟩);have o0:=oH R;clear o R C b0;go_wp2_with fail;go_ret;exact⟨by rw[av HY.out]<;>rfl,o0.out⟩)
 have l9:(g.params !=0)=true:=by rw[bne_iff_ne];omega
 have Y:=oH (show¬bJ p c from fun h=>by have:=h.2.2.2.2.2.1;rw[HG.out] at this;exact c6 this);clear c6;go_wp2_with fail;go_ret;exact⟨by rw[au Y.out]<;>rfl,a6.out⟩)
 have j0:decide ((c.Nf.length:Int)≤c.main)=true:=by simp;omega
 have Y:=oH (show¬bJ p c from fun h=>by exact c4 h.2.2.2.2.1);clear c4;go_wp2_with fail;go_ret;exact⟨by rw[au Y.out]<;>rfl,a6.out⟩)
 have i7:decide (c.main<0)=true:=by simp;omega
 have Y:=oH (show¬bJ p c from fun h=>by exact c3 h.2.2.2.1);clear c3;go_wp2_with fail;go_ret;exact⟨by rw[au Y.out]<;>rfl,a6.out⟩)
 have l3:decide ((64:Int)<(c.Nf.length:Int))=true:=by simp;omega
 have Y:=oH (show¬bJ p c from fun h=>by exact c0 h.2.2.1);clear c0;go_wp2_with fail;go_ret;exact⟨by rw[au Y.out]<;>rfl,a6.out⟩)
 have l0:decide ((16:Int)<(c.Nd.length:Int))=true:=by simp;omega
 have Y:=oH (show¬bJ p c from fun h=>by exact b9 h.2.1);clear b9;go_wp2_with fail;go_ret;exact⟨by rw[au Y.out]<;>rfl,a6.out⟩
section
open Classical in
noncomputable def oK (p:aH)(c:aE):Int×Int×Int:=if bJ p c then ov c.Nf 0 else(0,0,1)
theorem wy {p:aH}{c:aE}(h:¬bJ p c):oK p c=(0,0,1):=by unfold oK;rw[ae h]
theorem nc {p:aH}{c:aE}(h:bJ p c):oK p c=ov c.Nf 0:=by unfold oK;rw[ap h]
theorem zS {l:List aw}{i:Nat}:(ov l i).2.2=0↔∀b∈l,(oh b).2=0:=by
 constructor;·(
 intro h;induction l generalizing i with
 |nil=>intro b j;cases j
 |cons a l C=>
  intro b j;rw[ov] at h;by_cases o:(oh a).2≠0;·rw[ap o] at h;exact absurd h o
  rw[ae o] at h;rcases fX.1 j with rfl|j;·exact Decidable.not_not.1 o
  exact C h b j)
 intro h;rw[mc h]
theorem uN {p:aH}{c:aE}:(oK p c).2.2=0↔bJ p c∧jH c:=by
 by_cases h:bJ p c;·rw[nc h,zS];exact⟨fun h'=>⟨h,h'⟩,fun h'=>h'.2⟩
 rw[wy h];exact⟨fun h'=>absurd h' (by decide),fun h'=>absurd h'.1 h⟩
def nH (p:aH)(c:aE)(w:World)(e:Ending)(w':World):Prop:=e=.returned (.tuple #[.int .i64 (oK p c).1,.int .i64 (oK p c).2.1,.int .i64 (oK p c).2.2])∧aa All w w'
theorem nH.of {p:aH}{c:aE}{w j:World}{x y z:Int}(h:oK p c=(x,y,z))(l:aa All w j):nH p c w (.returned (.tuple #[.int .i64 x,.int .i64 y,.int .i64 z])) j:=⟨by rw[h],l⟩
theorem AS (S:Nat→Prop)(pv cv:Value)(p:aH)(c:aE)(w:World)(hp:dJ S w pv p)(hc:cQ S w cv c)(c5:xF p):
 Calls prog 16 #[pv,cv] w (nH p c w):=by
 have b3:=cB.la hp;have b4:=dc.la hc;obtain⟨e3,vu,vi,vo,rfl,c6,c7,c8,c9,d7⟩:=hp;obtain⟨a1,n1,rfl,l1,l2,_⟩:=c6;obtain⟨a2,n2,rfl,_⟩:=c7;obtain⟨a3,n3,rfl,_⟩:=c8;obtain⟨a4,n4,rfl,_⟩:=c9;obtain⟨ka,kf,rfl,d8,b5,d9⟩:=hc;have b6:=bV.la b5;obtain⟨A1,c1,rfl,m1,m2,m3,_⟩:=d8;obtain⟨A2,c2,rfl,m4,m5,m6,_⟩:=b5;unfold maxLen at*;obtain⟨W0,I⟩:=eQ ((w.alloc (.cells #[.slice a1 p.MZ.length n1,.slice a2 p.up.length n2,.slice a3 p.Nb.length n3,.slice a4 p.Na.length n4,.int .i64 p.Nc] 26)).alloc (.cells #[.slice A1 c.Nd.length c1,.slice A2 c.Nf.length c2,.int .i64 c.main] 30));have a6:aa All w W0:=by rw[I];exact(kR.alloc _).alloc _
 have bP:al W0 w.heap.size 26 #[.slice a1 p.MZ.length n1,.slice a2 p.up.length n2,.slice a3 p.Nb.length n3,.slice a4 p.Na.length n4,.int .i64 p.Nc]:=by rw[I];exact(al.new _ _ _).alloc _
 have bK:al W0 (w.heap.size+1) 30 #[.slice A1 c.Nd.length c1,.slice A2 c.Nf.length c2,.int .i64 c.main]:=by rw[I];exact ac (by simp)
 obtain⟨p0,p1,p2,p3,p4⟩:=bP.c5;obtain⟨k0,k1,k2⟩:=bK.c3;have HW:=J5 I a6 bP bK b6;have HR:=oH (Ba S _ _ p c W0 (b3 W0 a6) (b4 W0 a6) c5);clear I a6 bP bK b3 b4 b6 d7 d9;go_enter func16,ntmps16;go_upto_region 1 with fail;rw[←HW.1];go_wp2_with fail;refine HR.out.mono ?_;rintro e w1 ⟨rfl,b0⟩;have b7:=oH b0;have b8:=oH (HW.2.1.trans b0);clear b0 p0 p1 p2 p3 p4 k0 k1 k2;have J:=HW.2.2.2.1.kept b7.out trivial;obtain⟨k0,k1,k2⟩:=J.c3;clear J;by_cases l:bJ p c
 case neg=>(rw[au l];have HN:=oH (wy l);clear l;go_wp2_with fail;exact bodyPost_ret (v:=.tuple #[.int .i64 0,.int .i64 0,.int .i64 1]) (by simp[results,Tryz.f16,go_sem]) rfl (.of HN.out b8.out))
 rw[av l];have e4:=l.2.2.1;have b1:=oH l;clear l;go_wp2_with fail;go_loopg [7] c.Nf.length (fun g s wr=>∃j:Nat,j≤c.Nf.length∧g=c.Nf.length-j∧s=.int .i64 j∧aa All w1 wr∧∀i:Nat,i<j→∀b,c.Nf[i]? =some b→(oh b).2=0);·exact⟨0,by omega,by omega,rfl,kR,fun i hi=>by omega⟩
 obtain⟨j,hj,rfl,rfl,R,C⟩:=hrel;have Y:=b8.out.trans R;clear k0 k1 k2;have J:=(HW.2.2.2.1.kept b7.out trivial).kept R trivial;obtain⟨k0,k1,k2⟩:=J.c3;clear J;by_cases e0:j<c.Nf.length;·(
 obtain⟨b,hb⟩:=eG e0;obtain⟨gb,go,e5,rfl,e1,b9,a7,bv,rfl,c0,e2,o⟩:=aZ (HW.2.2.2.2 wr Y) hb;have a8:=DS S _ b wr c0 (Kj (b1.2.2.2.2.2.2.2.1 b (mG hb)));obtain⟨vA,vc,rfl,_⟩:=c0;have z0:=a7 0 _ rfl;rw[dj] at z0;have z1:=a7 1 _ rfl;have z2:=a7 2 _ rfl;obtain⟨fx,fy,hf⟩:∃fx fy,oh b=(fx,fy):=⟨_,_,rfl⟩;unfold qk at a8;rw[hf] at a8;have Z:=J6 a8 R Y C hb hf;clear a8 R Y C hb hf a7 e2 o e1 b9;go_wp2_with fail;refine Z.1.mono ?_;rintro e w2 ⟨rfl,c3⟩;have c4:=oH c3;clear c3;by_cases hz:fy=0;·(
 have tz:(fy !=0)=false:=by rw[gj];exact hz
 have HZ:=oH (show(oh b).2=0 by rw[Z.2.2.2.2.2];exact hz);clear hz;go_wp2_with fail;go_roundg (c.Nf.length-(j+1))
 ·refine⟨j+1,by omega,rfl,by go_num,Z.2.1.trans c4.out,fun i hi b2 o=>?_⟩
  by_cases e:i=j;·subst e;rw[Z.2.2.2.2.1] at o;cases o;exact HZ.out
  exact Z.2.2.2.1 i (by omega) b2 o
 omega)
 have tz:(fy !=0)=true:=by rw[bne_iff_ne];exact hz
 have HZ:=oH (show oK p c=((j:Int),fx,fy) by rw[nc b1.out,su Z.2.2.2.2.1 (fun i hi b2 o=>Z.2.2.2.1 i hi b2 o) (by rw[Z.2.2.2.2.2];exact hz),Z.2.2.2.2.2,cN]);clear hz;go_wp2_with fail;exact bodyPost_ret (v:=.tuple #[.int .i64 j,.int .i64 fx,.int .i64 fy]) (by simp[results,Tryz.f16,go_sem]) rfl (.of HZ.out (Z.2.2.1.trans c4.out)))
 obtain rfl:j=c.Nf.length:=by omega
 have HZ:=oH (show oK p c=(0,0,0) by rw[nc b1.out];exact mc fun b hb=>by obtain⟨i,hi⟩:=cY.1 hb;exact C i (lS.1 hi).1 b hi);have HK:=oH Y;clear R Y C;go_wp2_with fail;exact bodyPost_ret (v:=.tuple #[.int .i64 0,.int .i64 0,.int .i64 0]) (by simp[results,Tryz.f16,go_sem]) rfl (.of HZ.out HK.out)
theorem uw (S:Nat→Prop)(pv cv:Value)(p:aH)(c:aE)(w:World)(hp:dJ S w pv p)(hc:cQ S w cv c)(a6:xF p):
 Calls prog 9 #[pv,cv] w fun e w'=>e=.returned (.bool (pB (bJ p c∧jH c)))∧aa All w w':=by
 have I:=cB.la hp;have J:=dc.la hc;obtain⟨b6,vu,vi,vo,rfl,a7,a8,b0,b1,b2⟩:=hp;obtain⟨a1,n1,rfl,l1,l2,_⟩:=a7;obtain⟨a2,n2,rfl,_⟩:=a8;obtain⟨a3,n3,rfl,_⟩:=b0;obtain⟨a4,n4,rfl,_⟩:=b1;obtain⟨ka,kf,rfl,b3,R,b4⟩:=hc;have Y:=bV.la R;obtain⟨A1,c1,rfl,m1,m2,m3,_⟩:=b3;obtain⟨A2,c2,rfl,m4,m5,m6,_⟩:=R;unfold maxLen at*;obtain⟨C,j⟩:=eQ ((w.alloc (.cells #[.slice a1 p.MZ.length n1,.slice a2 p.up.length n2,.slice a3 p.Nb.length n3,.slice a4 p.Na.length n4,.int .i64 p.Nc] 26)).alloc (.cells #[.slice A1 c.Nd.length c1,.slice A2 c.Nf.length c2,.int .i64 c.main] 30));have l:aa All w C:=by rw[j];exact(kR.alloc _).alloc _
 have bP:al C w.heap.size 26 #[.slice a1 p.MZ.length n1,.slice a2 p.up.length n2,.slice a3 p.Nb.length n3,.slice a4 p.Na.length n4,.int .i64 p.Nc]:=by rw[j];exact(al.new _ _ _).alloc _
 have bK:al C (w.heap.size+1) 30 #[.slice A1 c.Nd.length c1,.slice A2 c.Nf.length c2,.int .i64 c.main]:=by rw[j];exact ac (by simp)
 obtain⟨p0,p1,p2,p3,p4⟩:=bP.c5;obtain⟨k0,k1,k2⟩:=bK.c3;have HW:=J5 j l bP bK Y;have HR:=oH (AS S _ _ p c C (I C l) (J C l) a6);clear j l bP bK I J Y b2 b4;have hz:=uN (p:=p) (c:=c);unfold nH at HR;obtain⟨x,y,z,hx⟩:∃x y z,oK p c=(x,y,z):=⟨_,_,_,rfl⟩;rw[hx] at HR hz;have o:(z==0)=pB (bJ p c∧jH c):=by
  by_cases h:z=0;·rw[av (hz.1 h)];simpa using h
  rw[au fun h'=>h (hz.2 h')];simpa using h
 obtain⟨q,hq⟩:=eR ((z==0));rw[hq] at o;have HZ:=oH o;clear hz o hx;go_enter func9,ntmps9;go_upto_region 1 with fail;rw[←HW.1];go_wp2_with fail;refine HR.out.mono ?_;rintro e w1 ⟨rfl,Z⟩;have b5:=oH (HW.2.1.trans Z);clear Z;go_wp2_with fail;go_ret;exact⟨by rw[←HZ.out]<;>rfl,b5.out⟩
end
theorem Bg (S:Nat→Prop)(pv cv:Value)(p:aH)(c:aE)(w:World)(hp:dJ S w pv p)(hc:cQ S w cv c)(hl:gz w)(hS:∀b,S b→b<w.heap.size)(b7:kj p)(b8:lY c)(hN:eM p c↔bJ p c):
 Calls prog 20 #[pv,cv] w (nH p c w):=by
 have b9:=cB.la hp;have c0:=dc.la hc;obtain⟨h0,vu,vi,vo,rfl,d9,e0,e1,e2,e3⟩:=hp;obtain⟨a1,n1,rfl,l1,l2,_⟩:=d9;obtain⟨a2,n2,rfl,_⟩:=e0;obtain⟨a3,n3,rfl,_⟩:=e1;obtain⟨a4,n4,rfl,_⟩:=e2;obtain⟨ka,kf,rfl,e4,c3,e5⟩:=hc;have c4:=bV.la c3;obtain⟨A1,c1,rfl,m1,m2,m3,_⟩:=e4;obtain⟨A2,c2,rfl,m4,m5,m6,_⟩:=c3;unfold maxLen at*;obtain⟨W0,J⟩:=eQ ((w.alloc (.cells #[.slice a1 p.MZ.length n1,.slice a2 p.up.length n2,.slice a3 p.Nb.length n3,.slice a4 p.Na.length n4,.int .i64 p.Nc] 26)).alloc (.cells #[.slice A1 c.Nd.length c1,.slice A2 c.Nf.length c2,.int .i64 c.main] 30));have I:aa All w W0:=by rw[J];exact(kR.alloc _).alloc _
 have bP:al W0 w.heap.size 26 #[.slice a1 p.MZ.length n1,.slice a2 p.up.length n2,.slice a3 p.Nb.length n3,.slice a4 p.Na.length n4,.int .i64 p.Nc]:=by rw[J];exact(al.new _ _ _).alloc _
 have bK:al W0 (w.heap.size+1) 30 #[.slice A1 c.Nd.length c1,.slice A2 c.Nf.length c2,.int .i64 c.main]:=by rw[J];exact ac (by simp)
 obtain⟨p0,p1,p2,p3,p4⟩:=bP.c5;obtain⟨k0,k1,k2⟩:=bK.c3;have HW:=J5 J I bP bK c4;have b4:=AI S _ _ p c W0 (b9 W0 I) (c0 W0 I) (hl.keep I) (fun b hb=>by have:=hS b hb;have:=I.size;omega) b7 b8;rw[kC hN] at b4;have HR:=oH b4;clear b4 hN hl hS b7 b8;clear J I bP bK b9 c0 c4 e3 e5;go_enter func20,ntmps20;go_upto_region 1 with fail;rw[←HW.1];go_wp2_with fail;refine HR.out.mono ?_;rintro e w1 ⟨rfl,b6⟩;have c5:=oH b6;have c6:=oH (HW.2.1.trans b6);clear b6 p0 p1 p2 p3 p4 k0 k1 k2;have R:=HW.2.2.2.1.kept c5.out trivial;obtain⟨k0,k1,k2⟩:=R.c3;clear R;by_cases l:bJ p c
 case neg=>(rw[au l];have HN:=oH (wy l);clear l;go_wp2_with fail;exact bodyPost_ret (v:=.tuple #[.int .i64 0,.int .i64 0,.int .i64 1]) (by simp[results,Tryz.f20,go_sem]) rfl (.of HN.out c6.out))
 rw[av l];have h1:=l.2.2.1;have a6:=oH l;clear l;go_wp2_with fail;go_loopg [18] c.Nf.length (fun g s wr=>∃j:Nat,j≤c.Nf.length∧g=c.Nf.length-j∧s=.int .i64 j∧aa All w1 wr∧∀i:Nat,i<j→∀b,c.Nf[i]? =some b→(oh b).2=0);·exact⟨0,by omega,by omega,rfl,kR,fun i hi=>by omega⟩
 obtain⟨j,hj,rfl,rfl,Y,C⟩:=hrel;have Z:=c6.out.trans Y;clear k0 k1 k2;have R:=(HW.2.2.2.1.kept c5.out trivial).kept Y trivial;obtain⟨k0,k1,k2⟩:=R.c3;clear R;by_cases e6:j<c.Nf.length;·(
 obtain⟨b,hb⟩:=eG e6;obtain⟨gb,go,h2,rfl,e7,c7,a7,bv,rfl,c8,e8,o⟩:=aZ (HW.2.2.2.2 wr Z) hb;have b3:=bg.la c8;obtain⟨vA,vc,rfl,_⟩:=c8;obtain⟨W5,a8⟩:=eQ (wr.alloc (.cells #[.int .i64 b.params,.int .i64 b.vars,.slice vA b.Ng.length vc] 48));have b0:aa All wr W5:=by rw[a8];exact kR.alloc _
 have b5:al W5 wr.heap.size 48 #[.int .i64 b.params,.int .i64 b.vars,.slice vA b.Ng.length vc]:=by rw[a8];exact ac rfl
 obtain⟨y0,y1,y2⟩:=b5.c3;have c9:b.Ng.flatten.length≤4096:=fR (qz (dr.2 ⟨b,mG hb,rfl⟩)) a6.2.2.2.2.2.2.2.2;have b1:=Ef S _ b W5 (b3 W5 b0) (Kj (a6.2.2.2.2.2.2.2.1 b (mG hb))) c9;have z0:=a7 0 _ rfl;rw[dj] at z0;have z1:=a7 1 _ rfl;have z2:=a7 2 _ rfl;obtain⟨fx,fy,hf⟩:∃fx fy,oh b=(fx,fy):=⟨_,_,rfl⟩;unfold qk at b1;rw[hf] at b1;have HC:=J6 b1 (Y.trans b0) (Z.trans b0) C hb hf;have e9:=oH a8;clear b1 Y Z C hb hf a7 e8 o e7 c7 a8 b0 b5 b3 c9;go_upto_region 6 with fail;rw[←e9.out];clear z0 z1 z2 k0 k1 k2;go_wp2_with fail;refine HC.1.mono ?_;rintro e w2 ⟨rfl,d7⟩;have d8:=oH d7;clear d7;by_cases hz:fy=0;·(
 have tz:(fy !=0)=false:=by rw[gj];exact hz
 have HZ:=oH (show(oh b).2=0 by rw[HC.2.2.2.2.2];exact hz);clear hz;go_wp2_with fail;go_roundg (c.Nf.length-(j+1))
 ·refine⟨j+1,by omega,rfl,by go_num,HC.2.1.trans d8.out,fun i hi b2 o=>?_⟩
  by_cases e:i=j;·subst e;rw[HC.2.2.2.2.1] at o;cases o;exact HZ.out
  exact HC.2.2.2.1 i (by omega) b2 o
 omega)
 have tz:(fy !=0)=true:=by rw[bne_iff_ne];exact hz
 have HZ:=oH (show oK p c=((j:Int),fx,fy) by rw[nc a6.out,su HC.2.2.2.2.1 (fun i hi b2 o=>HC.2.2.2.1 i hi b2 o) (by rw[HC.2.2.2.2.2];exact hz),HC.2.2.2.2.2,cN]);clear hz;go_wp2_with fail;exact bodyPost_ret (v:=.tuple #[.int .i64 j,.int .i64 fx,.int .i64 fy]) (by simp[results,Tryz.f20,go_sem]) rfl (.of HZ.out (HC.2.2.1.trans d8.out)))
 obtain rfl:j=c.Nf.length:=by omega
 have HZ:=oH (show oK p c=(0,0,0) by rw[nc a6.out];exact mc fun b hb=>by obtain⟨i,hi⟩:=cY.1 hb;exact C i (lS.1 hi).1 b hi);have HK:=oH Z;clear Y Z C;go_wp2_with fail;exact bodyPost_ret (v:=.tuple #[.int .i64 0,.int .i64 0,.int .i64 0]) (by simp[results,Tryz.f20,go_sem]) rfl (.of HZ.out HK.out)
theorem Bq (S:Nat→Prop)(pv cv:Value)(p:aH)(c:aE)(w:World)(hp:dJ S w pv p)(hc:cQ S w cv c)(hl:gz w)(hS:∀b,S b→b<w.heap.size)(I:kj p)(J:lY c)(hN:eM p c↔bJ p c):
 Calls prog 14 #[pv,cv] w fun e w'=>e=.returned (.bool (pB (bJ p c∧jH c)))∧aa All w w':=by
 have R:=cB.la hp;have Y:=dc.la hc;obtain⟨b7,vu,vi,vo,rfl,a8,b0,b1,b2,b3⟩:=hp;obtain⟨a1,n1,rfl,l1,l2,_⟩:=a8;obtain⟨a2,n2,rfl,_⟩:=b0;obtain⟨a3,n3,rfl,_⟩:=b1;obtain⟨a4,n4,rfl,_⟩:=b2;obtain⟨ka,kf,rfl,b4,Z,b5⟩:=hc;have a6:=bV.la Z;obtain⟨A1,c1,rfl,m1,m2,m3,_⟩:=b4;obtain⟨A2,c2,rfl,m4,m5,m6,_⟩:=Z;unfold maxLen at*;obtain⟨C,l⟩:=eQ ((w.alloc (.cells #[.slice a1 p.MZ.length n1,.slice a2 p.up.length n2,.slice a3 p.Nb.length n3,.slice a4 p.Na.length n4,.int .i64 p.Nc] 26)).alloc (.cells #[.slice A1 c.Nd.length c1,.slice A2 c.Nf.length c2,.int .i64 c.main] 30));have j:aa All w C:=by rw[l];exact(kR.alloc _).alloc _
 have bP:al C w.heap.size 26 #[.slice a1 p.MZ.length n1,.slice a2 p.up.length n2,.slice a3 p.Nb.length n3,.slice a4 p.Na.length n4,.int .i64 p.Nc]:=by rw[l];exact(al.new _ _ _).alloc _
 have bK:al C (w.heap.size+1) 30 #[.slice A1 c.Nd.length c1,.slice A2 c.Nf.length c2,.int .i64 c.main]:=by rw[l];exact ac (by simp)
 obtain⟨p0,p1,p2,p3,p4⟩:=bP.c5;obtain⟨k0,k1,k2⟩:=bK.c3;have HW:=J5 l j bP bK a6;have HR:=oH (Bg S _ _ p c C (R C j) (Y C j) (hl.keep j) (fun b hb=>by have:=hS b hb;have:=j.size;omega) I J hN);clear hN hl hS I J;clear l j bP bK R Y a6 b3 b5;have hz:=uN (p:=p) (c:=c);unfold nH at HR;obtain⟨x,y,z,hx⟩:∃x y z,oK p c=(x,y,z):=⟨_,_,_,rfl⟩;rw[hx] at HR hz;have o:(z==0)=pB (bJ p c∧jH c):=by
  by_cases h:z=0;·rw[av (hz.1 h)];simpa using h
  rw[au fun h'=>h (hz.2 h')];simpa using h
 obtain⟨q,hq⟩:=eR ((z==0));rw[hq] at o;have HZ:=oH o;clear hz o hx;go_enter func14,ntmps14;go_upto_region 1 with fail;rw[←HW.1];go_wp2_with fail;refine HR.out.mono ?_;rintro e w1 ⟨rfl,a7⟩;have b6:=oH (HW.2.1.trans a7);clear a7;go_wp2_with fail;go_ret;exact⟨by rw[←HZ.out]<;>rfl,b6.out⟩
def ie (l:List bz)(f:Nat):Bool:=l.any fun x=>decide (x.kind=7∧x.ref=(f:Int))
theorem mY (l r:List bz)(f:Nat):ie (l++r) f=(ie l f||ie r f):=by simp[ie]
theorem px (x:bz)(f:Nat):ie [x] f=decide (x.kind=7∧x.ref=(f:Int)):=by simp[ie]
theorem xR {l:List bz}{x:bz}(h:x.kind≠7):ie (l++[x])=ie l:=by funext f;rw[mY,px,cI fun h'=>h h'.1,Bool.or_false]
theorem uK {l:List bz}{x:bz}{f:Nat}(h:x.kind=7)(j:x.ref=(f:Int)):ie (l++[x]) f=true:=by rw[mY,px,bL ⟨h,j⟩,Bool.or_true]
theorem Iy {l:List bz}{x:bz}{f g:Nat}(o:x.ref=(f:Int))(j:g≠f):ie (l++[x]) g=ie l g:=by rw[mY,px,cI fun h'=>j (by omega),Bool.or_false]
def dL (l:List bz)(m:Nat):List Int:=((List.range m).filter fun f=>ie l f).map fun(n:Nat)=>(n:Int)
theorem qS {l:List bz}{m:Nat}(h:ie l m=true):dL l (m+1)=dL l m++[(m:Int)]:=by unfold dL;rw[List.range_succ,mE,ic];simp[h]
theorem sk {l:List bz}{m:Nat}(h:ie l m=false):dL l (m+1)=dL l m:=by unfold dL;rw[List.range_succ,mE,ic];simp[h]
theorem mZ (l:List bz)(m:Nat):(dL l m).length≤m:=by unfold dL;rw[ce];exact fR (List.length_filter_le _ _) (by simp)
theorem qR {l:List bz}{m:Nat}{x:Int}(h:x∈dL l m):∃a:Nat,x=a∧a<m:=by obtain⟨a,j,rfl⟩:=dr.1 h;exact⟨a,rfl,fg.1 (List.mem_filter.1 j).1⟩
def cG (c:aE):List (List Int):=c.Nf.map fun b=>dL b.Ng.flatten c.Nf.length
theorem dT (c:aE):(cG c).length=c.Nf.length:=by simp[cG]
theorem qp {c:aE}{i:Nat}{b:aw}(h:c.Nf[i]? =some b):(cG c)[i]? =some (dL b.Ng.flatten c.Nf.length):=by unfold cG;rw[cL,h];rfl
theorem py {c:aE}(j:1≤c.Nf.length)(l:c.Nf.length≤256):aP (cG c):=by
 refine⟨by rw[dT];exact j,by rw[dT];exact l,fun row o=>?_⟩;rw[dT];obtain⟨b,_,rfl⟩:=dr.1 o;refine⟨fun x C=>?_,?_⟩
 ·obtain⟨a,rfl,I⟩:=qR C
  omega
 have h:(dL b.Ng.flatten c.Nf.length).Pairwise (·<·):=by unfold dL;refine List.pairwise_map.2 ((List.Pairwise.filter _ List.pairwise_lt_range).imp fun h=>?_);omega
 exact h.imp fun h=>by omega
theorem Fj {p:aH}{c:aE}{b:aw}(h:qi p c b){l:List bz}{x:bz}(I:l∈b.Ng)(J:x∈l)(C:x.kind=7):0≤x.ref∧x.ref<c.Nf.length:=by
 obtain⟨i,hi⟩:=cY.1 I;obtain⟨k,j⟩:=cY.1 J;obtain⟨n,d,r,a,e,_,_,_,_,_,_,R,_⟩:=h.2.2.2.2.2.1 _ x (lF hi j);have o:r=true:=by rw[C] at e;cases e;rfl
 have:=R o;rw[C] at this;exact this
def iq (Nc:Int)(l:List Int):List Bool:=l.map fun n=>decide (n<0)||decide (n≥Nc)
end Go.Proofs.YtceloincoomjeaaGreatDoor
