/- Part 40 of the proof of CallsTo (its last part says what is proved). No condition. -/
import Derived.Test.YtceloincoomjeaaGreatDoorK38
namespace Go.Proofs.YtceloincoomjeaaGreatDoor
set_option maxRecDepth 100000
set_option maxHeartbeats 8000000
open Go.RowKit Go.Proofs.Tryz
theorem Ly (S:Nat→Prop)(pv cv bv _:Value)(p:aH)(c:aE)(b:aw)(x:bz)(next:Int)(w:World)(hp:dJ S w pv p)(hc:cQ S w cv c)(hb:bW S w bv b.Ng)(_c0:aV b.params)(_c6:aV b.vars)(a5 a6:Value)(b7:aK S w a5 x.args)(b8:aK S w a6 x.Nh)(hx:jx x)
 (n:Int) (hs:cw x.kind=some (n,true,true,false)) (hg:x.kind=4∨x.kind=5∨x.kind=8∨x.kind=10) (b3:qg x next true true false)
 (c7: -1≤next∧next<4611686018427387904):
 Calls prog 65 #[pv,cv,.agg #[.int .i64 b.params,.int .i64 b.vars,bv],.agg #[.int .u8 x.kind,.int .u8 x.op,.int .i64 x.dst,.int .i64 x.ref,.int .i64 x.Ni,a5,a6,.int .i64 x.num,.int .i64 x.Nj],.int .i64 next] w (fl p c b next x w):=by
 have k1:=mK x.kind 1 (by omega);have k2:=mK x.kind 2 (by omega);have e2:=nK x.kind 2 (by omega);have q:=b3;have c1:=q.1;simp only[if_true] at c1;have s0:(x.dst !=next)=false:=by simp;omega
 have c3:=q.2.2.1 rfl;have s2:(x.Ni !=0)=false:=by simp;omega
 have c4:=q.2.2.2.1 (by omega);have s3:(x.num !=0)=false:=by simp;omega
 have c5:=q.2.2.2.2.1 (by omega);have s4:=wK x.op 0 (by omega);have c8:=oH b3;have HG:=oH hg;clear hg b3 q c1 c3 c4 c5;obtain⟨a1,n1,a2,n2,a3,n3,a4,n4,A1,c1,A2,c2,B1,d1,ua,uc,va,vc,W0,rfl,rfl,rfl,rfl,rfl,⟨l1,l2,l3,l4,l5,l6,m1,m2,m3,m4,m5,m6,u1,u2,u3,v1,v2,v3⟩,⟨p0,p1,p2,p3,p4,k0,k1,k2,b0,b1,b2,x0,x1,x2,x3,x4,x5,x6,x7,x8⟩,o,HP⟩:=eO hp hc hb b7 b8 hx;unfold maxLen at*;clear hp hc hb b7 b8;have h4:=hx.kind;have h5:=hx.op;clear hx;unfold aV at _c0 _c6;go_enter func65,ntmps65;go_upto_region 1 with fail;rw[←o.1];have a8:=df x.kind W0;unfold bH at a8;rw[hs] at a8;have HI:=J3 (dY (p:=p) (c:=c) (b:=b) (next:=next) hs) hs (fu hs);have c9:=oH a8;clear a8 hs;go_wp2_with fail;refine c9.out.mono ?_;rintro e w1 ⟨rfl,rfl⟩;simp only;go_upto_region 2 with fail;simp only[List.append];go_upto_block 0 with fail;go_cut [17] (fun t wx=>t=.int .i64 (cW p c b x.kind)∧wx=W0)
 case first=>(
 by_cases g4:x.kind=4;·have e4:=yK x.kind 4 (by omega);have HM:=oH (show cW p c b x.kind=c.Nd.length from by rw[g4]<;>rfl);clear g4;go_wp2_with fail;go_meet;exact⟨by rw[HM.out]<;>rfl,rfl⟩
 skip;by_cases g5:x.kind=5;·have e4:=nK x.kind 4 (by omega);have e5:=yK x.kind 5 (by omega);have HM:=oH (show cW p c b x.kind=c.Nd.length from by rw[g5]<;>rfl);clear g4 g5;go_wp2_with fail;go_meet;exact⟨by rw[HM.out]<;>rfl,rfl⟩
 skip;by_cases g8:x.kind=8;·have e4:=nK x.kind 4 (by omega);have e5:=nK x.kind 5 (by omega);have e6:=nK x.kind 6 (by omega);have e7:=nK x.kind 7 (by omega);have e8:=yK x.kind 8 (by omega);have HM:=oH (show cW p c b x.kind=p.Nb.length from by rw[g8]<;>rfl);clear g4 g5 g8;go_wp2_with fail;go_meet;exact⟨by rw[HM.out]<;>rfl,rfl⟩
 skip;by_cases g10:x.kind=10;·have e4:=nK x.kind 4 (by omega);have e5:=nK x.kind 5 (by omega);have e6:=nK x.kind 6 (by omega);have e7:=nK x.kind 7 (by omega);have e8:=nK x.kind 8 (by omega);have e9:=nK x.kind 9 (by omega);have h6:=yK x.kind 10 (by omega);have HM:=oH (show cW p c b x.kind=p.MZ.length from by rw[g10]<;>rfl);clear g4 g5 g8 g10;go_wp2_with fail;go_meet;exact⟨by rw[HM.out]<;>rfl,rfl⟩
 skip;exact absurd HG.out (by omega))
 obtain⟨rfl,hw⟩:=hcut;have d7:=hw.symm;subst d7;obtain⟨M,hM⟩:=eR (cW p c b x.kind);rw[hM];have HM:=oH hM;clear hM;have t7:((x.kind:Int)==7)=false:=by have hg:=HG.out;rw[bE];omega
 have t3:((x.kind:Int)==3)=false:=by have hg:=HG.out;rw[bE];omega
 by_cases h0:0≤x.ref;·(
 have u0:decide (x.ref<0)=false:=by simp;omega
 by_cases h1:x.ref<(M:Int);·(
 have u1:decide ((M:Int)≤x.ref)=false:=by simp;omega
 by_cases h2:x.Nh.length=0;·(
 have v0:((x.Nh.length:Int) !=0)=false:=by rw[gj];omega
 by_cases h3:(x.args.length:Int)=n;·(
 have v1:((x.args.length:Int) !=n)=false:=by rw[gj];omega
 have d8:=oH (show mM c x n from by have hg:=HG.out;unfold mM;rw[ae (show¬x.kind=3 by omega),show jG c x n=n from ae (by omega)];exact⟨oD h2,h3⟩);have b9:=oH (show Ie p c b x true false from⟨fun _=>by rw[HM.out];exact⟨h0,h1⟩,fun h=>Bool.noConfusion h⟩);clear h2 h3 h0 h1;go_wp2_with fail;go_loopg [18] x.args.length (fun g s wr=>∃k:Nat,k≤x.args.length∧g=x.args.length-k∧s=.int .i64 k∧aa All W0 wr∧∀(i:Nat) a,i<k→x.args[i]? =some a→0≤a∧a<b.vars);·exact⟨0,by omega,by omega,rfl,kR,fun i a hi=>by omega⟩
 obtain⟨k,hk,rfl,rfl,j,l⟩:=hrel;clear x0 x1 x2 x3 x4 x5 x6 x7 x8 b0 b1 b2;have J:=o.2.2.2.2.2.kept j trivial;have R:=o.2.2.2.2.1.kept j trivial;obtain⟨x0,x1,x2,x3,x4,x5,x6,x7,x8⟩:=J.c9;obtain⟨b0,b1,b2⟩:=R.c3;clear J R;by_cases b4:k<x.args.length;·(
 obtain⟨y,Y⟩:=eG b4;obtain⟨yb,yo,cc,rfl,b5,d9,rfl,b6⟩:=bn (HP.2.1 wr (o.2.1.trans j)) Y;have C:=J3 j l Y;clear j l Y b6 b5;by_cases g0:y<0
 ·have q0:decide (y<0)=true:=by simpa using g0
  have I:=oH (show¬aT p c b next x from fun h=>by have:=(aC.1 (HI.1.1 h)).2.2.2.1 y (mG C.2.2);omega);clear g0;go_wp2_with fail;go_quiet (fail);go_wp2_with fail;go_ret2;exact .no I.out (o.2.1.trans (C.1.drewN _))
 have q0:decide (y<0)=false:=by simpa using g0
 by_cases g1:b.vars≤y
 ·have q1:decide (b.vars≤y)=true:=by simpa using g1
  have I:=oH (show¬aT p c b next x from fun h=>by have:=(aC.1 (HI.1.1 h)).2.2.2.1 y (mG C.2.2);omega);clear g0 g1;go_wp2_with fail;go_quiet (fail);go_wp2_with fail;go_ret2;exact .no I.out (o.2.1.trans (C.1.drewN _))
 have q1:decide (b.vars≤y)=false:=by simpa using g1
 have HY:=oH (show 0≤y∧y<b.vars by omega);clear g0 g1;go_wp2_with fail;go_quiet (fail);go_wp2_with fail;go_roundg (x.args.length-(k+1))
 ·refine⟨k+1,by omega,rfl,by go_num,C.1.drewN _,fun i z hi hz=>?_⟩
  by_cases e:i=k;·subst e;rw[C.2.2] at hz;cases hz;exact HY.out
  exact C.2.1 i z (by omega) hz
 omega)
 obtain rfl:k=x.args.length:=by omega
 have Z:∀a∈x.args,0≤a∧a<b.vars:=fun y Y=>by obtain⟨i,hi⟩:=cY.1 Y;exact l i y (lS.1 hi).1 hi
 have e0:=oH Z;clear l Z;go_wp2_with fail;go_loopg [19] x.Nh.length (fun g s wr=>∃k:Nat,k≤x.Nh.length∧g=x.Nh.length-k∧s=.int .i64 k∧aa All W0 wr∧∀(i:Nat) a,i<k→x.Nh[i]? =some a→0≤a∧a<(b.Ng.length:Int));·exact⟨0,by omega,by omega,rfl,j,fun i a hi=>by omega⟩
 obtain⟨k,hk,rfl,rfl,j,l⟩:=hrel;clear x0 x1 x2 x3 x4 x5 x6 x7 x8 b0 b1 b2;have J:=o.2.2.2.2.2.kept j trivial;have R:=o.2.2.2.2.1.kept j trivial;obtain⟨x0,x1,x2,x3,x4,x5,x6,x7,x8⟩:=J.c9;obtain⟨b0,b1,b2⟩:=R.c3;clear J R;by_cases b4:k<x.Nh.length;·(
 obtain⟨y,Y⟩:=eG b4;obtain⟨yb,yo,cc,rfl,b5,d9,rfl,b6⟩:=bn (HP.2.2.1 wr (o.2.1.trans j)) Y;have C:=J3 j l Y;clear j l Y b6 b5;by_cases g0:y<0
 ·have q0:decide (y<0)=true:=by simpa using g0
  have I:=oH (show¬aT p c b next x from fun h=>by have:=(aC.1 (HI.1.1 h)).2.2.2.2 y (mG C.2.2);omega);clear g0;go_wp2_with fail;go_quiet (fail);go_wp2_with fail;go_ret2;exact .no I.out (o.2.1.trans (C.1.drewN _))
 have q0:decide (y<0)=false:=by simpa using g0
 by_cases g1:(b.Ng.length:Int)≤y
 ·have q1:decide ((b.Ng.length:Int)≤y)=true:=by simpa using g1
  have I:=oH (show¬aT p c b next x from fun h=>by have:=(aC.1 (HI.1.1 h)).2.2.2.2 y (mG C.2.2);omega);clear g0 g1;go_wp2_with fail;go_quiet (fail);go_wp2_with fail;go_ret2;exact .no I.out (o.2.1.trans (C.1.drewN _))
 have q1:decide ((b.Ng.length:Int)≤y)=false:=by simpa using g1
 have HY:=oH (show 0≤y∧y<(b.Ng.length:Int) by omega);clear g0 g1;go_wp2_with fail;go_quiet (fail);go_wp2_with fail;go_roundg (x.Nh.length-(k+1))
 ·refine⟨k+1,by omega,rfl,by go_num,C.1.drewN _,fun i z hi hz=>?_⟩
  by_cases e:i=k;·subst e;rw[C.2.2] at hz;cases hz;exact HY.out
  exact C.2.1 i z (by omega) hz
 omega)
 obtain rfl:k=x.Nh.length:=by omega
 have a7:∀a∈x.Nh,0≤a∧a<(b.Ng.length:Int):=fun y Y=>by obtain⟨i,hi⟩:=cY.1 Y;exact l i y (lS.1 hi).1 hi
 have e1:=oH (show aT p c b next x from HI.1.2 (aC.2 ⟨c8.out,b9.out,d8.out,e0.out,a7⟩));have e3:=oH j;clear j l a7;go_wp2_with fail;go_ret2;exact⟨next+1,true,rfl,(av e1.out).symm,fun _=>by rw[HI.2.2];rfl,o.2.1.trans e3.out⟩)
 have v1:((x.args.length:Int) !=n)=true:=by rw[bne_iff_ne];omega
 have I:=oH (show¬aT p c b next x from fun h=>by have hg:=HG.out;have h:=aC.1 (HI.1.1 h);have:=h.2.2.1;unfold mM at this;rw[ae (show¬x.kind=3 by omega),show jG c x n=n from ae (by omega)] at this;exact h3 this.2);clear h3;go_wp2_with fail;go_ret2;exact .no I.out o.2.1)
 have v0:((x.Nh.length:Int) !=0)=true:=by rw[bne_iff_ne];omega
 have I:=oH (show¬aT p c b next x from fun h=>by have hg:=HG.out;have h:=aC.1 (HI.1.1 h);have:=h.2.2.1;unfold mM at this;rw[ae (show¬x.kind=3 by omega)] at this;rw[this.1] at h2;exact h2 rfl);clear h2;go_wp2_with fail;go_ret2;exact .no I.out o.2.1)
 have u1:decide ((M:Int)≤x.ref)=true:=by simp;omega
 have I:=oH (show¬aT p c b next x from fun h=>by have hg:=HG.out;have h:=aC.1 (HI.1.1 h);have:=h.2.1.1 rfl;rw[HM.out] at this;omega);clear h1;go_wp2_with fail;go_ret2;exact .no I.out o.2.1)
 have u0:decide (x.ref<0)=true:=by simp;omega
 have I:=oH (show¬aT p c b next x from fun h=>by have hg:=HG.out;have h:=aC.1 (HI.1.1 h);have:=h.2.1.1 rfl;omega);clear h0;go_wp2_with fail;go_ret2;exact .no I.out o.2.1
theorem Lz (S:Nat→Prop)(pv cv bv _:Value)(p:aH)(c:aE)(b:aw)(x:bz)(next:Int)(w:World)(hp:dJ S w pv p)(hc:cQ S w cv c)(hb:bW S w bv b.Ng)(_c0:aV b.params)(_c6:aV b.vars)(a5 a6:Value)(b7:aK S w a5 x.args)(b8:aK S w a6 x.Nh)(hx:jx x)
 (n:Int) (hs:cw x.kind=some (n,false,true,false)) (hg:x.kind=6∨x.kind=9∨x.kind=11) (b3:qg x next false true false)
 (_: -1≤next∧next<4611686018427387904):
 Calls prog 65 #[pv,cv,.agg #[.int .i64 b.params,.int .i64 b.vars,bv],.agg #[.int .u8 x.kind,.int .u8 x.op,.int .i64 x.dst,.int .i64 x.ref,.int .i64 x.Ni,a5,a6,.int .i64 x.num,.int .i64 x.Nj],.int .i64 next] w (fl p c b next x w):=by
 have k1:=mK x.kind 1 (by omega);have k2:=mK x.kind 2 (by omega);have e2:=nK x.kind 2 (by omega);have q:=b3;have c1:=q.1;simp only[jL,if_false] at c1;have s0:(x.dst != -1)=false:=by simp;omega
 have c3:=q.2.2.1 rfl;have s2:(x.Ni !=0)=false:=by simp;omega
 have c4:=q.2.2.2.1 (by omega);have s3:(x.num !=0)=false:=by simp;omega
 have c5:=q.2.2.2.2.1 (by omega);have s4:=wK x.op 0 (by omega);have c8:=oH b3;have HG:=oH hg;clear hg b3 q c1 c3 c4 c5;obtain⟨a1,n1,a2,n2,a3,n3,a4,n4,A1,c1,A2,c2,B1,d1,ua,uc,va,vc,W0,rfl,rfl,rfl,rfl,rfl,⟨l1,l2,l3,l4,l5,l6,m1,m2,m3,m4,m5,m6,u1,u2,u3,v1,v2,v3⟩,⟨p0,p1,p2,p3,p4,k0,k1,k2,b0,b1,b2,x0,x1,x2,x3,x4,x5,x6,x7,x8⟩,o,HP⟩:=eO hp hc hb b7 b8 hx;unfold maxLen at*;clear hp hc hb b7 b8;have h4:=hx.kind;have h5:=hx.op;clear hx;unfold aV at _c0 _c6;go_enter func65,ntmps65;go_upto_region 1 with fail;rw[←o.1];have a8:=df x.kind W0;unfold bH at a8;rw[hs] at a8;have HI:=J3 (dY (p:=p) (c:=c) (b:=b) (next:=next) hs) hs (fu hs);have c9:=oH a8;clear a8 hs;go_wp2_with fail;refine c9.out.mono ?_;rintro e w1 ⟨rfl,rfl⟩;simp only;go_upto_region 2 with fail;simp only[List.append];go_upto_block 0 with fail;go_cut [17] (fun t wx=>t=.int .i64 (cW p c b x.kind)∧wx=W0)
 case first=>(
 by_cases g6:x.kind=6;·have e4:=nK x.kind 4 (by omega);have e5:=nK x.kind 5 (by omega);have e6:=yK x.kind 6 (by omega);have HM:=oH (show cW p c b x.kind=c.Nd.length from by rw[g6]<;>rfl);clear g6;go_wp2_with fail;go_meet;exact⟨by rw[HM.out]<;>rfl,rfl⟩
 skip;by_cases g9:x.kind=9;·have e4:=nK x.kind 4 (by omega);have e5:=nK x.kind 5 (by omega);have e6:=nK x.kind 6 (by omega);have e7:=nK x.kind 7 (by omega);have e8:=nK x.kind 8 (by omega);have e9:=yK x.kind 9 (by omega);have HM:=oH (show cW p c b x.kind=p.Na.length from by rw[g9]<;>rfl);clear g6 g9;go_wp2_with fail;go_meet;exact⟨by rw[HM.out]<;>rfl,rfl⟩
 skip;by_cases g11:x.kind=11;·have e4:=nK x.kind 4 (by omega);have e5:=nK x.kind 5 (by omega);have e6:=nK x.kind 6 (by omega);have e7:=nK x.kind 7 (by omega);have e8:=nK x.kind 8 (by omega);have e9:=nK x.kind 9 (by omega);have h6:=nK x.kind 10 (by omega);have HM:=oH (show cW p c b x.kind=b.Ng.length from by rw[g11]<;>rfl);clear g6 g9 g11;go_wp2_with fail;go_meet;exact⟨by rw[HM.out]<;>rfl,rfl⟩
 skip;exact absurd HG.out (by omega))
 obtain⟨rfl,hw⟩:=hcut;have d7:=hw.symm;subst d7;obtain⟨M,hM⟩:=eR (cW p c b x.kind);rw[hM];have HM:=oH hM;clear hM;have t7:((x.kind:Int)==7)=false:=by have hg:=HG.out;rw[bE];omega
 have t3:((x.kind:Int)==3)=false:=by have hg:=HG.out;rw[bE];omega
 by_cases h0:0≤x.ref;·(
 have u0:decide (x.ref<0)=false:=by simp;omega
 by_cases h1:x.ref<(M:Int);·(
 have u1:decide ((M:Int)≤x.ref)=false:=by simp;omega
 by_cases h2:x.Nh.length=0;·(
 have v0:((x.Nh.length:Int) !=0)=false:=by rw[gj];omega
 by_cases h3:(x.args.length:Int)=n;·(
 have v1:((x.args.length:Int) !=n)=false:=by rw[gj];omega
 have d8:=oH (show mM c x n from by have hg:=HG.out;unfold mM;rw[ae (show¬x.kind=3 by omega),show jG c x n=n from ae (by omega)];exact⟨oD h2,h3⟩);have b9:=oH (show Ie p c b x true false from⟨fun _=>by rw[HM.out];exact⟨h0,h1⟩,fun h=>Bool.noConfusion h⟩);clear h2 h3 h0 h1;go_wp2_with fail;go_loopg [18] x.args.length (fun g s wr=>∃k:Nat,k≤x.args.length∧g=x.args.length-k∧s=.int .i64 k∧aa All W0 wr∧∀(i:Nat) a,i<k→x.args[i]? =some a→0≤a∧a<b.vars);·exact⟨0,by omega,by omega,rfl,kR,fun i a hi=>by omega⟩
 obtain⟨k,hk,rfl,rfl,j,l⟩:=hrel;clear x0 x1 x2 x3 x4 x5 x6 x7 x8 b0 b1 b2;have J:=o.2.2.2.2.2.kept j trivial;have R:=o.2.2.2.2.1.kept j trivial;obtain⟨x0,x1,x2,x3,x4,x5,x6,x7,x8⟩:=J.c9;obtain⟨b0,b1,b2⟩:=R.c3;clear J R;by_cases b4:k<x.args.length;·(
 obtain⟨y,Y⟩:=eG b4;obtain⟨yb,yo,cc,rfl,b5,d9,rfl,b6⟩:=bn (HP.2.1 wr (o.2.1.trans j)) Y;have C:=J3 j l Y;clear j l Y b6 b5;by_cases g0:y<0
 ·have q0:decide (y<0)=true:=by simpa using g0
  have I:=oH (show¬aT p c b next x from fun h=>by have:=(aC.1 (HI.1.1 h)).2.2.2.1 y (mG C.2.2);omega);clear g0;go_wp2_with fail;go_quiet (fail);go_wp2_with fail;go_ret2;exact .no I.out (o.2.1.trans (C.1.drewN _))
 have q0:decide (y<0)=false:=by simpa using g0
 by_cases g1:b.vars≤y
 ·have q1:decide (b.vars≤y)=true:=by simpa using g1
  have I:=oH (show¬aT p c b next x from fun h=>by have:=(aC.1 (HI.1.1 h)).2.2.2.1 y (mG C.2.2);omega);clear g0 g1;go_wp2_with fail;go_quiet (fail);go_wp2_with fail;go_ret2;exact .no I.out (o.2.1.trans (C.1.drewN _))
 have q1:decide (b.vars≤y)=false:=by simpa using g1
 have HY:=oH (show 0≤y∧y<b.vars by omega);clear g0 g1;go_wp2_with fail;go_quiet (fail);go_wp2_with fail;go_roundg (x.args.length-(k+1))
 ·refine⟨k+1,by omega,rfl,by go_num,C.1.drewN _,fun i z hi hz=>?_⟩
  by_cases e:i=k;·subst e;rw[C.2.2] at hz;cases hz;exact HY.out
  exact C.2.1 i z (by omega) hz
 omega)
 obtain rfl:k=x.args.length:=by omega
 have Z:∀a∈x.args,0≤a∧a<b.vars:=fun y Y=>by obtain⟨i,hi⟩:=cY.1 Y;exact l i y (lS.1 hi).1 hi
 have e0:=oH Z;clear l Z;go_wp2_with fail;go_loopg [19] x.Nh.length (fun g s wr=>∃k:Nat,k≤x.Nh.length∧g=x.Nh.length-k∧s=.int .i64 k∧aa All W0 wr∧∀(i:Nat) a,i<k→x.Nh[i]? =some a→0≤a∧a<(b.Ng.length:Int));·exact⟨0,by omega,by omega,rfl,j,fun i a hi=>by omega⟩
 obtain⟨k,hk,rfl,rfl,j,l⟩:=hrel;clear x0 x1 x2 x3 x4 x5 x6 x7 x8 b0 b1 b2;have J:=o.2.2.2.2.2.kept j trivial;have R:=o.2.2.2.2.1.kept j trivial;obtain⟨x0,x1,x2,x3,x4,x5,x6,x7,x8⟩:=J.c9;obtain⟨b0,b1,b2⟩:=R.c3;clear J R;by_cases b4:k<x.Nh.length;·(
 obtain⟨y,Y⟩:=eG b4;obtain⟨yb,yo,cc,rfl,b5,d9,rfl,b6⟩:=bn (HP.2.2.1 wr (o.2.1.trans j)) Y;have C:=J3 j l Y;clear j l Y b6 b5;by_cases g0:y<0
 ·have q0:decide (y<0)=true:=by simpa using g0
  have I:=oH (show¬aT p c b next x from fun h=>by have:=(aC.1 (HI.1.1 h)).2.2.2.2 y (mG C.2.2);omega);clear g0;go_wp2_with fail;go_quiet (fail);go_wp2_with fail;go_ret2;exact .no I.out (o.2.1.trans (C.1.drewN _))
 have q0:decide (y<0)=false:=by simpa using g0
 by_cases g1:(b.Ng.length:Int)≤y
 ·have q1:decide ((b.Ng.length:Int)≤y)=true:=by simpa using g1
  have I:=oH (show¬aT p c b next x from fun h=>by have:=(aC.1 (HI.1.1 h)).2.2.2.2 y (mG C.2.2);omega);clear g0 g1;go_wp2_with fail;go_quiet (fail);go_wp2_with fail;go_ret2;exact .no I.out (o.2.1.trans (C.1.drewN _))
 have q1:decide ((b.Ng.length:Int)≤y)=false:=by simpa using g1
 have HY:=oH (show 0≤y∧y<(b.Ng.length:Int) by omega);clear g0 g1;go_wp2_with fail;go_quiet (fail);go_wp2_with fail;go_roundg (x.Nh.length-(k+1))
 ·refine⟨k+1,by omega,rfl,by go_num,C.1.drewN _,fun i z hi hz=>?_⟩
  by_cases e:i=k;·subst e;rw[C.2.2] at hz;cases hz;exact HY.out
  exact C.2.1 i z (by omega) hz
 omega)
 obtain rfl:k=x.Nh.length:=by omega
 have a7:∀a∈x.Nh,0≤a∧a<(b.Ng.length:Int):=fun y Y=>by obtain⟨i,hi⟩:=cY.1 Y;exact l i y (lS.1 hi).1 hi
 have e1:=oH (show aT p c b next x from HI.1.2 (aC.2 ⟨c8.out,b9.out,d8.out,e0.out,a7⟩));have e3:=oH j;clear j l a7;go_wp2_with fail;go_ret2;exact⟨next,true,rfl,(av e1.out).symm,fun _=>by rw[HI.2.2];rfl,o.2.1.trans e3.out⟩)
 have v1:((x.args.length:Int) !=n)=true:=by rw[bne_iff_ne];omega
 have I:=oH (show¬aT p c b next x from fun h=>by have hg:=HG.out;have h:=aC.1 (HI.1.1 h);have:=h.2.2.1;unfold mM at this;rw[ae (show¬x.kind=3 by omega),show jG c x n=n from ae (by omega)] at this;exact h3 this.2);clear h3;go_wp2_with fail;go_ret2;exact .no I.out o.2.1)
 have v0:((x.Nh.length:Int) !=0)=true:=by rw[bne_iff_ne];omega
 have I:=oH (show¬aT p c b next x from fun h=>by have hg:=HG.out;have h:=aC.1 (HI.1.1 h);have:=h.2.2.1;unfold mM at this;rw[ae (show¬x.kind=3 by omega)] at this;rw[this.1] at h2;exact h2 rfl);clear h2;go_wp2_with fail;go_ret2;exact .no I.out o.2.1)
 have u1:decide ((M:Int)≤x.ref)=true:=by simp;omega
 have I:=oH (show¬aT p c b next x from fun h=>by have hg:=HG.out;have h:=aC.1 (HI.1.1 h);have:=h.2.1.1 rfl;rw[HM.out] at this;omega);clear h1;go_wp2_with fail;go_ret2;exact .no I.out o.2.1)
 have u0:decide (x.ref<0)=true:=by simp;omega
 have I:=oH (show¬aT p c b next x from fun h=>by have hg:=HG.out;have h:=aC.1 (HI.1.1 h);have:=h.2.1.1 rfl;omega);clear h0;go_wp2_with fail;go_ret2;exact .no I.out o.2.1
theorem JJ (S:Nat→Prop)(pv cv bv _:Value)(p:aH)(c:aE)(b:aw)(x:bz)(next:Int)(w:World)(hp:dJ S w pv p)(hc:cQ S w cv c)(hb:bW S w bv b.Ng)(_c6:aV b.params)(_c7:aV b.vars)(a5 a6:Value)(b9:aK S w a5 x.args)(c0:aK S w a6 x.Nh)(hx:jx x)
 (n:Int) (hs:cw x.kind=some (n,false,true,true)) (C:x.kind=12) (b5:qg x next false true true)
 (_: -1≤next∧next<4611686018427387904):
 Calls prog 65 #[pv,cv,.agg #[.int .i64 b.params,.int .i64 b.vars,bv],.agg #[.int .u8 x.kind,.int .u8 x.op,.int .i64 x.dst,.int .i64 x.ref,.int .i64 x.Ni,a5,a6,.int .i64 x.num,.int .i64 x.Nj],.int .i64 next] w (fl p c b next x w):=by
 have k1:=mK x.kind 1 (by omega);have k2:=mK x.kind 2 (by omega);have e2:=nK x.kind 2 (by omega);have q:=b5;have c1:=q.1;simp only[jL,if_false] at c1;have s0:(x.dst != -1)=false:=by simp;omega
 have c4:=q.2.2.2.1 (by omega);have s3:(x.num !=0)=false:=by simp;omega
 have c5:=q.2.2.2.2.1 (by omega);have s4:=wK x.op 0 (by omega);have c9:=oH b5;have J:=oH C;clear C b5 q c1 c4 c5;obtain⟨a1,n1,a2,n2,a3,n3,a4,n4,A1,c1,A2,c2,B1,d1,ua,uc,va,vc,W0,rfl,rfl,rfl,rfl,rfl,⟨l1,l2,l3,l4,l5,l6,m1,m2,m3,m4,m5,m6,u1,u2,u3,v1,v2,v3⟩,⟨p0,p1,p2,p3,p4,k0,k1,k2,b0,b1,b2,x0,x1,x2,x3,x4,x5,x6,x7,x8⟩,I,HP⟩:=eO hp hc hb b9 c0 hx;unfold maxLen at*;clear hp hc hb b9 c0;have h6:=hx.kind;have h7:=hx.op;clear hx;unfold aV at _c6 _c7;go_enter func65,ntmps65;go_upto_region 1 with fail;rw[←I.1];have b4:=df x.kind W0;unfold bH at b4;rw[hs] at b4;have Y:=J3 (dY (p:=p) (c:=c) (b:=b) (next:=next) hs) hs (fu hs);have d7:=oH b4;clear b4 hs;go_wp2_with fail;refine d7.out.mono ?_;rintro e w1 ⟨rfl,rfl⟩;simp only;go_upto_region 2 with fail;simp only[List.append];have HM:=oH (show cW p c b x.kind=b.Ng.length from by rw[J.out]<;>rfl);go_upto_block 0 with fail;have t7:((x.kind:Int)==7)=false:=by have C:=J.out;rw[bE];omega
 have t3:((x.kind:Int)==3)=false:=by have C:=J.out;rw[bE];omega
 have e4:((x.kind:Int)==4)=false:=by have C:=J.out;rw[bE];omega
 have e5:((x.kind:Int)==5)=false:=by have C:=J.out;rw[bE];omega
 have e6:((x.kind:Int)==6)=false:=by have C:=J.out;rw[bE];omega
 have e7:((x.kind:Int)==7)=false:=by have C:=J.out;rw[bE];omega
 have e8:((x.kind:Int)==8)=false:=by have C:=J.out;rw[bE];omega
 have e9:((x.kind:Int)==9)=false:=by have C:=J.out;rw[bE];omega
 have h8:((x.kind:Int)==10)=false:=by have C:=J.out;rw[bE];omega
 by_cases h0:0≤x.ref;·(
 have u0:decide (x.ref<0)=false:=by simp;omega
 by_cases h1:x.ref<(b.Ng.length:Int);·(
 have u1:decide ((b.Ng.length:Int)≤x.ref)=false:=by simp;omega
 by_cases h2:0≤x.Ni;·(
 have u2:decide (x.Ni<0)=false:=by simp;omega
 by_cases h3:x.Ni<(b.Ng.length:Int);·(
 have u3:decide ((b.Ng.length:Int)≤x.Ni)=false:=by simp;omega
 by_cases h4:x.Nh.length=0;·(
 have v0:((x.Nh.length:Int) !=0)=false:=by rw[gj];omega
 by_cases h5:(x.args.length:Int)=n;·(
 have v1:((x.args.length:Int) !=n)=false:=by rw[gj];omega
 have d8:=oH (show mM c x n from by have C:=J.out;unfold mM;rw[ae (show¬x.kind=3 by omega),show jG c x n=n from ae (by omega)];exact⟨oD h4,h5⟩);have c3:=oH (show Ie p c b x true true from⟨fun _=>by rw[HM.out];exact⟨h0,h1⟩,fun _=>⟨h2,h3⟩⟩);clear h4 h5 h0 h1 h2 h3;go_wp2_with fail;go_loopg [18] x.args.length (fun g s wr=>∃k:Nat,k≤x.args.length∧g=x.args.length-k∧s=.int .i64 k∧aa All W0 wr∧∀(i:Nat) a,i<k→x.args[i]? =some a→0≤a∧a<b.vars);·exact⟨0,by omega,by omega,rfl,kR,fun i a hi=>by omega⟩
 obtain⟨k,hk,rfl,rfl,j,l⟩:=hrel;clear x0 x1 x2 x3 x4 x5 x6 x7 x8 b0 b1 b2;have Z:=I.2.2.2.2.2.kept j trivial;have a7:=I.2.2.2.2.1.kept j trivial;obtain⟨x0,x1,x2,x3,x4,x5,x6,x7,x8⟩:=Z.c9;obtain⟨b0,b1,b2⟩:=a7.c3;clear Z a7;by_cases b6:k<x.args.length;·(
 obtain⟨y,hy⟩:=eG b6;obtain⟨yb,yo,cc,rfl,b7,d9,rfl,b8⟩:=bn (HP.2.1 wr (I.2.1.trans j)) hy;have R:=J3 j l hy;clear j l hy b8 b7;by_cases g0:y<0
 ·have q0:decide (y<0)=true:=by simpa using g0
  have o:=oH (show¬aT p c b next x from fun h=>by have:=(aC.1 (Y.1.1 h)).2.2.2.1 y (mG R.2.2);omega);clear g0;go_wp2_with fail;go_quiet (fail);go_wp2_with fail;go_ret2;exact .no o.out (I.2.1.trans (R.1.drewN _))
 have q0:decide (y<0)=false:=by simpa using g0
 by_cases g1:b.vars≤y
 ·have q1:decide (b.vars≤y)=true:=by simpa using g1
  have o:=oH (show¬aT p c b next x from fun h=>by have:=(aC.1 (Y.1.1 h)).2.2.2.1 y (mG R.2.2);omega);clear g0 g1;go_wp2_with fail;go_quiet (fail);go_wp2_with fail;go_ret2;exact .no o.out (I.2.1.trans (R.1.drewN _))
 have q1:decide (b.vars≤y)=false:=by simpa using g1
 have HY:=oH (show 0≤y∧y<b.vars by omega);clear g0 g1;go_wp2_with fail;go_quiet (fail);go_wp2_with fail;go_roundg (x.args.length-(k+1))
 ·refine⟨k+1,by omega,rfl,by go_num,R.1.drewN _,fun i z hi hz=>?_⟩
  by_cases e:i=k;·subst e;rw[R.2.2] at hz;cases hz;exact HY.out
  exact R.2.1 i z (by omega) hz
 omega)
 obtain rfl:k=x.args.length:=by omega
 have a8:∀a∈x.args,0≤a∧a<b.vars:=fun y hy=>by obtain⟨i,hi⟩:=cY.1 hy;exact l i y (lS.1 hi).1 hi
 have e0:=oH a8;clear l a8;go_wp2_with fail;go_loopg [19] x.Nh.length (fun g s wr=>∃k:Nat,k≤x.Nh.length∧g=x.Nh.length-k∧s=.int .i64 k∧aa All W0 wr∧∀(i:Nat) a,i<k→x.Nh[i]? =some a→0≤a∧a<(b.Ng.length:Int));·exact⟨0,by omega,by omega,rfl,j,fun i a hi=>by omega⟩
 obtain⟨k,hk,rfl,rfl,j,l⟩:=hrel;clear x0 x1 x2 x3 x4 x5 x6 x7 x8 b0 b1 b2;have Z:=I.2.2.2.2.2.kept j trivial;have a7:=I.2.2.2.2.1.kept j trivial;obtain⟨x0,x1,x2,x3,x4,x5,x6,x7,x8⟩:=Z.c9;obtain⟨b0,b1,b2⟩:=a7.c3;clear Z a7;by_cases b6:k<x.Nh.length;·(
 obtain⟨y,hy⟩:=eG b6;obtain⟨yb,yo,cc,rfl,b7,d9,rfl,b8⟩:=bn (HP.2.2.1 wr (I.2.1.trans j)) hy;have R:=J3 j l hy;clear j l hy b8 b7;by_cases g0:y<0
 ·have q0:decide (y<0)=true:=by simpa using g0
  have o:=oH (show¬aT p c b next x from fun h=>by have:=(aC.1 (Y.1.1 h)).2.2.2.2 y (mG R.2.2);omega);clear g0;go_wp2_with fail;go_quiet (fail);go_wp2_with fail;go_ret2;exact .no o.out (I.2.1.trans (R.1.drewN _))
 have q0:decide (y<0)=false:=by simpa using g0
 by_cases g1:(b.Ng.length:Int)≤y
 ·have q1:decide ((b.Ng.length:Int)≤y)=true:=by simpa using g1
  have o:=oH (show¬aT p c b next x from fun h=>by have:=(aC.1 (Y.1.1 h)).2.2.2.2 y (mG R.2.2);omega);clear g0 g1;go_wp2_with fail;go_quiet (fail);go_wp2_with fail;go_ret2;exact .no o.out (I.2.1.trans (R.1.drewN _))
 have q1:decide ((b.Ng.length:Int)≤y)=false:=by simpa using g1
 have HY:=oH (show 0≤y∧y<(b.Ng.length:Int) by omega);clear g0 g1;go_wp2_with fail;go_quiet (fail);go_wp2_with fail;go_roundg (x.Nh.length-(k+1))
 ·refine⟨k+1,by omega,rfl,by go_num,R.1.drewN _,fun i z hi hz=>?_⟩
  by_cases e:i=k;·subst e;rw[R.2.2] at hz;cases hz;exact HY.out
  exact R.2.1 i z (by omega) hz
 omega)
 obtain rfl:k=x.Nh.length:=by omega
 have b3:∀a∈x.Nh,0≤a∧a<(b.Ng.length:Int):=fun y hy=>by obtain⟨i,hi⟩:=cY.1 hy;exact l i y (lS.1 hi).1 hi
 have e1:=oH (show aT p c b next x from Y.1.2 (aC.2 ⟨c9.out,c3.out,d8.out,e0.out,b3⟩));have e3:=oH j;clear j l b3;go_wp2_with fail;go_ret2;exact⟨next,true,rfl,(av e1.out).symm,fun _=>by rw[Y.2.2];rfl,I.2.1.trans e3.out⟩)
 have v1:((x.args.length:Int) !=n)=true:=by rw[bne_iff_ne];omega
 have o:=oH (show¬aT p c b next x from fun h=>by have C:=J.out;have h:=aC.1 (Y.1.1 h);have:=h.2.2.1;unfold mM at this;rw[ae (show¬x.kind=3 by omega),show jG c x n=n from ae (by omega)] at this;exact h5 this.2);clear h5;go_wp2_with fail;go_ret2;exact .no o.out I.2.1)
 have v0:((x.Nh.length:Int) !=0)=true:=by rw[bne_iff_ne];omega
 have o:=oH (show¬aT p c b next x from fun h=>by have C:=J.out;have h:=aC.1 (Y.1.1 h);have:=h.2.2.1;unfold mM at this;rw[ae (show¬x.kind=3 by omega)] at this;rw[this.1] at h4;exact h4 rfl);clear h4;go_wp2_with fail;go_ret2;exact .no o.out I.2.1)
 have u3:decide ((b.Ng.length:Int)≤x.Ni)=true:=by simp;omega
 have o:=oH (show¬aT p c b next x from fun h=>by have C:=J.out;have h:=aC.1 (Y.1.1 h);have:=h.2.1.2 rfl;omega);clear h3;go_wp2_with fail;go_ret2;exact .no o.out I.2.1)
 have u2:decide (x.Ni<0)=true:=by simp;omega
 have o:=oH (show¬aT p c b next x from fun h=>by have C:=J.out;have h:=aC.1 (Y.1.1 h);have:=h.2.1.2 rfl;omega);clear h2;go_wp2_with fail;go_ret2;exact .no o.out I.2.1)
 have u1:decide ((b.Ng.length:Int)≤x.ref)=true:=by simp;omega
 have o:=oH (show¬aT p c b next x from fun h=>by have C:=J.out;have h:=aC.1 (Y.1.1 h);have:=h.2.1.1 rfl;rw[HM.out] at this;omega);clear h1;go_wp2_with fail;go_ret2;exact .no o.out I.2.1)
 have u0:decide (x.ref<0)=true:=by simp;omega
 have o:=oH (show¬aT p c b next x from fun h=>by have C:=J.out;have h:=aC.1 (Y.1.1 h);have:=h.2.1.1 rfl;omega);clear h0;go_wp2_with fail;go_ret2;exact .no o.out I.2.1
theorem JK (S:Nat→Prop)(pv cv bv _:Value)(p:aH)(c:aE)(b:aw)(x:bz)(next:Int)(w:World)(hp:dJ S w pv p)(hc:cQ S w cv c)(hb:bW S w bv b.Ng)(_c6:aV b.params)(_c7:aV b.vars)(a5 a6:Value)(b8:aK S w a5 x.args)(b9:aK S w a6 x.Nh)(hx:jx x)
 (n:Int) (hs:cw x.kind=some (n,false,false,false)) (C:x.kind=13) (b4:qg x next false false false)
 (_: -1≤next∧next<4611686018427387904):
 Calls prog 65 #[pv,cv,.agg #[.int .i64 b.params,.int .i64 b.vars,bv],.agg #[.int .u8 x.kind,.int .u8 x.op,.int .i64 x.dst,.int .i64 x.ref,.int .i64 x.Ni,a5,a6,.int .i64 x.num,.int .i64 x.Nj],.int .i64 next] w (fl p c b next x w):=by
 have k1:=mK x.kind 1 (by omega);have k2:=mK x.kind 2 (by omega);have e2:=nK x.kind 2 (by omega);have q:=b4;have c1:=q.1;simp only[jL,if_false] at c1;have s0:(x.dst != -1)=false:=by simp;omega
 have c2:=q.2.1 rfl;have s1:(x.ref !=0)=false:=by simp;omega
 have c3:=q.2.2.1 rfl;have s2:(x.Ni !=0)=false:=by simp;omega
 have c4:=q.2.2.2.1 (by omega);have s3:(x.num !=0)=false:=by simp;omega
 have c5:=q.2.2.2.2.1 (by omega);have s4:=wK x.op 0 (by omega);have c9:=oH b4;have J:=oH C;clear C b4 q c1 c2 c3 c4 c5;obtain⟨a1,n1,a2,n2,a3,n3,a4,n4,A1,c1,A2,c2,B1,d1,ua,uc,va,vc,W0,rfl,rfl,rfl,rfl,rfl,⟨l1,l2,l3,l4,l5,l6,m1,m2,m3,m4,m5,m6,u1,u2,u3,v1,v2,v3⟩,⟨p0,p1,p2,p3,p4,k0,k1,k2,b0,b1,b2,x0,x1,x2,x3,x4,x5,x6,x7,x8⟩,I,HP⟩:=eO hp hc hb b8 b9 hx;unfold maxLen at*;clear hp hc hb b8 b9;have h2:=hx.kind;have h3:=hx.op;clear hx;unfold aV at _c6 _c7;go_enter func65,ntmps65;go_upto_region 1 with fail;rw[←I.1];have b3:=df x.kind W0;unfold bH at b3;rw[hs] at b3;have HI:=J3 (dY (p:=p) (c:=c) (b:=b) (next:=next) hs) hs (fu hs);have d7:=oH b3;clear b3 hs;go_wp2_with fail;refine d7.out.mono ?_;rintro e w1 ⟨rfl,rfl⟩;simp only;go_upto_region 2 with fail;simp only[List.append];have HM:=oH (show cW p c b x.kind=b.Ng.length from by rw[J.out]<;>rfl);go_upto_block 0 with fail;have t7:((x.kind:Int)==7)=false:=by have C:=J.out;rw[bE];omega
 have t3:((x.kind:Int)==3)=false:=by have C:=J.out;rw[bE];omega
 have e4:((x.kind:Int)==4)=false:=by have C:=J.out;rw[bE];omega
 have e5:((x.kind:Int)==5)=false:=by have C:=J.out;rw[bE];omega
 have e6:((x.kind:Int)==6)=false:=by have C:=J.out;rw[bE];omega
 have e7:((x.kind:Int)==7)=false:=by have C:=J.out;rw[bE];omega
 have e8:((x.kind:Int)==8)=false:=by have C:=J.out;rw[bE];omega
 have e9:((x.kind:Int)==9)=false:=by have C:=J.out;rw[bE];omega
 have h4:((x.kind:Int)==10)=false:=by have C:=J.out;rw[bE];omega
 by_cases h0:x.Nh.length=0;·(
 have v0:((x.Nh.length:Int) !=0)=false:=by rw[gj];omega
 by_cases h1:(x.args.length:Int)=n;·(
 have v1:((x.args.length:Int) !=n)=false:=by rw[gj];omega
 have d8:=oH (show mM c x n from by have C:=J.out;unfold mM;rw[ae (show¬x.kind=3 by omega),show jG c x n=n from ae (by omega)];exact⟨oD h0,h1⟩);have c0:=oH (show Ie p c b x false false from⟨fun h=>Bool.noConfusion h,fun h=>Bool.noConfusion h⟩);clear h0 h1;go_wp2_with fail;go_loopg [18] x.args.length (fun g s wr=>∃k:Nat,k≤x.args.length∧g=x.args.length-k∧s=.int .i64 k∧aa All W0 wr∧∀(i:Nat) a,i<k→x.args[i]? =some a→0≤a∧a<b.vars);·exact⟨0,by omega,by omega,rfl,kR,fun i a hi=>by omega⟩
 obtain⟨k,hk,rfl,rfl,j,l⟩:=hrel;clear x0 x1 x2 x3 x4 x5 x6 x7 x8 b0 b1 b2;have R:=I.2.2.2.2.2.kept j trivial;have Y:=I.2.2.2.2.1.kept j trivial;obtain⟨x0,x1,x2,x3,x4,x5,x6,x7,x8⟩:=R.c9;obtain⟨b0,b1,b2⟩:=Y.c3;clear R Y;by_cases b5:k<x.args.length;·(
 obtain⟨y,Z⟩:=eG b5;obtain⟨yb,yo,cc,rfl,b6,d9,rfl,b7⟩:=bn (HP.2.1 wr (I.2.1.trans j)) Z;have o:=J3 j l Z;clear j l Z b7 b6;by_cases g0:y<0
 ·have q0:decide (y<0)=true:=by simpa using g0
  have HN:=oH (show¬aT p c b next x from fun h=>by have:=(aC.1 (HI.1.1 h)).2.2.2.1 y (mG o.2.2);omega);clear g0;go_wp2_with fail;go_quiet (fail);go_wp2_with fail;go_ret2;exact .no HN.out (I.2.1.trans (o.1.drewN _))
 have q0:decide (y<0)=false:=by simpa using g0
 by_cases g1:b.vars≤y
 ·have q1:decide (b.vars≤y)=true:=by simpa using g1
  have HN:=oH (show¬aT p c b next x from fun h=>by have:=(aC.1 (HI.1.1 h)).2.2.2.1 y (mG o.2.2);omega);clear g0 g1;go_wp2_with fail;go_quiet (fail);go_wp2_with fail;go_ret2;exact .no HN.out (I.2.1.trans (o.1.drewN _))
 have q1:decide (b.vars≤y)=false:=by simpa using g1
 have HY:=oH (show 0≤y∧y<b.vars by omega);clear g0 g1;go_wp2_with fail;go_quiet (fail);go_wp2_with fail;go_roundg (x.args.length-(k+1))
 ·refine⟨k+1,by omega,rfl,by go_num,o.1.drewN _,fun i z hi hz=>?_⟩
  by_cases e:i=k;·subst e;rw[o.2.2] at hz;cases hz;exact HY.out
  exact o.2.1 i z (by omega) hz
 omega)
 obtain rfl:k=x.args.length:=by omega
 have a7:∀a∈x.args,0≤a∧a<b.vars:=fun y Z=>by obtain⟨i,hi⟩:=cY.1 Z;exact l i y (lS.1 hi).1 hi
 have e0:=oH a7;clear l a7;go_wp2_with fail;go_loopg [19] x.Nh.length (fun g s wr=>∃k:Nat,k≤x.Nh.length∧g=x.Nh.length-k∧s=.int .i64 k∧aa All W0 wr∧∀(i:Nat) a,i<k→x.Nh[i]? =some a→0≤a∧a<(b.Ng.length:Int));·exact⟨0,by omega,by omega,rfl,j,fun i a hi=>by omega⟩
 obtain⟨k,hk,rfl,rfl,j,l⟩:=hrel;clear x0 x1 x2 x3 x4 x5 x6 x7 x8 b0 b1 b2;have R:=I.2.2.2.2.2.kept j trivial;have Y:=I.2.2.2.2.1.kept j trivial;obtain⟨x0,x1,x2,x3,x4,x5,x6,x7,x8⟩:=R.c9;obtain⟨b0,b1,b2⟩:=Y.c3;clear R Y;by_cases b5:k<x.Nh.length;·(
 obtain⟨y,Z⟩:=eG b5;obtain⟨yb,yo,cc,rfl,b6,d9,rfl,b7⟩:=bn (HP.2.2.1 wr (I.2.1.trans j)) Z;have o:=J3 j l Z;clear j l Z b7 b6;by_cases g0:y<0
 ·have q0:decide (y<0)=true:=by simpa using g0
  have HN:=oH (show¬aT p c b next x from fun h=>by have:=(aC.1 (HI.1.1 h)).2.2.2.2 y (mG o.2.2);omega);clear g0;go_wp2_with fail;go_quiet (fail);go_wp2_with fail;go_ret2;exact .no HN.out (I.2.1.trans (o.1.drewN _))
 have q0:decide (y<0)=false:=by simpa using g0
 by_cases g1:(b.Ng.length:Int)≤y
 ·have q1:decide ((b.Ng.length:Int)≤y)=true:=by simpa using g1
  have HN:=oH (show¬aT p c b next x from fun h=>by have:=(aC.1 (HI.1.1 h)).2.2.2.2 y (mG o.2.2);omega);clear g0 g1;go_wp2_with fail;go_quiet (fail);go_wp2_with fail;go_ret2;exact .no HN.out (I.2.1.trans (o.1.drewN _))
 have q1:decide ((b.Ng.length:Int)≤y)=false:=by simpa using g1
 have HY:=oH (show 0≤y∧y<(b.Ng.length:Int) by omega);clear g0 g1;go_wp2_with fail;go_quiet (fail);go_wp2_with fail;go_roundg (x.Nh.length-(k+1))
 ·refine⟨k+1,by omega,rfl,by go_num,o.1.drewN _,fun i z hi hz=>?_⟩
  by_cases e:i=k;·subst e;rw[o.2.2] at hz;cases hz;exact HY.out
  exact o.2.1 i z (by omega) hz
 omega)
 obtain rfl:k=x.Nh.length:=by omega
 have a8:∀a∈x.Nh,0≤a∧a<(b.Ng.length:Int):=fun y Z=>by obtain⟨i,hi⟩:=cY.1 Z;exact l i y (lS.1 hi).1 hi
 have e1:=oH (show aT p c b next x from HI.1.2 (aC.2 ⟨c9.out,c0.out,d8.out,e0.out,a8⟩));have e3:=oH j;clear j l a8;go_wp2_with fail;go_ret2;exact⟨next,true,rfl,(av e1.out).symm,fun _=>by rw[HI.2.2];rfl,I.2.1.trans e3.out⟩)
 have v1:((x.args.length:Int) !=n)=true:=by rw[bne_iff_ne];omega
 have HN:=oH (show¬aT p c b next x from fun h=>by have C:=J.out;have h:=aC.1 (HI.1.1 h);have:=h.2.2.1;unfold mM at this;rw[ae (show¬x.kind=3 by omega),show jG c x n=n from ae (by omega)] at this;exact h1 this.2);clear h1;go_wp2_with fail;go_ret2;exact .no HN.out I.2.1)
 have v0:((x.Nh.length:Int) !=0)=true:=by rw[bne_iff_ne];omega
 have HN:=oH (show¬aT p c b next x from fun h=>by have C:=J.out;have h:=aC.1 (HI.1.1 h);have:=h.2.2.1;unfold mM at this;rw[ae (show¬x.kind=3 by omega)] at this;rw[this.1] at h0;exact h0 rfl);clear h0;go_wp2_with fail;go_ret2;exact .no HN.out I.2.1
theorem uv {k:Nat}{n:Int}{d r a:Bool}(h:cw k=some (n,d,r,a)):(k=1∧d=true∧r=false∧a=false)∨(k=2∧d=true∧r=false∧a=false)∨(k=3∧d=true∧r=false∧a=false)∨(k=7∧d=true∧r=true∧a=false)∨((k=4∨k=5∨k=8∨k=10)∧d=true∧r=true∧a=false)∨((k=6∨k=9∨k=11)∧d=false∧r=true∧a=false)∨(k=12∧d=false∧r=true∧a=true)∨(k=13∧d=false∧r=false∧a=false):=by unfold cw at h;split at h<;>first|(cases h;done)|(cases h;simp)
theorem Hd (S:Nat→Prop)(pv cv bv _:Value)(p:aH)(c:aE)(b:aw)(x:bz)(next:Int)(w:World)(hp:dJ S w pv p)(hc:cQ S w cv c)(hb:bW S w bv b.Ng)(_I:aV b.params)(_J:aV b.vars)(a5 a6:Value)(l:aK S w a5 x.args)(o:aK S w a6 x.Nh)(C:jx x)
 (R:cw x.kind=none)
 (_: -1≤next∧next<4611686018427387904):
 Calls prog 65 #[pv,cv,.agg #[.int .i64 b.params,.int .i64 b.vars,bv],.agg #[.int .u8 x.kind,.int .u8 x.op,.int .i64 x.dst,.int .i64 x.ref,.int .i64 x.Ni,a5,a6,.int .i64 x.num,.int .i64 x.Nj],.int .i64 next] w (fl p c b next x w):=by
 obtain⟨a1,n1,a2,n2,a3,n3,a4,n4,A1,c1,A2,c2,B1,d1,ua,uc,va,vc,W0,rfl,rfl,rfl,rfl,rfl,⟨l1,l2,l3,l4,l5,l6,m1,m2,m3,m4,m5,m6,u1,u2,u3,v1,v2,v3⟩,⟨p0,p1,p2,p3,p4,k0,k1,k2,b0,b1,b2,x0,x1,x2,x3,x4,x5,x6,x7,x8⟩,HW,HP⟩:=eO hp hc hb l o C;unfold maxLen at*;clear hp hc hb l o;have a7:=C.kind;have a8:=C.op;clear C;unfold aV at _I _J;go_enter func65,ntmps65;go_upto_region 1 with fail;rw[←HW.1];have j:=df x.kind W0;unfold bH at j;rw[R] at j;have HN:=oH (Dz (p:=p) (c:=c) (b:=b) (next:=next) R);have Z:=oH j;clear j R;go_wp2_with fail;refine Z.out.mono ?_;rintro e w1 ⟨rfl,rfl⟩;go_upto_region 2 with fail;simp only[List.append];go_wp2_with fail;go_ret2;exact .no HN.out HW.2.1
theorem JI (S:Nat→Prop)(Z cv bv xv:Value)(p:aH)(c:aE)(b:aw)(x:bz)(next:Int)(w:World)(hp:dJ S w Z p)(hc:cQ S w cv c)(hb:bW S w bv b.Ng)(l:aV b.params)(o:aV b.vars)(a5 a6:Value)(C:aK S w a5 x.args)(I:aK S w a6 x.Nh)(hx:jx x)
 (j: -1≤next∧next<4611686018427387904):
 Calls prog 65 #[Z,cv,.agg #[.int .i64 b.params,.int .i64 b.vars,bv],.agg #[.int .u8 x.kind,.int .u8 x.op,.int .i64 x.dst,.int .i64 x.ref,.int .i64 x.Ni,a5,a6,.int .i64 x.num,.int .i64 x.Nj],.int .i64 next] w (fl p c b next x w):=by
 by_cases a7:∀n d r a,cw x.kind=some (n,d,r,a)→qg x next d r a;·(
 rcases Y:cw x.kind with _|⟨n,d,r,a⟩;·exact Hd S Z cv bv xv p c b x next w hp hc hb l o a5 a6 C I hx Y j
 have a1:=a7 n d r a Y;rcases uv Y with ⟨J,rfl,rfl,rfl⟩|⟨J,rfl,rfl,rfl⟩|⟨J,rfl,rfl,rfl⟩|⟨J,rfl,rfl,rfl⟩|⟨J,rfl,rfl,rfl⟩|⟨J,rfl,rfl,rfl⟩|⟨J,rfl,rfl,rfl⟩|⟨J,rfl,rfl,rfl⟩;·exact LB S Z cv bv xv p c b x next w hp hc hb l o a5 a6 C I hx n Y J a1 j
 ·exact LC S Z cv bv xv p c b x next w hp hc hb l o a5 a6 C I hx n Y J a1 j
 ·exact LD S Z cv bv xv p c b x next w hp hc hb l o a5 a6 C I hx n Y J a1 j
 ·exact LF S Z cv bv xv p c b x next w hp hc hb l o a5 a6 C I hx n Y J a1 j
 ·exact Ly S Z cv bv xv p c b x next w hp hc hb l o a5 a6 C I hx n Y J a1 j
 ·exact Lz S Z cv bv xv p c b x next w hp hc hb l o a5 a6 C I hx n Y J a1 j
 ·exact JJ S Z cv bv xv p c b x next w hp hc hb l o a5 a6 C I hx n Y J a1 j
 exact JK S Z cv bv xv p c b x next w hp hc hb l o a5 a6 C I hx n Y J a1 j)
 have:∃n d r a,cw x.kind=some (n,d,r,a)∧¬qg x next d r a:=by(
 by_cases h:∃n d r a,cw x.kind=some (n,d,r,a)∧¬qg x next d r a;·exact h
 exact absurd (fun n d r a Y=>by
  by_cases h':qg x next d r a;·exact h'
  exact absurd ⟨n,d,r,a,Y,h'⟩ h) a7)
 obtain⟨n,d,r,a,Y,R⟩:=this;rcases xl Y with ⟨J,rfl,rfl,rfl⟩|⟨J,rfl,rfl,rfl⟩|⟨J,rfl,rfl,rfl⟩|⟨J,rfl,rfl,rfl⟩|⟨J,rfl,rfl,rfl⟩|⟨J,rfl,rfl,rfl⟩|⟨J,rfl,rfl,rfl⟩;·exact GW S Z cv bv xv p c b x next w hp hc hb l o a5 a6 C I hx n Y J R j
 ·exact GX S Z cv bv xv p c b x next w hp hc hb l o a5 a6 C I hx n Y J R j
 ·exact GY S Z cv bv xv p c b x next w hp hc hb l o a5 a6 C I hx n Y J R j
 ·exact GZ S Z cv bv xv p c b x next w hp hc hb l o a5 a6 C I hx n Y J R j
 ·exact Ha S Z cv bv xv p c b x next w hp hc hb l o a5 a6 C I hx n Y J R j
 ·exact Hb S Z cv bv xv p c b x next w hp hc hb l o a5 a6 C I hx n Y J R j
 exact Hc S Z cv bv xv p c b x next w hp hc hb l o a5 a6 C I hx n Y J R j
end Go.Proofs.YtceloincoomjeaaGreatDoor
