/- Part 39 of the proof of CallsTo (its last part says what is proved). No condition. -/
import Derived.Test.YtceloincoomjeaaGreatDoorK37
namespace Go.Proofs.YtceloincoomjeaaGreatDoor
set_option maxRecDepth 100000
set_option maxHeartbeats 8000000
open Go.RowKit Go.Proofs.Tryz
theorem LB (S:Nat→Prop)(pv cv bv _:Value)(p:aH)(c:aE)(b:aw)(x:bz)(next:Int)(w:World)(hp:dJ S w pv p)(hc:cQ S w cv c)(hb:bW S w bv b.Ng)(_c4:aV b.params)(_c6:aV b.vars)(a5 a6:Value)(b8:aK S w a5 x.args)(b9:aK S w a6 x.Nh)(hx:jx x)
 (n:Int) (hs:cw x.kind=some (n,true,false,false)) (C:x.kind=1) (b4:qg x next true false false)
 (c7: -1≤next∧next<4611686018427387904):
 Calls prog 65 #[pv,cv,.agg #[.int .i64 b.params,.int .i64 b.vars,bv],.agg #[.int .u8 x.kind,.int .u8 x.op,.int .i64 x.dst,.int .i64 x.ref,.int .i64 x.Ni,a5,a6,.int .i64 x.num,.int .i64 x.Nj],.int .i64 next] w (fl p c b next x w):=by
 have k1:=wK x.kind 1 (by omega);have k2:=mK x.kind 2 (by omega);have e2:=nK x.kind 2 (by omega);have q:=b4;have c1:=q.1;simp only[if_true] at c1;have s0:(x.dst !=next)=false:=by simp;omega
 have c2:=q.2.1 rfl;have s1:(x.ref !=0)=false:=by simp;omega
 have c3:=q.2.2.1 rfl;have s2:(x.Ni !=0)=false:=by simp;omega
 have c5:=q.2.2.2.2.1 (by omega);have s4:=wK x.op 0 (by omega);have c8:=oH b4;have J:=oH C;clear C b4 q c1 c2 c3 c5;obtain⟨a1,n1,a2,n2,a3,n3,a4,n4,A1,c1,A2,c2,B1,d1,ua,uc,va,vc,W0,rfl,rfl,rfl,rfl,rfl,⟨l1,l2,l3,l4,l5,l6,m1,m2,m3,m4,m5,m6,u1,u2,u3,v1,v2,v3⟩,⟨p0,p1,p2,p3,p4,k0,k1,k2,b0,b1,b2,x0,x1,x2,x3,x4,x5,x6,x7,x8⟩,I,HP⟩:=eO hp hc hb b8 b9 hx;unfold maxLen at*;clear hp hc hb b8 b9;have e3:=hx.kind;have h2:=hx.op;clear hx;unfold aV at _c4 _c6;go_enter func65,ntmps65;go_upto_region 1 with fail;rw[←I.1];have b3:=df x.kind W0;unfold bH at b3;rw[hs] at b3;have HI:=J3 (dY (p:=p) (c:=c) (b:=b) (next:=next) hs) hs (fu hs);have c9:=oH b3;clear b3 hs;go_wp2_with fail;refine c9.out.mono ?_;rintro e w1 ⟨rfl,rfl⟩;simp only;go_upto_region 2 with fail;simp only[List.append];have HM:=oH (show cW p c b x.kind=b.Ng.length from by rw[J.out]<;>rfl);go_upto_block 0 with fail;have t7:((x.kind:Int)==7)=false:=by have C:=J.out;rw[bE];omega
 have t3:((x.kind:Int)==3)=false:=by have C:=J.out;rw[bE];omega
 have e4:((x.kind:Int)==4)=false:=by have C:=J.out;rw[bE];omega
 have e5:((x.kind:Int)==5)=false:=by have C:=J.out;rw[bE];omega
 have e6:((x.kind:Int)==6)=false:=by have C:=J.out;rw[bE];omega
 have e7:((x.kind:Int)==7)=false:=by have C:=J.out;rw[bE];omega
 have e8:((x.kind:Int)==8)=false:=by have C:=J.out;rw[bE];omega
 have e9:((x.kind:Int)==9)=false:=by have C:=J.out;rw[bE];omega
 have h3:((x.kind:Int)==10)=false:=by have C:=J.out;rw[bE];omega
 by_cases h0:x.Nh.length=0;·(
 have v0:((x.Nh.length:Int) !=0)=false:=by rw[gj];omega
 by_cases h1:(x.args.length:Int)=n;·(
 have v1:((x.args.length:Int) !=n)=false:=by rw[gj];omega
 have d7:=oH (show mM c x n from by have C:=J.out;unfold mM;rw[ae (show¬x.kind=3 by omega),show jG c x n=n from ae (by omega)];exact⟨oD h0,h1⟩);have c0:=oH (show Ie p c b x false false from⟨fun h=>Bool.noConfusion h,fun h=>Bool.noConfusion h⟩);clear h0 h1;go_wp2_with fail;go_loopg [18] x.args.length (fun g s wr=>∃k:Nat,k≤x.args.length∧g=x.args.length-k∧s=.int .i64 k∧aa All W0 wr∧∀(i:Nat) a,i<k→x.args[i]? =some a→0≤a∧a<b.vars);·exact⟨0,by omega,by omega,rfl,kR,fun i a hi=>by omega⟩
 obtain⟨k,hk,rfl,rfl,j,l⟩:=hrel;clear x0 x1 x2 x3 x4 x5 x6 x7 x8 b0 b1 b2;have R:=I.2.2.2.2.2.kept j trivial;have Y:=I.2.2.2.2.1.kept j trivial;obtain⟨x0,x1,x2,x3,x4,x5,x6,x7,x8⟩:=R.c9;obtain⟨b0,b1,b2⟩:=Y.c3;clear R Y;by_cases b5:k<x.args.length;·(
 obtain⟨y,Z⟩:=eG b5;obtain⟨yb,yo,cc,rfl,b6,d8,rfl,b7⟩:=bn (HP.2.1 wr (I.2.1.trans j)) Z;have o:=J3 j l Z;clear j l Z b7 b6;by_cases g0:y<0
 ·have q0:decide (y<0)=true:=by simpa using g0
  have HN:=oH (show¬aT p c b next x from fun h=>by have:=(aC.1 (HI.1.1 h)).2.2.2.1 y (mG o.2.2);omega);clear g0;go_wp2_with fail;go_quiet (fail);go_wp2_with fail;go_ret2;exact .no HN.out (I.2.1.trans (o.1.drewN _))
 have q0:decide (y<0)=false:=by simpa using g0
 by_cases g1:b.vars≤y
 ·have q1:decide (b.vars≤y)=true:=by simpa using g1
  have HN:=oH (show¬aT p c b next x from fun h=>by have:=(aC.1 (HI.1.1 h)).2.2.2.1 y (mG o.2.2);omega);clear g0 g1;go_wp2_with fail;go_quiet (fail);go_wp2_with fail;go_ret2;exact .no HN.out (I.2.1.trans (o.1.drewN _))
 have q1:decide (b.vars≤y)=false:=by simpa using g1
 have HY:=oH (show 0≤y∧y<b.vars by omega);clear g0 g1;go_wp2_with fail;go_quiet (fail);go_wp2_with fail;go_roundg (x.args.length-(k+1))
 ·refine⟨k+1,by omega,rfl,by go_num,o.1.drewN _,fun i z hi hz=>?_⟩
  by_cases e:i=k;·subst e;rw[o.2.2] at hz;cases hz;exact HY.out
  exact o.2.1 i z (by omega) hz
 omega)
 obtain rfl:k=x.args.length:=by omega
 have a7:∀a∈x.args,0≤a∧a<b.vars:=fun y Z=>by obtain⟨i,hi⟩:=cY.1 Z;exact l i y (lS.1 hi).1 hi
 have d9:=oH a7;clear l a7;go_wp2_with fail;go_loopg [19] x.Nh.length (fun g s wr=>∃k:Nat,k≤x.Nh.length∧g=x.Nh.length-k∧s=.int .i64 k∧aa All W0 wr∧∀(i:Nat) a,i<k→x.Nh[i]? =some a→0≤a∧a<(b.Ng.length:Int));·exact⟨0,by omega,by omega,rfl,j,fun i a hi=>by omega⟩
 obtain⟨k,hk,rfl,rfl,j,l⟩:=hrel;clear x0 x1 x2 x3 x4 x5 x6 x7 x8 b0 b1 b2;have R:=I.2.2.2.2.2.kept j trivial;have Y:=I.2.2.2.2.1.kept j trivial;obtain⟨x0,x1,x2,x3,x4,x5,x6,x7,x8⟩:=R.c9;obtain⟨b0,b1,b2⟩:=Y.c3;clear R Y;by_cases b5:k<x.Nh.length;·(
 obtain⟨y,Z⟩:=eG b5;obtain⟨yb,yo,cc,rfl,b6,d8,rfl,b7⟩:=bn (HP.2.2.1 wr (I.2.1.trans j)) Z;have o:=J3 j l Z;clear j l Z b7 b6;by_cases g0:y<0
 ·have q0:decide (y<0)=true:=by simpa using g0
  have HN:=oH (show¬aT p c b next x from fun h=>by have:=(aC.1 (HI.1.1 h)).2.2.2.2 y (mG o.2.2);omega);clear g0;go_wp2_with fail;go_quiet (fail);go_wp2_with fail;go_ret2;exact .no HN.out (I.2.1.trans (o.1.drewN _))
 have q0:decide (y<0)=false:=by simpa using g0
 by_cases g1:(b.Ng.length:Int)≤y
 ·have q1:decide ((b.Ng.length:Int)≤y)=true:=by simpa using g1
  have HN:=oH (show¬aT p c b next x from fun h=>by have:=(aC.1 (HI.1.1 h)).2.2.2.2 y (mG o.2.2);omega);clear g0 g1;go_wp2_with fail;go_quiet (fail);go_wp2_with fail;go_ret2;exact .no HN.out (I.2.1.trans (o.1.drewN _))
 have q1:decide ((b.Ng.length:Int)≤y)=false:=by simpa using g1
 have HY:=oH (show 0≤y∧y<(b.Ng.length:Int) by omega);clear g0 g1;go_wp2_with fail;go_quiet (fail);go_wp2_with fail;go_roundg (x.Nh.length-(k+1))
 ·refine⟨k+1,by omega,rfl,by go_num,o.1.drewN _,fun i z hi hz=>?_⟩
  by_cases e:i=k;·subst e;rw[o.2.2] at hz;cases hz;exact HY.out
  exact o.2.1 i z (by omega) hz
 omega)
 obtain rfl:k=x.Nh.length:=by omega
 have a8:∀a∈x.Nh,0≤a∧a<(b.Ng.length:Int):=fun y Z=>by obtain⟨i,hi⟩:=cY.1 Z;exact l i y (lS.1 hi).1 hi
 have e0:=oH (show aT p c b next x from HI.1.2 (aC.2 ⟨c8.out,c0.out,d7.out,d9.out,a8⟩));have e1:=oH j;clear j l a8;go_wp2_with fail;go_ret2;exact⟨next+1,true,rfl,(av e0.out).symm,fun _=>by rw[HI.2.2];rfl,I.2.1.trans e1.out⟩)
 have v1:((x.args.length:Int) !=n)=true:=by rw[bne_iff_ne];omega
 have HN:=oH (show¬aT p c b next x from fun h=>by have C:=J.out;have h:=aC.1 (HI.1.1 h);have:=h.2.2.1;unfold mM at this;rw[ae (show¬x.kind=3 by omega),show jG c x n=n from ae (by omega)] at this;exact h1 this.2);clear h1;go_wp2_with fail;go_ret2;exact .no HN.out I.2.1)
 have v0:((x.Nh.length:Int) !=0)=true:=by rw[bne_iff_ne];omega
 have HN:=oH (show¬aT p c b next x from fun h=>by have C:=J.out;have h:=aC.1 (HI.1.1 h);have:=h.2.2.1;unfold mM at this;rw[ae (show¬x.kind=3 by omega)] at this;rw[this.1] at h0;exact h0 rfl);clear h0;go_wp2_with fail;go_ret2;exact .no HN.out I.2.1
theorem LC (S:Nat→Prop)(pv cv bv _:Value)(p:aH)(c:aE)(b:aw)(x:bz)(next:Int)(w:World)(hp:dJ S w pv p)(hc:cQ S w cv c)(hb:bW S w bv b.Ng)(_c5:aV b.params)(_c7:aV b.vars)(a5 a6:Value)(b8:aK S w a5 x.args)(b9:aK S w a6 x.Nh)(hx:jx x)
 (n:Int) (hs:cw x.kind=some (n,true,false,false)) (C:x.kind=2) (b4:qg x next true false false)
 (c8: -1≤next∧next<4611686018427387904):
 Calls prog 65 #[pv,cv,.agg #[.int .i64 b.params,.int .i64 b.vars,bv],.agg #[.int .u8 x.kind,.int .u8 x.op,.int .i64 x.dst,.int .i64 x.ref,.int .i64 x.Ni,a5,a6,.int .i64 x.num,.int .i64 x.Nj],.int .i64 next] w (fl p c b next x w):=by
 have k1:=mK x.kind 1 (by omega);have k2:=wK x.kind 2 (by omega);have e2:=yK x.kind 2 (by omega);have q:=b4;have c1:=q.1;simp only[if_true] at c1;have s0:(x.dst !=next)=false:=by simp;omega
 have c2:=q.2.1 rfl;have s1:(x.ref !=0)=false:=by simp;omega
 have c3:=q.2.2.1 rfl;have s2:(x.Ni !=0)=false:=by simp;omega
 have c4:=q.2.2.2.1 (by omega);have s3:(x.num !=0)=false:=by simp;omega
 have c6:=q.2.2.2.2.2 (by omega);have s5:decide ((x.op:Int)<1)=false:=by simp;omega
 have s6:decide ((12:Int)<(x.op:Int))=false:=by simp;omega
 have c9:=oH b4;have J:=oH C;clear C b4 q c1 c2 c3 c4 c6;obtain⟨a1,n1,a2,n2,a3,n3,a4,n4,A1,c1,A2,c2,B1,d1,ua,uc,va,vc,W0,rfl,rfl,rfl,rfl,rfl,⟨l1,l2,l3,l4,l5,l6,m1,m2,m3,m4,m5,m6,u1,u2,u3,v1,v2,v3⟩,⟨p0,p1,p2,p3,p4,k0,k1,k2,b0,b1,b2,x0,x1,x2,x3,x4,x5,x6,x7,x8⟩,I,HP⟩:=eO hp hc hb b8 b9 hx;unfold maxLen at*;clear hp hc hb b8 b9;have h2:=hx.kind;have h3:=hx.op;clear hx;unfold aV at _c5 _c7;go_enter func65,ntmps65;go_upto_region 1 with fail;rw[←I.1];have b3:=df x.kind W0;unfold bH at b3;rw[hs] at b3;have HI:=J3 (dY (p:=p) (c:=c) (b:=b) (next:=next) hs) hs (fu hs);have d7:=oH b3;clear b3 hs;go_wp2_with fail;refine d7.out.mono ?_;rintro e w1 ⟨rfl,rfl⟩;simp only;go_upto_region 2 with fail;simp only[List.append];have HM:=oH (show cW p c b x.kind=b.Ng.length from by rw[J.out]<;>rfl);go_upto_block 0 with fail;have t7:((x.kind:Int)==7)=false:=by have C:=J.out;rw[bE];omega
 have t3:((x.kind:Int)==3)=false:=by have C:=J.out;rw[bE];omega
 have e4:((x.kind:Int)==4)=false:=by have C:=J.out;rw[bE];omega
 have e5:((x.kind:Int)==5)=false:=by have C:=J.out;rw[bE];omega
 have e6:((x.kind:Int)==6)=false:=by have C:=J.out;rw[bE];omega
 have e7:((x.kind:Int)==7)=false:=by have C:=J.out;rw[bE];omega
 have e8:((x.kind:Int)==8)=false:=by have C:=J.out;rw[bE];omega
 have e9:((x.kind:Int)==9)=false:=by have C:=J.out;rw[bE];omega
 have h4:((x.kind:Int)==10)=false:=by have C:=J.out;rw[bE];omega
 by_cases h0:x.Nh.length=0;·(
 have v0:((x.Nh.length:Int) !=0)=false:=by rw[gj];omega
 by_cases h1:(x.args.length:Int)=n;·(
 have v1:((x.args.length:Int) !=n)=false:=by rw[gj];omega
 have d8:=oH (show mM c x n from by have C:=J.out;unfold mM;rw[ae (show¬x.kind=3 by omega),show jG c x n=n from ae (by omega)];exact⟨oD h0,h1⟩);have c0:=oH (show Ie p c b x false false from⟨fun h=>Bool.noConfusion h,fun h=>Bool.noConfusion h⟩);clear h0 h1;go_wp2_with fail;go_loopg [18] x.args.length (fun g s wr=>∃k:Nat,k≤x.args.length∧g=x.args.length-k∧s=.int .i64 k∧aa All W0 wr∧∀(i:Nat) a,i<k→x.args[i]? =some a→0≤a∧a<b.vars);·exact⟨0,by omega,by omega,rfl,kR,fun i a hi=>by omega⟩
 obtain⟨k,hk,rfl,rfl,j,l⟩:=hrel;clear x0 x1 x2 x3 x4 x5 x6 x7 x8 b0 b1 b2;have R:=I.2.2.2.2.2.kept j trivial;have Y:=I.2.2.2.2.1.kept j trivial;obtain⟨x0,x1,x2,x3,x4,x5,x6,x7,x8⟩:=R.c9;obtain⟨b0,b1,b2⟩:=Y.c3;clear R Y;by_cases b5:k<x.args.length;·(
 obtain⟨y,Z⟩:=eG b5;obtain⟨yb,yo,cc,rfl,b6,d9,rfl,b7⟩:=bn (HP.2.1 wr (I.2.1.trans j)) Z;have o:=J3 j l Z;clear j l Z b7 b6;by_cases g0:y<0
 ·have q0:decide (y<0)=true:=by simpa using g0
  have HN:=oH (show¬aT p c b next x from fun h=>by have:=(aC.1 (HI.1.1 h)).2.2.2.1 y (mG o.2.2);omega);clear g0;go_wp2_with fail;go_quiet (fail);go_wp2_with fail;go_ret2;exact .no HN.out (I.2.1.trans (o.1.drewN _))
 have q0:decide (y<0)=false:=by simpa using g0
 by_cases g1:b.vars≤y
 ·have q1:decide (b.vars≤y)=true:=by simpa using g1
  have HN:=oH (show¬aT p c b next x from fun h=>by have:=(aC.1 (HI.1.1 h)).2.2.2.1 y (mG o.2.2);omega);clear g0 g1;go_wp2_with fail;go_quiet (fail);go_wp2_with fail;go_ret2;exact .no HN.out (I.2.1.trans (o.1.drewN _))
 have q1:decide (b.vars≤y)=false:=by simpa using g1
 have HY:=oH (show 0≤y∧y<b.vars by omega);clear g0 g1;go_wp2_with fail;go_quiet (fail);go_wp2_with fail;go_roundg (x.args.length-(k+1))
 ·refine⟨k+1,by omega,rfl,by go_num,o.1.drewN _,fun i z hi hz=>?_⟩
  by_cases e:i=k;·subst e;rw[o.2.2] at hz;cases hz;exact HY.out
  exact o.2.1 i z (by omega) hz
 omega)
 obtain rfl:k=x.args.length:=by omega
 have a7:∀a∈x.args,0≤a∧a<b.vars:=fun y Z=>by obtain⟨i,hi⟩:=cY.1 Z;exact l i y (lS.1 hi).1 hi
 have e0:=oH a7;clear l a7;go_wp2_with fail;go_loopg [19] x.Nh.length (fun g s wr=>∃k:Nat,k≤x.Nh.length∧g=x.Nh.length-k∧s=.int .i64 k∧aa All W0 wr∧∀(i:Nat) a,i<k→x.Nh[i]? =some a→0≤a∧a<(b.Ng.length:Int));·exact⟨0,by omega,by omega,rfl,j,fun i a hi=>by omega⟩
 obtain⟨k,hk,rfl,rfl,j,l⟩:=hrel;clear x0 x1 x2 x3 x4 x5 x6 x7 x8 b0 b1 b2;have R:=I.2.2.2.2.2.kept j trivial;have Y:=I.2.2.2.2.1.kept j trivial;obtain⟨x0,x1,x2,x3,x4,x5,x6,x7,x8⟩:=R.c9;obtain⟨b0,b1,b2⟩:=Y.c3;clear R Y;by_cases b5:k<x.Nh.length;·(
 obtain⟨y,Z⟩:=eG b5;obtain⟨yb,yo,cc,rfl,b6,d9,rfl,b7⟩:=bn (HP.2.2.1 wr (I.2.1.trans j)) Z;have o:=J3 j l Z;clear j l Z b7 b6;by_cases g0:y<0
 ·have q0:decide (y<0)=true:=by simpa using g0
  have HN:=oH (show¬aT p c b next x from fun h=>by have:=(aC.1 (HI.1.1 h)).2.2.2.2 y (mG o.2.2);omega);clear g0;go_wp2_with fail;go_quiet (fail);go_wp2_with fail;go_ret2;exact .no HN.out (I.2.1.trans (o.1.drewN _))
 have q0:decide (y<0)=false:=by simpa using g0
 by_cases g1:(b.Ng.length:Int)≤y
 ·have q1:decide ((b.Ng.length:Int)≤y)=true:=by simpa using g1
  have HN:=oH (show¬aT p c b next x from fun h=>by have:=(aC.1 (HI.1.1 h)).2.2.2.2 y (mG o.2.2);omega);clear g0 g1;go_wp2_with fail;go_quiet (fail);go_wp2_with fail;go_ret2;exact .no HN.out (I.2.1.trans (o.1.drewN _))
 have q1:decide ((b.Ng.length:Int)≤y)=false:=by simpa using g1
 have HY:=oH (show 0≤y∧y<(b.Ng.length:Int) by omega);clear g0 g1;go_wp2_with fail;go_quiet (fail);go_wp2_with fail;go_roundg (x.Nh.length-(k+1))
 ·refine⟨k+1,by omega,rfl,by go_num,o.1.drewN _,fun i z hi hz=>?_⟩
  by_cases e:i=k;·subst e;rw[o.2.2] at hz;cases hz;exact HY.out
  exact o.2.1 i z (by omega) hz
 omega)
 obtain rfl:k=x.Nh.length:=by omega
 have a8:∀a∈x.Nh,0≤a∧a<(b.Ng.length:Int):=fun y Z=>by obtain⟨i,hi⟩:=cY.1 Z;exact l i y (lS.1 hi).1 hi
 have e1:=oH (show aT p c b next x from HI.1.2 (aC.2 ⟨c9.out,c0.out,d8.out,e0.out,a8⟩));have e3:=oH j;clear j l a8;go_wp2_with fail;go_ret2;exact⟨next+1,true,rfl,(av e1.out).symm,fun _=>by rw[HI.2.2];rfl,I.2.1.trans e3.out⟩)
 have v1:((x.args.length:Int) !=n)=true:=by rw[bne_iff_ne];omega
 have HN:=oH (show¬aT p c b next x from fun h=>by have C:=J.out;have h:=aC.1 (HI.1.1 h);have:=h.2.2.1;unfold mM at this;rw[ae (show¬x.kind=3 by omega),show jG c x n=n from ae (by omega)] at this;exact h1 this.2);clear h1;go_wp2_with fail;go_ret2;exact .no HN.out I.2.1)
 have v0:((x.Nh.length:Int) !=0)=true:=by rw[bne_iff_ne];omega
 have HN:=oH (show¬aT p c b next x from fun h=>by have C:=J.out;have h:=aC.1 (HI.1.1 h);have:=h.2.2.1;unfold mM at this;rw[ae (show¬x.kind=3 by omega)] at this;rw[this.1] at h0;exact h0 rfl);clear h0;go_wp2_with fail;go_ret2;exact .no HN.out I.2.1
theorem LD (S:Nat→Prop)(pv cv bv _:Value)(p:aH)(c:aE)(b:aw)(x:bz)(next:Int)(w:World)(hp:dJ S w pv p)(hc:cQ S w cv c)(hb:bW S w bv b.Ng)(_c6:aV b.params)(_c7:aV b.vars)(a5 a6:Value)(b8:aK S w a5 x.args)(b9:aK S w a6 x.Nh)(hx:jx x)
 (n:Int) (hs:cw x.kind=some (n,true,false,false)) (o:x.kind=3) (b4:qg x next true false false)
 (c8: -1≤next∧next<4611686018427387904):
 Calls prog 65 #[pv,cv,.agg #[.int .i64 b.params,.int .i64 b.vars,bv],.agg #[.int .u8 x.kind,.int .u8 x.op,.int .i64 x.dst,.int .i64 x.ref,.int .i64 x.Ni,a5,a6,.int .i64 x.num,.int .i64 x.Nj],.int .i64 next] w (fl p c b next x w):=by
 have k1:=mK x.kind 1 (by omega);have k2:=mK x.kind 2 (by omega);have e2:=nK x.kind 2 (by omega);have q:=b4;have c1:=q.1;simp only[if_true] at c1;have s0:(x.dst !=next)=false:=by simp;omega
 have c2:=q.2.1 rfl;have s1:(x.ref !=0)=false:=by simp;omega
 have c3:=q.2.2.1 rfl;have s2:(x.Ni !=0)=false:=by simp;omega
 have c4:=q.2.2.2.1 (by omega);have s3:(x.num !=0)=false:=by simp;omega
 have c5:=q.2.2.2.2.1 (by omega);have s4:=wK x.op 0 (by omega);have c9:=oH b4;have J:=oH o;clear o b4 q c1 c2 c3 c4 c5;obtain⟨a1,n1,a2,n2,a3,n3,a4,n4,A1,c1,A2,c2,B1,d1,ua,uc,va,vc,W0,rfl,rfl,rfl,rfl,rfl,⟨l1,l2,l3,l4,l5,l6,m1,m2,m3,m4,m5,m6,u1,u2,u3,v1,v2,v3⟩,⟨p0,p1,p2,p3,p4,k0,k1,k2,b0,b1,b2,x0,x1,x2,x3,x4,x5,x6,x7,x8⟩,C,HP⟩:=eO hp hc hb b8 b9 hx;unfold maxLen at*;clear hp hc hb b8 b9;have h3:=hx.kind;have h4:=hx.op;clear hx;unfold aV at _c6 _c7;go_enter func65,ntmps65;go_upto_region 1 with fail;rw[←C.1];have b3:=df x.kind W0;unfold bH at b3;rw[hs] at b3;have HI:=J3 (dY (p:=p) (c:=c) (b:=b) (next:=next) hs) hs (fu hs);have d7:=oH b3;clear b3 hs;go_wp2_with fail;refine d7.out.mono ?_;rintro e w1 ⟨rfl,rfl⟩;simp only;go_upto_region 2 with fail;simp only[List.append];have HM:=oH (show cW p c b x.kind=b.Ng.length from by rw[J.out]<;>rfl);go_upto_block 0 with fail;have t7:((x.kind:Int)==7)=false:=by have o:=J.out;rw[bE];omega
 have t3:((x.kind:Int)==3)=true:=by have o:=J.out;rw[cy];omega
 have e4:((x.kind:Int)==4)=false:=by have o:=J.out;rw[bE];omega
 have e5:((x.kind:Int)==5)=false:=by have o:=J.out;rw[bE];omega
 have e6:((x.kind:Int)==6)=false:=by have o:=J.out;rw[bE];omega
 have e7:((x.kind:Int)==7)=false:=by have o:=J.out;rw[bE];omega
 have e8:((x.kind:Int)==8)=false:=by have o:=J.out;rw[bE];omega
 have e9:((x.kind:Int)==9)=false:=by have o:=J.out;rw[bE];omega
 have h5:((x.kind:Int)==10)=false:=by have o:=J.out;rw[bE];omega
 by_cases h0:x.Nh.length≤x.args.length∧x.args.length≤x.Nh.length;·(
 have v0:((x.Nh.length:Int) !=(x.args.length:Int))=false:=by rw[gj];omega
 by_cases h1:1≤x.Nh.length;·(
 have v1:decide ((x.Nh.length:Int)<1)=false:=by simp;omega
 by_cases h2:x.Nh.length≤64;·(
 have v2:decide ((64:Int)<(x.Nh.length:Int))=false:=by simp;omega
 have d8:=oH (show mM c x n from by unfold mM;rw[ap J.out];exact⟨by omega,h1,h2⟩);have c0:=oH (show Ie p c b x false false from⟨fun h=>Bool.noConfusion h,fun h=>Bool.noConfusion h⟩);clear h0 h1 h2;go_wp2_with fail;go_loopg [18] x.args.length (fun g s wr=>∃k:Nat,k≤x.args.length∧g=x.args.length-k∧s=.int .i64 k∧aa All W0 wr∧∀(i:Nat) a,i<k→x.args[i]? =some a→0≤a∧a<b.vars);·exact⟨0,by omega,by omega,rfl,kR,fun i a hi=>by omega⟩
 obtain⟨k,hk,rfl,rfl,j,l⟩:=hrel;clear x0 x1 x2 x3 x4 x5 x6 x7 x8 b0 b1 b2;have Y:=C.2.2.2.2.2.kept j trivial;have Z:=C.2.2.2.2.1.kept j trivial;obtain⟨x0,x1,x2,x3,x4,x5,x6,x7,x8⟩:=Y.c9;obtain⟨b0,b1,b2⟩:=Z.c3;clear Y Z;by_cases b5:k<x.args.length;·(
 obtain⟨y,hy⟩:=eG b5;obtain⟨yb,yo,cc,rfl,b6,d9,rfl,b7⟩:=bn (HP.2.1 wr (C.2.1.trans j)) hy;have I:=J3 j l hy;clear j l hy b7 b6;by_cases g0:y<0
 ·have q0:decide (y<0)=true:=by simpa using g0
  have R:=oH (show¬aT p c b next x from fun h=>by have:=(aC.1 (HI.1.1 h)).2.2.2.1 y (mG I.2.2);omega);clear g0;go_wp2_with fail;go_quiet (fail);go_wp2_with fail;go_ret2;exact .no R.out (C.2.1.trans (I.1.drewN _))
 have q0:decide (y<0)=false:=by simpa using g0
 by_cases g1:b.vars≤y
 ·have q1:decide (b.vars≤y)=true:=by simpa using g1
  have R:=oH (show¬aT p c b next x from fun h=>by have:=(aC.1 (HI.1.1 h)).2.2.2.1 y (mG I.2.2);omega);clear g0 g1;go_wp2_with fail;go_quiet (fail);go_wp2_with fail;go_ret2;exact .no R.out (C.2.1.trans (I.1.drewN _))
 have q1:decide (b.vars≤y)=false:=by simpa using g1
 have HY:=oH (show 0≤y∧y<b.vars by omega);clear g0 g1;go_wp2_with fail;go_quiet (fail);go_wp2_with fail;go_roundg (x.args.length-(k+1))
 ·refine⟨k+1,by omega,rfl,by go_num,I.1.drewN _,fun i z hi hz=>?_⟩
  by_cases e:i=k;·subst e;rw[I.2.2] at hz;cases hz;exact HY.out
  exact I.2.1 i z (by omega) hz
 omega)
 obtain rfl:k=x.args.length:=by omega
 have a7:∀a∈x.args,0≤a∧a<b.vars:=fun y hy=>by obtain⟨i,hi⟩:=cY.1 hy;exact l i y (lS.1 hi).1 hi
 have e0:=oH a7;clear l a7;go_wp2_with fail;go_loopg [19] x.Nh.length (fun g s wr=>∃k:Nat,k≤x.Nh.length∧g=x.Nh.length-k∧s=.int .i64 k∧aa All W0 wr∧∀(i:Nat) a,i<k→x.Nh[i]? =some a→0≤a∧a<(b.Ng.length:Int));·exact⟨0,by omega,by omega,rfl,j,fun i a hi=>by omega⟩
 obtain⟨k,hk,rfl,rfl,j,l⟩:=hrel;clear x0 x1 x2 x3 x4 x5 x6 x7 x8 b0 b1 b2;have Y:=C.2.2.2.2.2.kept j trivial;have Z:=C.2.2.2.2.1.kept j trivial;obtain⟨x0,x1,x2,x3,x4,x5,x6,x7,x8⟩:=Y.c9;obtain⟨b0,b1,b2⟩:=Z.c3;clear Y Z;by_cases b5:k<x.Nh.length;·(
 obtain⟨y,hy⟩:=eG b5;obtain⟨yb,yo,cc,rfl,b6,d9,rfl,b7⟩:=bn (HP.2.2.1 wr (C.2.1.trans j)) hy;have I:=J3 j l hy;clear j l hy b7 b6;by_cases g0:y<0
 ·have q0:decide (y<0)=true:=by simpa using g0
  have R:=oH (show¬aT p c b next x from fun h=>by have:=(aC.1 (HI.1.1 h)).2.2.2.2 y (mG I.2.2);omega);clear g0;go_wp2_with fail;go_quiet (fail);go_wp2_with fail;go_ret2;exact .no R.out (C.2.1.trans (I.1.drewN _))
 have q0:decide (y<0)=false:=by simpa using g0
 by_cases g1:(b.Ng.length:Int)≤y
 ·have q1:decide ((b.Ng.length:Int)≤y)=true:=by simpa using g1
  have R:=oH (show¬aT p c b next x from fun h=>by have:=(aC.1 (HI.1.1 h)).2.2.2.2 y (mG I.2.2);omega);clear g0 g1;go_wp2_with fail;go_quiet (fail);go_wp2_with fail;go_ret2;exact .no R.out (C.2.1.trans (I.1.drewN _))
 have q1:decide ((b.Ng.length:Int)≤y)=false:=by simpa using g1
 have HY:=oH (show 0≤y∧y<(b.Ng.length:Int) by omega);clear g0 g1;go_wp2_with fail;go_quiet (fail);go_wp2_with fail;go_roundg (x.Nh.length-(k+1))
 ·refine⟨k+1,by omega,rfl,by go_num,I.1.drewN _,fun i z hi hz=>?_⟩
  by_cases e:i=k;·subst e;rw[I.2.2] at hz;cases hz;exact HY.out
  exact I.2.1 i z (by omega) hz
 omega)
 obtain rfl:k=x.Nh.length:=by omega
 have a8:∀a∈x.Nh,0≤a∧a<(b.Ng.length:Int):=fun y hy=>by obtain⟨i,hi⟩:=cY.1 hy;exact l i y (lS.1 hi).1 hi
 have e1:=oH (show aT p c b next x from HI.1.2 (aC.2 ⟨c9.out,c0.out,d8.out,e0.out,a8⟩));have e3:=oH j;clear j l a8;go_wp2_with fail;go_ret2;exact⟨next+1,true,rfl,(av e1.out).symm,fun _=>by rw[HI.2.2];rfl,C.2.1.trans e3.out⟩)
 have v2:decide ((64:Int)<(x.Nh.length:Int))=true:=by simp;omega
 have R:=oH (show¬aT p c b next x from fun h=>by have o:=J.out;have h:=aC.1 (HI.1.1 h);have:=h.2.2.1;unfold mM at this;rw[ap o] at this;omega);clear h2;go_wp2_with fail;go_ret2;exact .no R.out C.2.1)
 have v1:decide ((x.Nh.length:Int)<1)=true:=by simp;omega
 have R:=oH (show¬aT p c b next x from fun h=>by have o:=J.out;have h:=aC.1 (HI.1.1 h);have:=h.2.2.1;unfold mM at this;rw[ap o] at this;omega);clear h1;go_wp2_with fail;go_ret2;exact .no R.out C.2.1)
 have v0:((x.Nh.length:Int) !=(x.args.length:Int))=true:=by rw[bne_iff_ne];omega
 have R:=oH (show¬aT p c b next x from fun h=>by have o:=J.out;have h:=aC.1 (HI.1.1 h);have:=h.2.2.1;unfold mM at this;rw[ap o] at this;omega);clear h0;go_wp2_with fail;go_ret2;exact .no R.out C.2.1
theorem LF (S:Nat→Prop)(pv cv bv _:Value)(p:aH)(c:aE)(b:aw)(x:bz)(next:Int)(w:World)(hp:dJ S w pv p)(hc:cQ S w cv c)(hb:bW S w bv b.Ng)(_c9:aV b.params)(_d7:aV b.vars)(a5 a6:Value)(b8:aK S w a5 x.args)(b9:aK S w a6 x.Nh)(hx:jx x)
 (n:Int) (hs:cw x.kind=some (n,true,true,false)) (C:x.kind=7) (b4:qg x next true true false)
 (d8: -1≤next∧next<4611686018427387904):
 Calls prog 65 #[pv,cv,.agg #[.int .i64 b.params,.int .i64 b.vars,bv],.agg #[.int .u8 x.kind,.int .u8 x.op,.int .i64 x.dst,.int .i64 x.ref,.int .i64 x.Ni,a5,a6,.int .i64 x.num,.int .i64 x.Nj],.int .i64 next] w (fl p c b next x w):=by
 have k1:=mK x.kind 1 (by omega);have k2:=mK x.kind 2 (by omega);have e2:=nK x.kind 2 (by omega);have q:=b4;have c1:=q.1;simp only[if_true] at c1;have s0:(x.dst !=next)=false:=by simp;omega
 have c3:=q.2.2.1 rfl;have s2:(x.Ni !=0)=false:=by simp;omega
 have c4:=q.2.2.2.1 (by omega);have s3:(x.num !=0)=false:=by simp;omega
 have c5:=q.2.2.2.2.1 (by omega);have s4:=wK x.op 0 (by omega);have d9:=oH b4;have R:=oH C;clear C b4 q c1 c3 c4 c5;obtain⟨a1,n1,a2,n2,a3,n3,a4,n4,A1,c1,A2,c2,B1,d1,ua,uc,va,vc,W0,rfl,rfl,rfl,rfl,rfl,⟨l1,l2,l3,l4,l5,l6,m1,m2,m3,m4,m5,m6,u1,u2,u3,v1,v2,v3⟩,⟨p0,p1,p2,p3,p4,k0,k1,k2,b0,b1,b2,x0,x1,x2,x3,x4,x5,x6,x7,x8⟩,o,HP⟩:=eO hp hc hb b8 b9 hx;unfold maxLen at*;clear hp hc hb b8 b9;have h8:=hx.kind;have h9:=hx.op;clear hx;unfold aV at _c9 _d7;go_enter func65,ntmps65;go_upto_region 1 with fail;rw[←o.1];have b3:=df x.kind W0;unfold bH at b3;rw[hs] at b3;have HI:=J3 (dY (p:=p) (c:=c) (b:=b) (next:=next) hs) hs (fu hs);have e0:=oH b3;clear b3 hs;go_wp2_with fail;refine e0.out.mono ?_;rintro e w1 ⟨rfl,rfl⟩;simp only;go_upto_region 2 with fail;simp only[List.append];have HM:=oH (show cW p c b x.kind=c.Nf.length from by rw[R.out]<;>rfl);go_upto_block 0 with fail;have t3:((x.kind:Int)==3)=false:=by have C:=R.out;rw[bE];omega
 have e4:((x.kind:Int)==4)=false:=by have C:=R.out;rw[bE];omega
 have e5:((x.kind:Int)==5)=false:=by have C:=R.out;rw[bE];omega
 have e6:((x.kind:Int)==6)=false:=by have C:=R.out;rw[bE];omega
 have e7:((x.kind:Int)==7)=true:=by have C:=R.out;rw[cy];omega
 by_cases h0:0≤x.ref;·(
 have u0:decide (x.ref<0)=false:=by simp;omega
 by_cases h1:x.ref<(c.Nf.length:Int);·(
 have u1:decide ((c.Nf.length:Int)≤x.ref)=false:=by simp;omega
 have e1:x.ref.toNat<c.Nf.length:=by omega
 obtain⟨k,hk⟩:∃k:Nat,x.ref=k:=⟨x.ref.toNat,by omega⟩;obtain⟨g,C⟩:∃g,c.Nf[k]? =some g:=⟨_,lG (by omega)⟩;have hN:jG c x n=g.params:=by unfold jG;rw[ap R.out,hk,dP,iG,C];rfl
 have i0:k<c.Nf.length:=by omega
 obtain⟨gb,go,i1,rfl,e3,c0,c6,gv,rfl,e8,e9,h2⟩:=aZ (HP.1 W0 o.2.1) C;have z0:=c6 0 _ rfl;rw[dj] at z0;have c7:=oH hN;have c8:=oH (show Ie p c b x true false from⟨fun _=>by rw[HM.out];exact⟨h0,h1⟩,fun h=>Bool.noConfusion h⟩);rw[hk] at x3 u0 u1;clear hN C c6 e8 e9 h2 c0 e3 h0 h1 hk e1;by_cases h0:x.Nh.length=0;·(
 have v0:((x.Nh.length:Int) !=0)=false:=by rw[gj];omega
 by_cases h1:(x.args.length:Int)=g.params;·(
 have v1:((x.args.length:Int) !=g.params)=false:=by rw[gj];omega
 have h3:=oH (show mM c x n from by have C:=R.out;unfold mM;rw[ae (show¬x.kind=3 by omega),c7.out];exact⟨oD h0,h1⟩);clear h0 h1;go_wp2_with fail;go_loopg [18] x.args.length (fun g s wr=>∃k:Nat,k≤x.args.length∧g=x.args.length-k∧s=.int .i64 k∧aa All W0 wr∧∀(i:Nat) a,i<k→x.args[i]? =some a→0≤a∧a<b.vars);·exact⟨0,by omega,by omega,rfl,kR,fun i a hi=>by omega⟩
 obtain⟨k,hk,rfl,rfl,j,l⟩:=hrel;clear x0 x1 x2 x3 x4 x5 x6 x7 x8 b0 b1 b2;have Y:=o.2.2.2.2.2.kept j trivial;have Z:=o.2.2.2.2.1.kept j trivial;obtain⟨x0,x1,x2,x3,x4,x5,x6,x7,x8⟩:=Y.c9;obtain⟨b0,b1,b2⟩:=Z.c3;clear Y Z;by_cases b5:k<x.args.length;·(
 obtain⟨y,hy⟩:=eG b5;obtain⟨yb,yo,cc,rfl,b6,h4,rfl,b7⟩:=bn (HP.2.1 wr (o.2.1.trans j)) hy;have I:=J3 j l hy;clear j l hy b7 b6;by_cases g0:y<0
 ·have q0:decide (y<0)=true:=by simpa using g0
  have J:=oH (show¬aT p c b next x from fun h=>by have:=(aC.1 (HI.1.1 h)).2.2.2.1 y (mG I.2.2);omega);clear g0;go_wp2_with fail;go_quiet (fail);go_wp2_with fail;go_ret2;exact .no J.out (o.2.1.trans (I.1.drewN _))
 have q0:decide (y<0)=false:=by simpa using g0
 by_cases g1:b.vars≤y
 ·have q1:decide (b.vars≤y)=true:=by simpa using g1
  have J:=oH (show¬aT p c b next x from fun h=>by have:=(aC.1 (HI.1.1 h)).2.2.2.1 y (mG I.2.2);omega);clear g0 g1;go_wp2_with fail;go_quiet (fail);go_wp2_with fail;go_ret2;exact .no J.out (o.2.1.trans (I.1.drewN _))
 have q1:decide (b.vars≤y)=false:=by simpa using g1
 have HY:=oH (show 0≤y∧y<b.vars by omega);clear g0 g1;go_wp2_with fail;go_quiet (fail);go_wp2_with fail;go_roundg (x.args.length-(k+1))
 ·refine⟨k+1,by omega,rfl,by go_num,I.1.drewN _,fun i z hi hz=>?_⟩
  by_cases e:i=k;·subst e;rw[I.2.2] at hz;cases hz;exact HY.out
  exact I.2.1 i z (by omega) hz
 omega)
 obtain rfl:k=x.args.length:=by omega
 have a7:∀a∈x.args,0≤a∧a<b.vars:=fun y hy=>by obtain⟨i,hi⟩:=cY.1 hy;exact l i y (lS.1 hi).1 hi
 have h5:=oH a7;clear l a7;go_wp2_with fail;go_loopg [19] x.Nh.length (fun g s wr=>∃k:Nat,k≤x.Nh.length∧g=x.Nh.length-k∧s=.int .i64 k∧aa All W0 wr∧∀(i:Nat) a,i<k→x.Nh[i]? =some a→0≤a∧a<(b.Ng.length:Int));·exact⟨0,by omega,by omega,rfl,j,fun i a hi=>by omega⟩
 obtain⟨k,hk,rfl,rfl,j,l⟩:=hrel;clear x0 x1 x2 x3 x4 x5 x6 x7 x8 b0 b1 b2;have Y:=o.2.2.2.2.2.kept j trivial;have Z:=o.2.2.2.2.1.kept j trivial;obtain⟨x0,x1,x2,x3,x4,x5,x6,x7,x8⟩:=Y.c9;obtain⟨b0,b1,b2⟩:=Z.c3;clear Y Z;by_cases b5:k<x.Nh.length;·(
 obtain⟨y,hy⟩:=eG b5;obtain⟨yb,yo,cc,rfl,b6,h4,rfl,b7⟩:=bn (HP.2.2.1 wr (o.2.1.trans j)) hy;have I:=J3 j l hy;clear j l hy b7 b6;by_cases g0:y<0
 ·have q0:decide (y<0)=true:=by simpa using g0
  have J:=oH (show¬aT p c b next x from fun h=>by have:=(aC.1 (HI.1.1 h)).2.2.2.2 y (mG I.2.2);omega);clear g0;go_wp2_with fail;go_quiet (fail);go_wp2_with fail;go_ret2;exact .no J.out (o.2.1.trans (I.1.drewN _))
 have q0:decide (y<0)=false:=by simpa using g0
 by_cases g1:(b.Ng.length:Int)≤y
 ·have q1:decide ((b.Ng.length:Int)≤y)=true:=by simpa using g1
  have J:=oH (show¬aT p c b next x from fun h=>by have:=(aC.1 (HI.1.1 h)).2.2.2.2 y (mG I.2.2);omega);clear g0 g1;go_wp2_with fail;go_quiet (fail);go_wp2_with fail;go_ret2;exact .no J.out (o.2.1.trans (I.1.drewN _))
 have q1:decide ((b.Ng.length:Int)≤y)=false:=by simpa using g1
 have HY:=oH (show 0≤y∧y<(b.Ng.length:Int) by omega);clear g0 g1;go_wp2_with fail;go_quiet (fail);go_wp2_with fail;go_roundg (x.Nh.length-(k+1))
 ·refine⟨k+1,by omega,rfl,by go_num,I.1.drewN _,fun i z hi hz=>?_⟩
  by_cases e:i=k;·subst e;rw[I.2.2] at hz;cases hz;exact HY.out
  exact I.2.1 i z (by omega) hz
 omega)
 obtain rfl:k=x.Nh.length:=by omega
 have a8:∀a∈x.Nh,0≤a∧a<(b.Ng.length:Int):=fun y hy=>by obtain⟨i,hi⟩:=cY.1 hy;exact l i y (lS.1 hi).1 hi
 have h6:=oH (show aT p c b next x from HI.1.2 (aC.2 ⟨d9.out,c8.out,h3.out,h5.out,a8⟩));have h7:=oH j;clear j l a8;go_wp2_with fail;go_ret2;exact⟨next+1,true,rfl,(av h6.out).symm,fun _=>by rw[HI.2.2];rfl,o.2.1.trans h7.out⟩)
 have v1:((x.args.length:Int) !=g.params)=true:=by rw[bne_iff_ne];omega
 have J:=oH (show¬aT p c b next x from fun h=>by have C:=R.out;have h:=aC.1 (HI.1.1 h);have:=h.2.2.1;unfold mM at this;rw[ae (show¬x.kind=3 by omega),c7.out] at this;exact h1 this.2);clear h1;go_wp2_with fail;go_ret2;exact .no J.out o.2.1)
 have v0:((x.Nh.length:Int) !=0)=true:=by rw[bne_iff_ne];omega
 have J:=oH (show¬aT p c b next x from fun h=>by have C:=R.out;have h:=aC.1 (HI.1.1 h);have:=h.2.2.1;unfold mM at this;rw[ae (show¬x.kind=3 by omega)] at this;rw[this.1] at h0;exact h0 rfl);clear h0;go_wp2_with fail;go_ret2;exact .no J.out o.2.1)
 have u1:decide ((c.Nf.length:Int)≤x.ref)=true:=by simp;omega
 have J:=oH (show¬aT p c b next x from fun h=>by have C:=R.out;have h:=aC.1 (HI.1.1 h);have:=h.2.1.1 rfl;rw[HM.out] at this;omega);clear h1;go_wp2_with fail;go_ret2;exact .no J.out o.2.1)
 have u0:decide (x.ref<0)=true:=by simp;omega
 have J:=oH (show¬aT p c b next x from fun h=>by have C:=R.out;have h:=aC.1 (HI.1.1 h);have:=h.2.1.1 rfl;omega);clear h0;go_wp2_with fail;go_ret2;exact .no J.out o.2.1
end Go.Proofs.YtceloincoomjeaaGreatDoor
