/- Part 38 of the proof of CallsTo (its last part says what is proved). No condition. -/
import Derived.Test.YtceloincoomjeaaGreatDoorK36
namespace Go.Proofs.YtceloincoomjeaaGreatDoor
set_option maxRecDepth 100000
set_option maxHeartbeats 8000000
open Go.RowKit Go.Proofs.Tryz
def qg (x:bz)(next:Int)(d r a:Bool):Prop:=x.dst=(if d=true then next else-1)∧(r=false→x.ref=0)∧(a=false→x.Ni=0)∧(x.kind≠1→x.num=0)∧(x.kind≠2→x.op=0)∧(x.kind=2→1≤x.op∧x.op≤12)
def Ie (p:aH)(c:aE)(b:aw)(x:bz)(r a:Bool):Prop:=(r=true→0≤x.ref∧x.ref<cW p c b x.kind)∧(a=true→0≤x.Ni∧x.Ni<b.Ng.length)
def jG (c:aE)(x:bz)(n:Int):Int:=if x.kind=7 then(c.Nf.getD x.ref.toNat ⟨0,0,[]⟩).params else n
def mM (c:aE)(x:bz)(n:Int):Prop:=if x.kind=3 then x.Nh.length=x.args.length∧1≤x.Nh.length∧x.Nh.length≤64 else x.Nh=[]∧(x.args.length:Int)=jG c x n
theorem aC {p:aH}{c:aE}{b:aw}{next:Int}{x:bz}{n:Int}{d r a:Bool}:MK p c b next x n d r a↔qg x next d r a∧Ie p c b x r a∧mM c x n∧(∀a∈x.args,0≤a∧a<b.vars)∧∀a∈x.Nh,0≤a∧a<b.Ng.length:=by unfold MK qg Ie mM jG;simp only[and_assoc]
theorem GW (S:Nat→Prop)(pv cv bv _:Value)(p:aH)(c:aE)(b:aw)(x:bz)(next:Int)(w:World)(hp:dJ S w pv p)(hc:cQ S w cv c)(hb:bW S w bv b.Ng)(_a7:aV b.params)(_a8:aV b.vars)(a5 a6:Value)(C:aK S w a5 x.args)(I:aK S w a6 x.Nh)(hx:jx x)
 (n:Int) (J:cw x.kind=some (n,true,false,false)) (l:x.kind=1) (R:¬qg x next true false false)
 (_: -1≤next∧next<4611686018427387904):
 Calls prog 65 #[pv,cv,.agg #[.int .i64 b.params,.int .i64 b.vars,bv],.agg #[.int .u8 x.kind,.int .u8 x.op,.int .i64 x.dst,.int .i64 x.ref,.int .i64 x.Ni,a5,a6,.int .i64 x.num,.int .i64 x.Nj],.int .i64 next] w (fl p c b next x w):=by
 have k1:=wK x.kind 1 (by omega);have k2:=mK x.kind 2 (by omega);have e2:=nK x.kind 2 (by omega);have Y:=oH l;clear l;obtain⟨a1,n1,a2,n2,a3,n3,a4,n4,A1,c1,A2,c2,B1,d1,ua,uc,va,vc,W0,rfl,rfl,rfl,rfl,rfl,⟨l1,l2,l3,l4,l5,l6,m1,m2,m3,m4,m5,m6,u1,u2,u3,v1,v2,v3⟩,⟨p0,p1,p2,p3,p4,k0,k1,k2,b0,b1,b2,x0,x1,x2,x3,x4,x5,x6,x7,x8⟩,Z,HP⟩:=eO hp hc hb C I hx;unfold maxLen at*;clear hp hc hb C I;have b5:=hx.kind;have b6:=hx.op;clear hx;unfold aV at _a7 _a8;go_enter func65,ntmps65;go_upto_region 1 with fail;rw[←Z.1];have j:=df x.kind W0;unfold bH at j;rw[J] at j;have HI:=J3 (dY (p:=p) (c:=c) (b:=b) (next:=next) J) J (fu J);have b4:=oH j;clear j J;go_wp2_with fail;refine b4.out.mono ?_;rintro e w1 ⟨rfl,rfl⟩;simp only;go_upto_region 2 with fail;simp only[List.append];by_cases h0:x.dst=next;·(
 have s0:(x.dst !=next)=false:=by simp;omega
 by_cases h1:x.ref=0;·(
 have s1:(x.ref !=0)=false:=by simp;omega
 by_cases h2:x.Ni=0
 ·have s2:(x.Ni !=0)=false:=by simp;omega
  by_cases h3:x.op=0
  ·have s4:=wK x.op 0 (by omega)
   have l:=Y.out;exact absurd (show qg x next true false false from⟨by simp only[if_true];omega,by simp<;>omega,by simp<;>omega,by omega,by omega,by omega⟩) R
  have s4:=mK x.op 0 (by omega);have o:=oH (show¬aT p c b next x from fun h=>by have l:=Y.out;have h:=HI.1.1 h;exact h3 (h.2.2.2.2.1 (by omega)));clear h3;go_wp2_with fail;go_ret2;exact .no o.out Z.2.1
 have s2:(x.Ni !=0)=true:=by simp;omega
 have o:=oH (show¬aT p c b next x from fun h=>by have l:=Y.out;have h:=HI.1.1 h;exact h2 (h.2.2.1 rfl));clear h2;go_wp2_with fail;go_ret2;exact .no o.out Z.2.1)
 have s1:(x.ref !=0)=true:=by simp;omega
 have o:=oH (show¬aT p c b next x from fun h=>by have l:=Y.out;have h:=HI.1.1 h;exact h1 (h.2.1 rfl));clear h1;go_wp2_with fail;go_ret2;exact .no o.out Z.2.1)
 have s0:(x.dst !=next)=true:=by simp;omega
 have o:=oH (show¬aT p c b next x from fun h=>by have l:=Y.out;have h:=HI.1.1 h;have:=h.1;simp only[if_true] at this;exact h0 this);clear h0;go_wp2_with fail;go_ret2;exact .no o.out Z.2.1
theorem GX (S:Nat→Prop)(pv cv bv _:Value)(p:aH)(c:aE)(b:aw)(x:bz)(next:Int)(w:World)(hp:dJ S w pv p)(hc:cQ S w cv c)(hb:bW S w bv b.Ng)(_a8:aV b.params)(_b3:aV b.vars)(a5 a6:Value)(R:aK S w a5 x.args)(Y:aK S w a6 x.Nh)(hx:jx x)
 (n:Int) (Z:cw x.kind=some (n,true,false,false)) (j:x.kind=2) (a7:¬qg x next true false false)
 (_: -1≤next∧next<4611686018427387904):
 Calls prog 65 #[pv,cv,.agg #[.int .i64 b.params,.int .i64 b.vars,bv],.agg #[.int .u8 x.kind,.int .u8 x.op,.int .i64 x.dst,.int .i64 x.ref,.int .i64 x.Ni,a5,a6,.int .i64 x.num,.int .i64 x.Nj],.int .i64 next] w (fl p c b next x w):=by
 have k1:=mK x.kind 1 (by omega);have k2:=wK x.kind 2 (by omega);have e2:=yK x.kind 2 (by omega);have C:=oH j;clear j;obtain⟨a1,n1,a2,n2,a3,n3,a4,n4,A1,c1,A2,c2,B1,d1,ua,uc,va,vc,W0,rfl,rfl,rfl,rfl,rfl,⟨l1,l2,l3,l4,l5,l6,m1,m2,m3,m4,m5,m6,u1,u2,u3,v1,v2,v3⟩,⟨p0,p1,p2,p3,p4,k0,k1,k2,b0,b1,b2,x0,x1,x2,x3,x4,x5,x6,x7,x8⟩,I,HP⟩:=eO hp hc hb R Y hx;unfold maxLen at*;clear hp hc hb R Y;have b6:=hx.kind;have b7:=hx.op;clear hx;unfold aV at _a8 _b3;go_enter func65,ntmps65;go_upto_region 1 with fail;rw[←I.1];have o:=df x.kind W0;unfold bH at o;rw[Z] at o;have J:=J3 (dY (p:=p) (c:=c) (b:=b) (next:=next) Z) Z (fu Z);have b5:=oH o;clear o Z;go_wp2_with fail;refine b5.out.mono ?_;rintro e w1 ⟨rfl,rfl⟩;simp only;go_upto_region 2 with fail;simp only[List.append];by_cases h0:x.dst=next;·(
 have s0:(x.dst !=next)=false:=by simp;omega
 by_cases h1:x.ref=0;·(
 have s1:(x.ref !=0)=false:=by simp;omega
 by_cases h2:x.Ni=0;·(
 have s2:(x.Ni !=0)=false:=by simp;omega
 by_cases h3:x.num=0;·(
 have s3:(x.num !=0)=false:=by simp;omega
 by_cases h4:1≤x.op;·(
 have s5:decide ((x.op:Int)<1)=false:=by simp;omega
 by_cases h5:x.op≤12
 ·have s6:decide ((12:Int)<(x.op:Int))=false:=by simp;omega
  have j:=C.out;exact absurd (show qg x next true false false from⟨by simp only[if_true];omega,by simp<;>omega,by simp<;>omega,by omega,by omega,by omega⟩) a7
 have s6:decide ((12:Int)<(x.op:Int))=true:=by simp;omega
 have l:=oH (show¬aT p c b next x from fun h=>by have j:=C.out;have h:=J.1.1 h;exact h5 (h.2.2.2.2.2.1 j).2);clear h5;go_wp2_with fail;go_ret2;exact .no l.out I.2.1)
 have s5:decide ((x.op:Int)<1)=true:=by simp;omega
 have l:=oH (show¬aT p c b next x from fun h=>by have j:=C.out;have h:=J.1.1 h;exact h4 (h.2.2.2.2.2.1 j).1);clear h4;go_wp2_with fail;go_ret2;exact .no l.out I.2.1)
 have s3:(x.num !=0)=true:=by simp;omega
 have l:=oH (show¬aT p c b next x from fun h=>by have j:=C.out;have h:=J.1.1 h;exact h3 (h.2.2.2.1 (by omega)));clear h3;go_wp2_with fail;go_ret2;exact .no l.out I.2.1)
 have s2:(x.Ni !=0)=true:=by simp;omega
 have l:=oH (show¬aT p c b next x from fun h=>by have j:=C.out;have h:=J.1.1 h;exact h2 (h.2.2.1 rfl));clear h2;go_wp2_with fail;go_ret2;exact .no l.out I.2.1)
 have s1:(x.ref !=0)=true:=by simp;omega
 have l:=oH (show¬aT p c b next x from fun h=>by have j:=C.out;have h:=J.1.1 h;exact h1 (h.2.1 rfl));clear h1;go_wp2_with fail;go_ret2;exact .no l.out I.2.1)
 have s0:(x.dst !=next)=true:=by simp;omega
 have l:=oH (show¬aT p c b next x from fun h=>by have j:=C.out;have h:=J.1.1 h;have:=h.1;simp only[if_true] at this;exact h0 this);clear h0;go_wp2_with fail;go_ret2;exact .no l.out I.2.1
theorem GY (S:Nat→Prop)(pv cv bv _:Value)(p:aH)(c:aE)(b:aw)(x:bz)(next:Int)(w:World)(hp:dJ S w pv p)(hc:cQ S w cv c)(hb:bW S w bv b.Ng)(_a7:aV b.params)(_a8:aV b.vars)(a5 a6:Value)(J:aK S w a5 x.args)(R:aK S w a6 x.Nh)(hx:jx x)
 (n:Int) (Y:cw x.kind=some (n,true,false,false)) (o:x.kind≠1∧x.kind≠2) (Z:¬qg x next true false false)
 (_: -1≤next∧next<4611686018427387904):
 Calls prog 65 #[pv,cv,.agg #[.int .i64 b.params,.int .i64 b.vars,bv],.agg #[.int .u8 x.kind,.int .u8 x.op,.int .i64 x.dst,.int .i64 x.ref,.int .i64 x.Ni,a5,a6,.int .i64 x.num,.int .i64 x.Nj],.int .i64 next] w (fl p c b next x w):=by
 have k1:=mK x.kind 1 (by omega);have k2:=mK x.kind 2 (by omega);have e2:=nK x.kind 2 (by omega);have C:=oH o;clear o;obtain⟨a1,n1,a2,n2,a3,n3,a4,n4,A1,c1,A2,c2,B1,d1,ua,uc,va,vc,W0,rfl,rfl,rfl,rfl,rfl,⟨l1,l2,l3,l4,l5,l6,m1,m2,m3,m4,m5,m6,u1,u2,u3,v1,v2,v3⟩,⟨p0,p1,p2,p3,p4,k0,k1,k2,b0,b1,b2,x0,x1,x2,x3,x4,x5,x6,x7,x8⟩,I,HP⟩:=eO hp hc hb J R hx;unfold maxLen at*;clear hp hc hb J R;have b5:=hx.kind;have b6:=hx.op;clear hx;unfold aV at _a7 _a8;go_enter func65,ntmps65;go_upto_region 1 with fail;rw[←I.1];have j:=df x.kind W0;unfold bH at j;rw[Y] at j;have HI:=J3 (dY (p:=p) (c:=c) (b:=b) (next:=next) Y) Y (fu Y);have b4:=oH j;clear j Y;go_wp2_with fail;refine b4.out.mono ?_;rintro e w1 ⟨rfl,rfl⟩;simp only;go_upto_region 2 with fail;simp only[List.append];by_cases h0:x.dst=next;·(
 have s0:(x.dst !=next)=false:=by simp;omega
 by_cases h1:x.ref=0;·(
 have s1:(x.ref !=0)=false:=by simp;omega
 by_cases h2:x.Ni=0;·(
 have s2:(x.Ni !=0)=false:=by simp;omega
 by_cases h3:x.num=0
 ·have s3:(x.num !=0)=false:=by simp;omega
  by_cases h4:x.op=0
  ·have s4:=wK x.op 0 (by omega)
   have o:=C.out;exact absurd (show qg x next true false false from⟨by simp only[if_true];omega,by simp<;>omega,by simp<;>omega,by omega,by omega,by omega⟩) Z
  have s4:=mK x.op 0 (by omega);have l:=oH (show¬aT p c b next x from fun h=>by have o:=C.out;have h:=HI.1.1 h;exact h4 (h.2.2.2.2.1 (by omega)));clear h4;go_wp2_with fail;go_ret2;exact .no l.out I.2.1
 have s3:(x.num !=0)=true:=by simp;omega
 have l:=oH (show¬aT p c b next x from fun h=>by have o:=C.out;have h:=HI.1.1 h;exact h3 (h.2.2.2.1 (by omega)));clear h3;go_wp2_with fail;go_ret2;exact .no l.out I.2.1)
 have s2:(x.Ni !=0)=true:=by simp;omega
 have l:=oH (show¬aT p c b next x from fun h=>by have o:=C.out;have h:=HI.1.1 h;exact h2 (h.2.2.1 rfl));clear h2;go_wp2_with fail;go_ret2;exact .no l.out I.2.1)
 have s1:(x.ref !=0)=true:=by simp;omega
 have l:=oH (show¬aT p c b next x from fun h=>by have o:=C.out;have h:=HI.1.1 h;exact h1 (h.2.1 rfl));clear h1;go_wp2_with fail;go_ret2;exact .no l.out I.2.1)
 have s0:(x.dst !=next)=true:=by simp;omega
 have l:=oH (show¬aT p c b next x from fun h=>by have o:=C.out;have h:=HI.1.1 h;have:=h.1;simp only[if_true] at this;exact h0 this);clear h0;go_wp2_with fail;go_ret2;exact .no l.out I.2.1
theorem GZ (S:Nat→Prop)(pv cv bv _:Value)(p:aH)(c:aE)(b:aw)(x:bz)(next:Int)(w:World)(hp:dJ S w pv p)(hc:cQ S w cv c)(hb:bW S w bv b.Ng)(_a7:aV b.params)(_a8:aV b.vars)(a5 a6:Value)(C:aK S w a5 x.args)(I:aK S w a6 x.Nh)(hx:jx x)
 (n:Int) (J:cw x.kind=some (n,true,true,false)) (l:x.kind≠1∧x.kind≠2) (R:¬qg x next true true false)
 (_: -1≤next∧next<4611686018427387904):
 Calls prog 65 #[pv,cv,.agg #[.int .i64 b.params,.int .i64 b.vars,bv],.agg #[.int .u8 x.kind,.int .u8 x.op,.int .i64 x.dst,.int .i64 x.ref,.int .i64 x.Ni,a5,a6,.int .i64 x.num,.int .i64 x.Nj],.int .i64 next] w (fl p c b next x w):=by
 have k1:=mK x.kind 1 (by omega);have k2:=mK x.kind 2 (by omega);have e2:=nK x.kind 2 (by omega);have Y:=oH l;clear l;obtain⟨a1,n1,a2,n2,a3,n3,a4,n4,A1,c1,A2,c2,B1,d1,ua,uc,va,vc,W0,rfl,rfl,rfl,rfl,rfl,⟨l1,l2,l3,l4,l5,l6,m1,m2,m3,m4,m5,m6,u1,u2,u3,v1,v2,v3⟩,⟨p0,p1,p2,p3,p4,k0,k1,k2,b0,b1,b2,x0,x1,x2,x3,x4,x5,x6,x7,x8⟩,Z,HP⟩:=eO hp hc hb C I hx;unfold maxLen at*;clear hp hc hb C I;have b5:=hx.kind;have b6:=hx.op;clear hx;unfold aV at _a7 _a8;go_enter func65,ntmps65;go_upto_region 1 with fail;rw[←Z.1];have j:=df x.kind W0;unfold bH at j;rw[J] at j;have HI:=J3 (dY (p:=p) (c:=c) (b:=b) (next:=next) J) J (fu J);have b4:=oH j;clear j J;go_wp2_with fail;refine b4.out.mono ?_;rintro e w1 ⟨rfl,rfl⟩;simp only;go_upto_region 2 with fail;simp only[List.append];by_cases h0:x.dst=next;·(
 have s0:(x.dst !=next)=false:=by simp;omega
 by_cases h1:x.Ni=0;·(
 have s2:(x.Ni !=0)=false:=by simp;omega
 by_cases h2:x.num=0
 ·have s3:(x.num !=0)=false:=by simp;omega
  by_cases h3:x.op=0
  ·have s4:=wK x.op 0 (by omega)
   have l:=Y.out;exact absurd (show qg x next true true false from⟨by simp only[if_true];omega,by simp<;>omega,by simp<;>omega,by omega,by omega,by omega⟩) R
  have s4:=mK x.op 0 (by omega);have o:=oH (show¬aT p c b next x from fun h=>by have l:=Y.out;have h:=HI.1.1 h;exact h3 (h.2.2.2.2.1 (by omega)));clear h3;go_wp2_with fail;go_ret2;exact .no o.out Z.2.1
 have s3:(x.num !=0)=true:=by simp;omega
 have o:=oH (show¬aT p c b next x from fun h=>by have l:=Y.out;have h:=HI.1.1 h;exact h2 (h.2.2.2.1 (by omega)));clear h2;go_wp2_with fail;go_ret2;exact .no o.out Z.2.1)
 have s2:(x.Ni !=0)=true:=by simp;omega
 have o:=oH (show¬aT p c b next x from fun h=>by have l:=Y.out;have h:=HI.1.1 h;exact h1 (h.2.2.1 rfl));clear h1;go_wp2_with fail;go_ret2;exact .no o.out Z.2.1)
 have s0:(x.dst !=next)=true:=by simp;omega
 have o:=oH (show¬aT p c b next x from fun h=>by have l:=Y.out;have h:=HI.1.1 h;have:=h.1;simp only[if_true] at this;exact h0 this);clear h0;go_wp2_with fail;go_ret2;exact .no o.out Z.2.1
theorem Ha (S:Nat→Prop)(pv cv bv _:Value)(p:aH)(c:aE)(b:aw)(x:bz)(next:Int)(w:World)(hp:dJ S w pv p)(hc:cQ S w cv c)(hb:bW S w bv b.Ng)(_a7:aV b.params)(_a8:aV b.vars)(a5 a6:Value)(C:aK S w a5 x.args)(I:aK S w a6 x.Nh)(hx:jx x)
 (n:Int) (J:cw x.kind=some (n,false,true,false)) (l:x.kind≠1∧x.kind≠2) (R:¬qg x next false true false)
 (_: -1≤next∧next<4611686018427387904):
 Calls prog 65 #[pv,cv,.agg #[.int .i64 b.params,.int .i64 b.vars,bv],.agg #[.int .u8 x.kind,.int .u8 x.op,.int .i64 x.dst,.int .i64 x.ref,.int .i64 x.Ni,a5,a6,.int .i64 x.num,.int .i64 x.Nj],.int .i64 next] w (fl p c b next x w):=by
 have k1:=mK x.kind 1 (by omega);have k2:=mK x.kind 2 (by omega);have e2:=nK x.kind 2 (by omega);have Y:=oH l;clear l;obtain⟨a1,n1,a2,n2,a3,n3,a4,n4,A1,c1,A2,c2,B1,d1,ua,uc,va,vc,W0,rfl,rfl,rfl,rfl,rfl,⟨l1,l2,l3,l4,l5,l6,m1,m2,m3,m4,m5,m6,u1,u2,u3,v1,v2,v3⟩,⟨p0,p1,p2,p3,p4,k0,k1,k2,b0,b1,b2,x0,x1,x2,x3,x4,x5,x6,x7,x8⟩,Z,HP⟩:=eO hp hc hb C I hx;unfold maxLen at*;clear hp hc hb C I;have b5:=hx.kind;have b6:=hx.op;clear hx;unfold aV at _a7 _a8;go_enter func65,ntmps65;go_upto_region 1 with fail;rw[←Z.1];have j:=df x.kind W0;unfold bH at j;rw[J] at j;have HI:=J3 (dY (p:=p) (c:=c) (b:=b) (next:=next) J) J (fu J);have b4:=oH j;clear j J;go_wp2_with fail;refine b4.out.mono ?_;rintro e w1 ⟨rfl,rfl⟩;simp only;go_upto_region 2 with fail;simp only[List.append];by_cases h0:x.dst= -1;·(
 have s0:(x.dst != -1)=false:=by simp;omega
 by_cases h1:x.Ni=0;·(
 have s2:(x.Ni !=0)=false:=by simp;omega
 by_cases h2:x.num=0
 ·have s3:(x.num !=0)=false:=by simp;omega
  by_cases h3:x.op=0
  ·have s4:=wK x.op 0 (by omega)
   have l:=Y.out;exact absurd (show qg x next false true false from⟨by simp only[jL,if_false];omega,by simp<;>omega,by simp<;>omega,by omega,by omega,by omega⟩) R
  have s4:=mK x.op 0 (by omega);have o:=oH (show¬aT p c b next x from fun h=>by have l:=Y.out;have h:=HI.1.1 h;exact h3 (h.2.2.2.2.1 (by omega)));clear h3;go_wp2_with fail;go_ret2;exact .no o.out Z.2.1
 have s3:(x.num !=0)=true:=by simp;omega
 have o:=oH (show¬aT p c b next x from fun h=>by have l:=Y.out;have h:=HI.1.1 h;exact h2 (h.2.2.2.1 (by omega)));clear h2;go_wp2_with fail;go_ret2;exact .no o.out Z.2.1)
 have s2:(x.Ni !=0)=true:=by simp;omega
 have o:=oH (show¬aT p c b next x from fun h=>by have l:=Y.out;have h:=HI.1.1 h;exact h1 (h.2.2.1 rfl));clear h1;go_wp2_with fail;go_ret2;exact .no o.out Z.2.1)
 have s0:(x.dst != -1)=true:=by simp;omega
 have o:=oH (show¬aT p c b next x from fun h=>by have l:=Y.out;have h:=HI.1.1 h;have:=h.1;simp only[jL,if_false] at this;exact h0 this);clear h0;go_wp2_with fail;go_ret2;exact .no o.out Z.2.1
theorem Hb (S:Nat→Prop)(pv cv bv _:Value)(p:aH)(c:aE)(b:aw)(x:bz)(next:Int)(w:World)(hp:dJ S w pv p)(hc:cQ S w cv c)(hb:bW S w bv b.Ng)(_a7:aV b.params)(_a8:aV b.vars)(a5 a6:Value)(o:aK S w a5 x.args)(C:aK S w a6 x.Nh)(Y:jx x)
 (n:Int) (I:cw x.kind=some (n,false,true,true)) (l:x.kind≠1∧x.kind≠2) (J:¬qg x next false true true)
 (_: -1≤next∧next<4611686018427387904):
 Calls prog 65 #[pv,cv,.agg #[.int .i64 b.params,.int .i64 b.vars,bv],.agg #[.int .u8 x.kind,.int .u8 x.op,.int .i64 x.dst,.int .i64 x.ref,.int .i64 x.Ni,a5,a6,.int .i64 x.num,.int .i64 x.Nj],.int .i64 next] w (fl p c b next x w):=by
 have k1:=mK x.kind 1 (by omega);have k2:=mK x.kind 2 (by omega);have e2:=nK x.kind 2 (by omega);have Z:=oH l;clear l;obtain⟨a1,n1,a2,n2,a3,n3,a4,n4,A1,c1,A2,c2,B1,d1,ua,uc,va,vc,W0,rfl,rfl,rfl,rfl,rfl,⟨l1,l2,l3,l4,l5,l6,m1,m2,m3,m4,m5,m6,u1,u2,u3,v1,v2,v3⟩,⟨p0,p1,p2,p3,p4,k0,k1,k2,b0,b1,b2,x0,x1,x2,x3,x4,x5,x6,x7,x8⟩,HW,HP⟩:=eO hp hc hb o C Y;unfold maxLen at*;clear hp hc hb o C;have b5:=Y.kind;have b6:=Y.op;clear Y;unfold aV at _a7 _a8;go_enter func65,ntmps65;go_upto_region 1 with fail;rw[←HW.1];have j:=df x.kind W0;unfold bH at j;rw[I] at j;have HI:=J3 (dY (p:=p) (c:=c) (b:=b) (next:=next) I) I (fu I);have b4:=oH j;clear j I;go_wp2_with fail;refine b4.out.mono ?_;rintro e w1 ⟨rfl,rfl⟩;simp only;go_upto_region 2 with fail;simp only[List.append];by_cases h0:x.dst= -1;·(
 have s0:(x.dst != -1)=false:=by simp;omega
 by_cases h1:x.num=0
 ·have s3:(x.num !=0)=false:=by simp;omega
  by_cases h2:x.op=0
  ·have s4:=wK x.op 0 (by omega)
   have l:=Z.out;exact absurd (show qg x next false true true from⟨by simp only[jL,if_false];omega,by simp<;>omega,by simp<;>omega,by omega,by omega,by omega⟩) J
  have s4:=mK x.op 0 (by omega);have R:=oH (show¬aT p c b next x from fun h=>by have l:=Z.out;have h:=HI.1.1 h;exact h2 (h.2.2.2.2.1 (by omega)));clear h2;go_wp2_with fail;go_ret2;exact .no R.out HW.2.1
 have s3:(x.num !=0)=true:=by simp;omega
 have R:=oH (show¬aT p c b next x from fun h=>by have l:=Z.out;have h:=HI.1.1 h;exact h1 (h.2.2.2.1 (by omega)));clear h1;go_wp2_with fail;go_ret2;exact .no R.out HW.2.1)
 have s0:(x.dst != -1)=true:=by simp;omega
 have R:=oH (show¬aT p c b next x from fun h=>by have l:=Z.out;have h:=HI.1.1 h;have:=h.1;simp only[jL,if_false] at this;exact h0 this);clear h0;go_wp2_with fail;go_ret2;exact .no R.out HW.2.1
theorem Hc (S:Nat→Prop)(pv cv bv _:Value)(p:aH)(c:aE)(b:aw)(x:bz)(next:Int)(w:World)(hp:dJ S w pv p)(hc:cQ S w cv c)(hb:bW S w bv b.Ng)(_a7:aV b.params)(_a8:aV b.vars)(a5 a6:Value)(J:aK S w a5 x.args)(R:aK S w a6 x.Nh)(hx:jx x)
 (n:Int) (Y:cw x.kind=some (n,false,false,false)) (o:x.kind≠1∧x.kind≠2) (Z:¬qg x next false false false)
 (_: -1≤next∧next<4611686018427387904):
 Calls prog 65 #[pv,cv,.agg #[.int .i64 b.params,.int .i64 b.vars,bv],.agg #[.int .u8 x.kind,.int .u8 x.op,.int .i64 x.dst,.int .i64 x.ref,.int .i64 x.Ni,a5,a6,.int .i64 x.num,.int .i64 x.Nj],.int .i64 next] w (fl p c b next x w):=by
 have k1:=mK x.kind 1 (by omega);have k2:=mK x.kind 2 (by omega);have e2:=nK x.kind 2 (by omega);have C:=oH o;clear o;obtain⟨a1,n1,a2,n2,a3,n3,a4,n4,A1,c1,A2,c2,B1,d1,ua,uc,va,vc,W0,rfl,rfl,rfl,rfl,rfl,⟨l1,l2,l3,l4,l5,l6,m1,m2,m3,m4,m5,m6,u1,u2,u3,v1,v2,v3⟩,⟨p0,p1,p2,p3,p4,k0,k1,k2,b0,b1,b2,x0,x1,x2,x3,x4,x5,x6,x7,x8⟩,I,HP⟩:=eO hp hc hb J R hx;unfold maxLen at*;clear hp hc hb J R;have b5:=hx.kind;have b6:=hx.op;clear hx;unfold aV at _a7 _a8;go_enter func65,ntmps65;go_upto_region 1 with fail;rw[←I.1];have j:=df x.kind W0;unfold bH at j;rw[Y] at j;have HI:=J3 (dY (p:=p) (c:=c) (b:=b) (next:=next) Y) Y (fu Y);have b4:=oH j;clear j Y;go_wp2_with fail;refine b4.out.mono ?_;rintro e w1 ⟨rfl,rfl⟩;simp only;go_upto_region 2 with fail;simp only[List.append];by_cases h0:x.dst= -1;·(
 have s0:(x.dst != -1)=false:=by simp;omega
 by_cases h1:x.ref=0;·(
 have s1:(x.ref !=0)=false:=by simp;omega
 by_cases h2:x.Ni=0;·(
 have s2:(x.Ni !=0)=false:=by simp;omega
 by_cases h3:x.num=0
 ·have s3:(x.num !=0)=false:=by simp;omega
  by_cases h4:x.op=0
  ·have s4:=wK x.op 0 (by omega)
   have o:=C.out;exact absurd (show qg x next false false false from⟨by simp only[jL,if_false];omega,by simp<;>omega,by simp<;>omega,by omega,by omega,by omega⟩) Z
  have s4:=mK x.op 0 (by omega);have l:=oH (show¬aT p c b next x from fun h=>by have o:=C.out;have h:=HI.1.1 h;exact h4 (h.2.2.2.2.1 (by omega)));clear h4;go_wp2_with fail;go_ret2;exact .no l.out I.2.1
 have s3:(x.num !=0)=true:=by simp;omega
 have l:=oH (show¬aT p c b next x from fun h=>by have o:=C.out;have h:=HI.1.1 h;exact h3 (h.2.2.2.1 (by omega)));clear h3;go_wp2_with fail;go_ret2;exact .no l.out I.2.1)
 have s2:(x.Ni !=0)=true:=by simp;omega
 have l:=oH (show¬aT p c b next x from fun h=>by have o:=C.out;have h:=HI.1.1 h;exact h2 (h.2.2.1 rfl));clear h2;go_wp2_with fail;go_ret2;exact .no l.out I.2.1)
 have s1:(x.ref !=0)=true:=by simp;omega
 have l:=oH (show¬aT p c b next x from fun h=>by have o:=C.out;have h:=HI.1.1 h;exact h1 (h.2.1 rfl));clear h1;go_wp2_with fail;go_ret2;exact .no l.out I.2.1)
 have s0:(x.dst != -1)=true:=by simp;omega
 have l:=oH (show¬aT p c b next x from fun h=>by have o:=C.out;have h:=HI.1.1 h;have:=h.1;simp only[jL,if_false] at this;exact h0 this);clear h0;go_wp2_with fail;go_ret2;exact .no l.out I.2.1
end Go.Proofs.YtceloincoomjeaaGreatDoor
