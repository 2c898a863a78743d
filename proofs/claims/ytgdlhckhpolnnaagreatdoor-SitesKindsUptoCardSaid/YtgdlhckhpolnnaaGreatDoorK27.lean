/- Part 28 of the proof (its last part says what is proved). No condition. -/
import Derived.Test.YtgdlhckhpolnnaaGreatDoorK13
namespace Go.Proofs.YtgdlhckhpolnnaaGreatDoor
set_option maxRecDepth 100000
set_option maxHeartbeats 8000000
open Go.RowKit Go.Proofs.Tryz
theorem lP {α β:Type}{g:α→β}{j lb:List α}(hl:j.length=lb.length)(h:∀(i:Nat) x y,j[i]? =some x→lb[i]? =some y→g x=g y):j.map g=lb.map g:=by
 refine List.ext_getElem? fun i=>?_;rw[cL,cL];by_cases hi:i<j.length
 ·rw[lG hi,lG (show i<lb.length by omega)]
  exact congrArg some (h i _ _ (lG hi) (lG (by omega)))
 rw[jz (by omega),jz (by omega)]
theorem qC {α β:Type}{g:α→β}{j lb:List α}{i:Nat}{x y:α}(o:j[i]? =some x)(C:lb[i]? =some y)(h:g x≠g y):j.map g≠lb.map g:=by intro e;have:=congrArg (fun l=>l[i]?) e;simp only[cL,o,C,Option.map_some,Option.some.injEq] at this;exact h this
theorem sS {α β:Type}{g:α→β}{j lb:List α}(h:j.length≠lb.length):j.map g≠lb.map g:=fun e=>h (by have:=congrArg List.length e;simpa using this)
theorem oP (S T:Nat→Prop)(va vb:Value)(o lb:List Int)(w:World)(Y:aK S w va o)(hb:aK T w vb lb):
 Calls prog 177 #[va,vb] w fun e w'=>e=.returned (.bool (decide (o=lb)))∧aa All w w':=by
 have hA:=fun wn (R:aa All w wn)=>(ah).keep R.all Y;have hB:=fun wn (R:aa All w wn)=>(ah).keep R.all hb;obtain⟨A1,c1,rfl,l1,l2,l3,_⟩:=Y;obtain⟨A2,c2,rfl,m1,m2,m3,_⟩:=hb;unfold maxLen at l2 m2;have HV:=J2 hA hB;clear hA hB;by_cases hlen:o.length=lb.length;·(
 have t0:((o.length:Int) !=(lb.length:Int))=false:=by simp;omega
 go_enter func177,ntmps177;go_wp2_with fail;go_loopg [13] o.length (fun g s wr=>∃j:Nat,j≤o.length∧g=o.length-j∧s=.int .i64 j∧aa All w wr∧∀(i:Nat) x y,i<j→o[i]? =some x→lb[i]? =some y→x=y);·exact⟨0,by omega,by omega,rfl,kR,fun i a b h=>by omega⟩
 obtain⟨j,hj,rfl,rfl,I,C⟩:=hrel;by_cases a8:j<o.length;·(
 obtain⟨x,hx⟩:=eG a8;have a1:j<lb.length:=by omega
 obtain⟨y,hy⟩:=eG a1;obtain⟨xb,xo,xc,rfl,_,a6,rfl,_⟩:=bn (HV.1 wr I) hx;obtain⟨yb,yo,yc,rfl,_,a7,rfl,_⟩:=bn (HV.2 wr I) hy;have HR:=J4 I C hx hy;clear I C hx hy;by_cases he:x=y;·(
 subst he;go_wp2_with fail;refine R0 9 wr (fun _=>none) ?_;iterate 9 first|refine O3 (fun wn R hp=>by(have q0:=R.cell trivial a6;have q1:=R.cell trivial a7;go_simp;with_reducible rfl)) ?_|refine O0 ?_
 refine aG fun wt J hF=>?_;have HT:=oH J;clear J hF;simp only[dK];go_wp2_with fail;go_roundg (o.length-(j+1))
 ·refine⟨j+1,by omega,rfl,by go_num,HR.1.trans HT.out,fun i a b hi Y hb=>?_⟩
  by_cases e:i=j;·subst e;rw[HR.2.2.1] at Y;rw[HR.2.2.2] at hb;cases Y;cases hb;rfl
  exact HR.2.1 i a b (by omega) Y hb
 omega)
 have te:(x !=y)=true:=by simpa using he
 have HE:=oH he;clear he;go_wp2_with fail;refine R0 9 wr (fun _=>none) ?_;iterate 9 first|refine O3 (fun wn R hp=>by(have q0:=R.cell trivial a6;have q1:=R.cell trivial a7;go_simp;with_reducible rfl)) ?_|refine O0 ?_
 refine aG fun wt J hF=>?_;have HT:=oH J;clear J hF;simp only[dK];go_wp2_with fail;have HD:=oH (cI (p:=o=lb) fun e=>by have h1:=HR.2.2.1;rw[e,HR.2.2.2] at h1;injection h1 with h1;exact HE.out h1.symm);go_ret;exact⟨by rw[HD.out]<;>rfl,HR.1.trans HT.out⟩)
 obtain rfl:j=o.length:=by omega
 have HR:=J2 I C;clear I C;have HL:=oH hlen;have HD:=oH (bL (p:=o=lb) (by have:=lP (g:=id) HL.out (fun i x y hx hy=>HR.2 i x y (lS.1 hx).1 hx hy);rwa [List.map_id,List.map_id] at this));go_wp2_with fail;go_ret;exact⟨by rw[HD.out]<;>rfl,HR.1⟩)
 have t0:((o.length:Int) !=(lb.length:Int))=true:=by simp;omega
 have HL:=oH hlen;clear hlen;go_enter func177,ntmps177;have HD:=oH (cI (p:=o=lb) fun e=>HL.out (by rw[e]));go_wp2_with fail;go_ret;exact⟨by rw[HD.out]<;>rfl,kR⟩
theorem yh (S T:Nat→Prop)(va vb:Value)(I lb:List (Int×Int))(w:World)(ha:qaC S w va I)(hb:qaC T w vb lb):
 Calls prog 159 #[va,vb] w fun e w'=>e=.returned (.bool (decide (I=lb)))∧aa All w w':=by
 have hA:=fun wn (o:aa All w wn)=>(bu).keep o.all ha;have hB:=fun wn (o:aa All w wn)=>(bu).keep o.all hb;obtain⟨A1,c1,rfl,l1,l2,l3,_⟩:=ha;obtain⟨A2,c2,rfl,m1,m2,m3,_⟩:=hb;unfold maxLen at l2 m2;have HV:=J2 hA hB;clear hA hB;by_cases hlen:I.length=lb.length;·(
 have t0:((I.length:Int) !=(lb.length:Int))=false:=by simp;omega
 go_enter func159,ntmps159;go_wp2_with fail;go_loopg [13] I.length (fun g s wr=>∃j:Nat,j≤I.length∧g=I.length-j∧s=.int .i64 j∧aa All w wr∧∀(i:Nat) x y,i<j→I[i]? =some x→lb[i]? =some y→x=y);·exact⟨0,by omega,by omega,rfl,kR,fun i a b h=>by omega⟩
 obtain⟨j,hj,rfl,rfl,R,J⟩:=hrel;by_cases a8:j<I.length;·(
 obtain⟨x,hx⟩:=eG a8;have a7:j<lb.length:=by omega
 obtain⟨y,hy⟩:=eG a7;obtain⟨xb,xo,b0,rfl,_,_,a1,rfl,_⟩:=aZ (HV.1 wr R) hx;obtain⟨yb,yo,b1,rfl,_,_,a6,rfl,_⟩:=aZ (HV.2 wr R) hy;have x0:=a1 0 _ rfl;have x1:=a1 1 _ rfl;have y0:=a6 0 _ rfl;have y1:=a6 1 _ rfl;rw[dj] at x0 y0;clear a1 a6;have HR:=J4 R J hx hy;clear R J hx hy;by_cases he:x=y;·(
 subst he;go_wp2_with fail;refine R0 9 wr (fun _=>none) ?_;iterate 9 first|refine O3 (fun wn o hp=>by(have q0:=o.cell trivial x0;have q1:=o.cell trivial x1;have q2:=o.cell trivial y0;have q3:=o.cell trivial y1;go_simp;with_reducible rfl)) ?_|refine O0 ?_
 refine aG fun wt C hF=>?_;have HT:=oH C;clear C hF;simp only[dK];go_wp2_with fail;go_roundg (I.length-(j+1))
 ·refine⟨j+1,by omega,rfl,by go_num,HR.1.trans HT.out,fun i a b hi ha hb=>?_⟩
  by_cases e:i=j;·subst e;rw[HR.2.2.1] at ha;rw[HR.2.2.2] at hb;cases ha;cases hb;rfl
  exact HR.2.1 i a b (by omega) ha hb
 omega)
 obtain⟨xa,xz⟩:=x;obtain⟨ya,yz⟩:=y;have HE:=oH he;by_cases Y:xa=ya
 ·subst Y;have te:xz≠yz:=fun h=>he (by rw[h]);have tf:(xz==yz)=false:=by simpa using te
  clear he;go_wp2_with fail;refine R0 9 wr (fun _=>none) ?_;iterate 9 first|refine O3 (fun wn o hp=>by(have q0:=o.cell trivial x0;have q1:=o.cell trivial x1;have q2:=o.cell trivial y0;have q3:=o.cell trivial y1;go_simp;with_reducible rfl)) ?_|refine O0 ?_
  refine aG fun wt C hF=>?_;have HT:=oH C;clear C hF;simp only[dK];go_wp2_with fail;have HD:=oH (cI (p:=I=lb) fun e=>by have Y:=HR.2.2.1;rw[e,HR.2.2.2] at Y;injection Y with Y;exact HE.out Y.symm);go_ret;exact⟨by rw[HD.out]<;>rfl,HR.1.trans HT.out⟩
 have tf:(xa==ya)=false:=by simpa using Y
 clear he;go_wp2_with fail;refine R0 9 wr (fun _=>none) ?_;iterate 9 first|refine O3 (fun wn o hp=>by(have q0:=o.cell trivial x0;have q1:=o.cell trivial x1;have q2:=o.cell trivial y0;have q3:=o.cell trivial y1;go_simp;with_reducible rfl)) ?_|refine O0 ?_
 refine aG fun wt C hF=>?_;have HT:=oH C;clear C hF;simp only[dK];go_wp2_with fail;have HD:=oH (cI (p:=I=lb) fun e=>by have Y:=HR.2.2.1;rw[e,HR.2.2.2] at Y;injection Y with Y;exact HE.out Y.symm);go_ret;exact⟨by rw[HD.out]<;>rfl,HR.1.trans HT.out⟩)
 obtain rfl:j=I.length:=by omega
 have HR:=J2 R J;clear R J;have HL:=oH hlen;have HD:=oH (bL (p:=I=lb) (by have:=lP (g:=id) HL.out (fun i x y hx hy=>HR.2 i x y (lS.1 hx).1 hx hy);rwa [List.map_id,List.map_id] at this));go_wp2_with fail;go_ret;exact⟨by rw[HD.out]<;>rfl,HR.1⟩)
 have t0:((I.length:Int) !=(lb.length:Int))=true:=by simp;omega
 have HL:=oH hlen;clear hlen;go_enter func159,ntmps159;have HD:=oH (cI (p:=I=lb) fun e=>HL.out (by rw[e]));go_wp2_with fail;go_ret;exact⟨by rw[HD.out]<;>rfl,kR⟩
theorem Bf {x y:bz}:jD x y↔x.kind=y.kind∧x.op=y.op∧x.dst=y.dst∧x.ref=y.ref∧x.Ni=y.Ni∧x.num=y.num∧x.args=y.args∧x.Nh=y.Nh:=by
 obtain⟨k,o,d,r,a,l,f,n,p⟩:=x;obtain⟨k',o',d',r',a',l',f',n',p'⟩:=y;simp only[jD,iE,bz.mk.injEq,and_true];constructor;·rintro⟨j,C,I,J,R,Y,h7,h8⟩;exact⟨j,C,I,J,R,h8,Y,h7⟩
 rintro⟨j,C,I,J,R,Y,h7,h8⟩;exact⟨j,C,I,J,R,h7,h8,Y⟩
theorem Be (S T:Nat→Prop)(x y:bz)(xa xf ya yf:Value)(w:World)(h1:aK S w xa x.args)(h2:aK S w xf x.Nh)(h3:aK T w ya y.args)(h4:aK T w yf y.Nh):
 Calls prog 165 #[.agg #[.int .u8 x.kind,.int .u8 x.op,.int .i64 x.dst,.int .i64 x.ref,.int .i64 x.Ni,xa,xf,.int .i64 x.num,.int .i64 x.Nj],.agg #[.int .u8 y.kind,.int .u8 y.op,.int .i64 y.dst,.int .i64 y.ref,.int .i64 y.Ni,ya,yf,.int .i64 y.num,.int .i64 y.Nj]] w fun e w'=>e=.returned (.bool (pB (jD x y)))∧aa All w w':=by
 have hA:=fun wn (hk:aa All w wn)=>oP S T xa ya x.args y.args wn (ah.keep hk.all h1) (ah.keep hk.all h3);have hF:=fun wn (hk:aa All w wn)=>oP S T xf yf x.Nh y.Nh wn (ah.keep hk.all h2) (ah.keep hk.all h4);obtain⟨a7,a8,rfl,_⟩:=h1;obtain⟨b0,b1,rfl,_⟩:=h2;obtain⟨b2,b3,rfl,_⟩:=h3;obtain⟨b4,b5,rfl,_⟩:=h4;obtain⟨W1,C⟩:=eQ ((w.alloc (.cells #[.int .u8 x.kind,.int .u8 x.op,.int .i64 x.dst,.int .i64 x.ref,.int .i64 x.Ni,.slice a7 x.args.length a8,.slice b0 x.Nh.length b1,.int .i64 x.num,.int .i64 x.Nj] 56)).alloc (.cells #[.int .u8 y.kind,.int .u8 y.op,.int .i64 y.dst,.int .i64 y.ref,.int .i64 y.Ni,.slice b2 y.args.length b3,.slice b4 y.Nh.length b5,.int .i64 y.num,.int .i64 y.Nj] 56));have a1:=aC2 C;have I:=aA1 C;have J:=aB0 C aE1;have e0:=I.cl 0;have f0:=J.cl 0;have e1:=I.cl 1;have f1:=J.cl 1;have e2:=I.cl 2;have f2:=J.cl 2;have e3:=I.cl 3;have f3:=J.cl 3;have e4:=I.cl 4;have f4:=J.cl 4;have e5:=I.cl 5;have f5:=J.cl 5;have e7:=I.cl 7;have f7:=J.cl 7;have j:=J6 C a1 I J hA hF;have R:=oH (Bf (x:=x) (y:=y));clear C a1 I J hA hF;go_enter func165,ntmps165;go_upto_region 1 with fail;rw[←j.1];by_cases d0:x.kind=y.kind
 case neg=>(
 have t0:((x.kind:Int)==(y.kind:Int))=false:=by rw[bE];omega
 have o:=oH (au (P:=jD x y) fun h=>d0 (R.1 h).1);clear d0;go_wp2_with fail;go_ret;exact⟨by rw[o.out]<;>rfl,j.2.1⟩)
 have t0:((x.kind:Int)==(y.kind:Int))=true:=by rw[cy];omega
 have D0:=oH d0;clear d0;by_cases d1:x.op=y.op
 case neg=>(
 have t1:((x.op:Int)==(y.op:Int))=false:=by rw[bE];omega
 have o:=oH (au (P:=jD x y) fun h=>d1 (R.1 h).2.1);clear d1;go_wp2_with fail;go_ret;exact⟨by rw[o.out]<;>rfl,j.2.1⟩)
 have t1:((x.op:Int)==(y.op:Int))=true:=by rw[cy];omega
 have D1:=oH d1;clear d1;by_cases d2:x.dst=y.dst
 case neg=>(
 have t2:((x.dst:Int)==(y.dst:Int))=false:=by rw[bE];omega
 have o:=oH (au (P:=jD x y) fun h=>d2 (R.1 h).2.2.1);clear d2;go_wp2_with fail;go_ret;exact⟨by rw[o.out]<;>rfl,j.2.1⟩)
 have t2:((x.dst:Int)==(y.dst:Int))=true:=by rw[cy];omega
 have D2:=oH d2;clear d2;by_cases d3:x.ref=y.ref
 case neg=>(
 have t3:((x.ref:Int)==(y.ref:Int))=false:=by rw[bE];omega
 have o:=oH (au (P:=jD x y) fun h=>d3 (R.1 h).2.2.2.1);clear d3;go_wp2_with fail;go_ret;exact⟨by rw[o.out]<;>rfl,j.2.1⟩)
 have t3:((x.ref:Int)==(y.ref:Int))=true:=by rw[cy];omega
 have D3:=oH d3;clear d3;by_cases d4:x.Ni=y.Ni
 case neg=>(
 have t4:((x.Ni:Int)==(y.Ni:Int))=false:=by rw[bE];omega
 have o:=oH (au (P:=jD x y) fun h=>d4 (R.1 h).2.2.2.2.1);clear d4;go_wp2_with fail;go_ret;exact⟨by rw[o.out]<;>rfl,j.2.1⟩)
 have t4:((x.Ni:Int)==(y.Ni:Int))=true:=by rw[cy];omega
 have D4:=oH d4;clear d4;by_cases d5:x.num=y.num
 case neg=>(
 have t5:((x.num:Int)==(y.num:Int))=false:=by rw[bE];omega
 have o:=oH (au (P:=jD x y) fun h=>d5 (R.1 h).2.2.2.2.2.1);clear d5;go_wp2_with fail;go_ret;exact⟨by rw[o.out]<;>rfl,j.2.1⟩)
 have t5:((x.num:Int)==(y.num:Int))=true:=by rw[cy];omega
 have D5:=oH d5;clear d5;go_wp2_with fail;refine(j.2.2.2.2.1 _ j.2.1).mono ?_;rintro e w2 ⟨rfl,Y⟩;have e6:=(j.2.2.1.kept Y trivial).cl 6;have f6:=(j.2.2.2.1.kept Y trivial).cl 6;have H2:=oH Y;clear Y;by_cases da:x.args=y.args
 case neg=>(rw[cI da];have o:=oH (au (P:=jD x y) fun h=>da (R.1 h).2.2.2.2.2.2.1);clear da;go_wp2_with fail;go_ret;exact⟨by rw[o.out]<;>rfl,j.2.1.trans H2.out⟩)
 rw[bL da];have HA:=oH da;clear da;go_wp2_with fail;refine(j.2.2.2.2.2 _ (j.2.1.trans H2.out)).mono ?_;rintro e w3 ⟨rfl,a6⟩;have H3:=oH a6;clear a6;have o:=oH (show decide (x.Nh=y.Nh)=pB (jD x y) by
  by_cases h:x.Nh=y.Nh;·rw[bL h,av (R.2 ⟨D0.out,D1.out,D2.out,D3.out,D4.out,D5.out,HA.out,h⟩)]
  rw[cI h,au fun h'=>h (R.1 h').2.2.2.2.2.2.2])
 rw[o.out];go_wp2_with fail;go_ret;exact⟨rfl,(j.2.1.trans H2.out).trans H3.out⟩
theorem CS (S T:Nat→Prop)(va vb:Value)(J lb:List (bz))(w:World)(ha:tZ S w va J)(hb:tZ T w vb lb):
 Calls prog 164 #[va,vb,.func (.func 165) #[] #[]] w fun e w'=>e=.returned (.bool (pB (J.map iE=lb.map iE)))∧aa All w w':=by
 have hA:=cT.la ha;have hB:=cT.la hb;obtain⟨A1,c1,rfl,l1,l2,l3,_⟩:=ha;obtain⟨A2,c2,rfl,m1,m2,m3,_⟩:=hb;unfold maxLen at l2 m2;have HV:=J2 hA hB;clear hA hB;by_cases hlen:J.length=lb.length;·(
 have t0:((J.length:Int) !=(lb.length:Int))=false:=by simp;omega
 have c0:=oH hlen;have c9:=eE hlen;have d7:=eE hlen.symm;clear hlen;go_enter func164,ntmps164;go_wp2_with fail;go_loopg [17] J.length (fun g s wr=>∃j:Nat,j≤J.length∧g=J.length-j∧s=.int .i64 j∧aa All w wr∧∀(i:Nat) x y,i<j→J[i]? =some x→lb[i]? =some y→iE x=iE y);·exact⟨0,by omega,by omega,rfl,kR,fun i a b h=>by omega⟩
 obtain⟨j,hj,rfl,rfl,Y,R⟩:=hrel;by_cases c4:j<J.length;·(
 obtain⟨x,hx⟩:=eG c4;have a8:j<lb.length:=by omega
 obtain⟨y,hy⟩:=eG a8;obtain⟨xb,xo,d8,rfl,_,_,C,xa,xf,rfl,b0,b1,_⟩:=aZ (HV.1 wr Y) hx;obtain⟨yb,yo,d9,rfl,_,_,I,ya,yf,rfl,b2,b3,_⟩:=aZ (HV.2 wr Y) hy;have hS:=fun wn (hk:aa All wr wn)=>Be S T x y xa xf ya yf wn (ah.keep hk.all b0) (ah.keep hk.all b1) (ah.keep hk.all b2) (ah.keep hk.all b3);obtain⟨b4,b5,rfl,_⟩:=b0;obtain⟨b6,b7,rfl,_⟩:=b1;obtain⟨c5,c6,rfl,_⟩:=b2;obtain⟨c7,c8,rfl,_⟩:=b3;have x0:=C 0 _ rfl;have x1:=C 1 _ rfl;have x2:=C 2 _ rfl;have x3:=C 3 _ rfl;have x4:=C 4 _ rfl;have x5:=C 5 _ rfl;have x6:=C 6 _ rfl;have x7:=C 7 _ rfl;have x8:=C 8 _ rfl;have y0:=I 0 _ rfl;have y1:=I 1 _ rfl;have y2:=I 2 _ rfl;have y3:=I 3 _ rfl;have y4:=I 4 _ rfl;have y5:=I 5 _ rfl;have y6:=I 6 _ rfl;have y7:=I 7 _ rfl;have y8:=I 8 _ rfl;rw[dj] at x0 y0;obtain⟨Wa,a6⟩:=eQ (wr.alloc (.cells #[.int .u8 x.kind,.int .u8 x.op,.int .i64 x.dst,.int .i64 x.ref,.int .i64 x.Ni,.slice b4 x.args.length b5,.slice b6 x.Nh.length b7,.int .i64 x.num,.int .i64 x.Nj] 56));have o:=aC1 a6;have y0:=o.cell trivial y0;have y1:=o.cell trivial y1;have y2:=o.cell trivial y2;have y3:=o.cell trivial y3;have y4:=o.cell trivial y4;have y5:=o.cell trivial y5;have y6:=o.cell trivial y6;have y7:=o.cell trivial y7;have y8:=o.cell trivial y8;obtain⟨W2,a1⟩:=eQ (Wa.alloc (.cells #[.int .u8 y.kind,.int .u8 y.op,.int .i64 y.dst,.int .i64 y.ref,.int .i64 y.Ni,.slice c5 y.args.length c6,.slice c7 y.Nh.length c8,.int .i64 y.num,.int .i64 y.Nj] 56));have a7:aa All wr W2:=by rw[a1];exact o.alloc _
 have bX:al W2 wr.heap.size 56 #[.int .u8 x.kind,.int .u8 x.op,.int .i64 x.dst,.int .i64 x.ref,.int .i64 x.Ni,.slice b4 x.args.length b5,.slice b6 x.Nh.length b7,.int .i64 x.num,.int .i64 x.Nj]:=by rw[a1,a6];exact(al.new _ _ _).alloc _
 have bY:=aA0 a1;have e0:=bX.cl 0;have f0:=bY.cl 0;have e1:=bX.cl 1;have f1:=bY.cl 1;have e2:=bX.cl 2;have f2:=bY.cl 2;have e3:=bX.cl 3;have f3:=bY.cl 3;have e4:=bX.cl 4;have f4:=bY.cl 4;have e5:=bX.cl 5;have f5:=bY.cl 5;have e6:=bX.cl 6;have f6:=bY.cl 6;have e7:=bX.cl 7;have f7:=bY.cl 7;have e8:=bX.cl 8;have f8:=bY.cl 8;have HS:=oH (hS W2 a7);have HR:=J7 Y R hx hy a1 a7 a6;clear Y R hx hy a1 a7 bX bY hS C I a6 o;go_upto_region 6 with fail;rw[←HR.2.2.2.2.2.2];go_upto_region 7 with fail;rw[←HR.2.2.2.2.1];go_wp2_with fail;refine HS.out.mono ?_;rintro e w3 ⟨rfl,b8⟩;have b9:=oH b8;clear b8;by_cases he:jD x y
 ·rw[av he];have HE:=oH he;clear he;go_wp2_with fail;go_roundg (J.length-(j+1))
  ·refine⟨j+1,by omega,rfl,by go_num,(HR.1.trans HR.2.2.2.2.2.1).trans b9.out,fun i a b hi ha hb=>?_⟩
   by_cases e:i=j;·subst e;rw[HR.2.2.1] at ha;rw[HR.2.2.2.1] at hb;cases ha;cases hb;exact HE.out
   exact HR.2.1 i a b (by omega) ha hb
  omega
 rw[au he];have HD:=oH (au (P:=J.map iE=lb.map iE) (qC HR.2.2.1 HR.2.2.2.1 he));clear he;go_wp2_with fail;go_ret;exact⟨by rw[HD.out]<;>rfl,(HR.1.trans HR.2.2.2.2.2.1).trans b9.out⟩)
 obtain rfl:j=J.length:=by omega
 have HR:=J2 Y R;clear Y R;have HD:=oH (av (P:=J.map iE=lb.map iE) (lP c0.out (fun i x y hx hy=>HR.2 i x y (lS.1 hx).1 hx hy)));go_wp2_with fail;go_ret;exact⟨by rw[HD.out]<;>rfl,HR.1⟩)
 have t0:((J.length:Int) !=(lb.length:Int))=true:=by simp;omega
 have HD:=oH (au (P:=J.map iE=lb.map iE) (sS hlen));clear hlen;go_enter func164,ntmps164;go_wp2_with fail;go_ret;exact⟨by rw[HD.out]<;>rfl,kR⟩
theorem CT (S T:Nat→Prop)(o vb:Value)(C lb:List bz)(w:World)(J:tZ S w o C)(R:tZ T w vb lb):
 Calls prog 163 #[o,vb] w fun e w'=>e=.returned (.bool (pB (C.map iE=lb.map iE)))∧aa All w w':=by
 have H:=oH (CS S T o vb C lb w J R);clear J R;go_enter func163,ntmps163;go_wp2_with fail;refine H.out.mono ?_;rintro e Y ⟨rfl,j⟩;have I:=oH j;clear j;go_wp2_with fail;go_ret;exact⟨rfl,I.out⟩
theorem Ac (S T:Nat→Prop)(va vb:Value)(o lb:List (List bz))(w:World)(J:bW S w va o)(R:bW T w vb lb):
 Calls prog 162 #[va,vb,.func (.func 163) #[] #[]] w fun e w'=>e=.returned (.bool (pB (o.map (fun l=>l.map iE)=lb.map (fun l=>l.map iE))))∧aa All w w':=by
 have hA:=bg.la J;have hB:=bg.la R;obtain⟨A1,c1,rfl,l1,l2,l3,_⟩:=J;obtain⟨A2,c2,rfl,m1,m2,m3,_⟩:=R;unfold maxLen at l2 m2;have HV:=J2 hA hB;clear hA hB;by_cases hlen:o.length=lb.length;·(
 have t0:((o.length:Int) !=(lb.length:Int))=false:=by simp;omega
 have b1:=oH hlen;have b3:=eE hlen;have b4:=eE hlen.symm;clear hlen;go_enter func162,ntmps162;go_wp2_with fail;go_loopg [17] o.length (fun g s wr=>∃j:Nat,j≤o.length∧g=o.length-j∧s=.int .i64 j∧aa All w wr∧∀(i:Nat) x y,i<j→o[i]? =some x→lb[i]? =some y→(fun l=>l.map iE) x=(fun l=>l.map iE) y);·exact⟨0,by omega,by omega,rfl,kR,fun i a b h=>by omega⟩
 obtain⟨j,hj,rfl,rfl,I,C⟩:=hrel;by_cases b2:j<o.length;·(
 obtain⟨x,Y⟩:=eG b2;have a1:j<lb.length:=by omega
 obtain⟨y,hy⟩:=eG a1;obtain⟨xb,xo,xv,rfl,_,b5,a6⟩:=bn (HV.1 wr I) Y;obtain⟨yb,yo,yv,rfl,_,b6,a7⟩:=bn (HV.2 wr I) hy;have HS:=oH (CT S T xv yv x y wr a6 a7);obtain⟨x1,x2,rfl,_⟩:=a6;obtain⟨y1,y2,rfl,_⟩:=a7;have HR:=J4 I C Y hy;clear I C Y hy;go_wp2_with fail;refine HS.out.mono ?_;rintro e w3 ⟨rfl,a8⟩;have b0:=oH a8;clear a8;by_cases he:x.map iE=y.map iE
 ·rw[av he];have HE:=oH he;clear he;go_wp2_with fail;go_roundg (o.length-(j+1))
  ·refine⟨j+1,by omega,rfl,by go_num,HR.1.trans b0.out,fun i a b hi J R=>?_⟩
   by_cases e:i=j;·subst e;rw[HR.2.2.1] at J;rw[HR.2.2.2] at R;cases J;cases R;exact HE.out
   exact HR.2.1 i a b (by omega) J R
  omega
 rw[au he];have HD:=oH (au (P:=o.map (fun l=>l.map iE)=lb.map (fun l=>l.map iE)) (qC HR.2.2.1 HR.2.2.2 he));clear he;go_wp2_with fail;go_ret;exact⟨by rw[HD.out]<;>rfl,HR.1.trans b0.out⟩)
 obtain rfl:j=o.length:=by omega
 have HR:=J2 I C;clear I C;have HD:=oH (av (P:=o.map (fun l=>l.map iE)=lb.map (fun l=>l.map iE)) (lP b1.out (fun i x y Y hy=>HR.2 i x y (lS.1 Y).1 Y hy)));go_wp2_with fail;go_ret;exact⟨by rw[HD.out]<;>rfl,HR.1⟩)
 have t0:((o.length:Int) !=(lb.length:Int))=true:=by simp;omega
 have HD:=oH (au (P:=o.map (fun l=>l.map iE)=lb.map (fun l=>l.map iE)) (sS hlen));clear hlen;go_enter func162,ntmps162;go_wp2_with fail;go_ret;exact⟨by rw[HD.out]<;>rfl,kR⟩
def fC (b:aw):Int×Int×List (List bz):=(b.params,b.vars,b.Ng.map fun l=>l.map iE)
theorem CG {x y:aw}:fC x=fC y↔x.params=y.params∧x.vars=y.vars∧x.Ng.map (fun l=>l.map iE)=y.Ng.map (fun l=>l.map iE):=by simp[fC]
theorem AQ (S T:Nat→Prop)(x y:aw)(xa ya:Value)(w:World)(h1:bW S w xa x.Ng)(h2:bW T w ya y.Ng):
 Calls prog 161 #[.agg #[.int .i64 x.params,.int .i64 x.vars,xa],.agg #[.int .i64 y.params,.int .i64 y.vars,ya]] w fun e w'=>e=.returned (.bool (pB (fC x=fC y)))∧aa All w w':=by
 have hA:=fun wn (hk:aa All w wn)=>Ac S T xa ya x.Ng y.Ng wn (bg.keep hk.all h1) (bg.keep hk.all h2);obtain⟨a1,a6,rfl,_⟩:=h1;obtain⟨a7,a8,rfl,_⟩:=h2;obtain⟨W1,j⟩:=eQ ((w.alloc (.cells #[.int .i64 x.params,.int .i64 x.vars,.slice a1 x.Ng.length a6] 42)).alloc (.cells #[.int .i64 y.params,.int .i64 y.vars,.slice a7 y.Ng.length a8] 42));have C:=aC2 j;have R:=aA1 j;have Y:=aB0 j aE1;have e0:=R.cl 0;have e1:=R.cl 1;have e2:=R.cl 2;have f0:=Y.cl 0;have f1:=Y.cl 1;have f2:=Y.cl 2;have o:=J3 j C hA;have HI:=oH (CG (x:=x) (y:=y));clear j C R Y hA;go_enter func161,ntmps161;go_upto_region 1 with fail;rw[←o.1];by_cases d0:x.params=y.params
 case neg=>(
 have t0:(x.params==y.params)=false:=by rw[bE];exact d0
 have I:=oH (au (P:=fC x=fC y) fun h=>d0 (HI.1 h).1);clear d0;go_wp2_with fail;go_ret;exact⟨by rw[I.out]<;>rfl,o.2.1⟩)
 have t0:(x.params==y.params)=true:=by rw[cy];exact d0
 have D0:=oH d0;clear d0;by_cases d1:x.vars=y.vars
 case neg=>(
 have t1:(x.vars==y.vars)=false:=by rw[bE];exact d1
 have I:=oH (au (P:=fC x=fC y) fun h=>d1 (HI.1 h).2.1);clear d1;go_wp2_with fail;go_ret;exact⟨by rw[I.out]<;>rfl,o.2.1⟩)
 have t1:(x.vars==y.vars)=true:=by rw[cy];exact d1
 have D1:=oH d1;clear d1;go_wp2_with fail;refine(o.2.2 _ o.2.1).mono ?_;rintro e w3 ⟨rfl,J⟩;have H3:=oH J;clear J;have I:=oH (show pB (x.Ng.map (fun l=>l.map iE)=y.Ng.map (fun l=>l.map iE))=pB (fC x=fC y) by
  by_cases h:x.Ng.map (fun l=>l.map iE)=y.Ng.map (fun l=>l.map iE);·rw[av h,av (HI.2 ⟨D0.out,D1.out,h⟩)]
  rw[au h,au fun h'=>h (HI.1 h').2.2])
 rw[I.out];go_wp2_with fail;go_ret;exact⟨rfl,o.2.1.trans H3.out⟩
theorem wJ (S T:Nat→Prop)(va vb:Value)(o lb:List (aw))(w:World)(ha:mL S w va o)(hb:mL T w vb lb):
 Calls prog 160 #[va,vb,.func (.func 161) #[] #[]] w fun e w'=>e=.returned (.bool (pB (o.map fC=lb.map fC)))∧aa All w w':=by
 have hA:=bV.la ha;have hB:=bV.la hb;obtain⟨A1,c1,rfl,l1,l2,l3,_⟩:=ha;obtain⟨A2,c2,rfl,m1,m2,m3,_⟩:=hb;unfold maxLen at l2 m2;have HV:=J2 hA hB;clear hA hB;by_cases hlen:o.length=lb.length;·(
 have t0:((o.length:Int) !=(lb.length:Int))=false:=by simp;omega
 have b6:=oH hlen;have c0:=eE hlen;have c4:=eE hlen.symm;clear hlen;go_enter func160,ntmps160;go_wp2_with fail;go_loopg [17] o.length (fun g s wr=>∃j:Nat,j≤o.length∧g=o.length-j∧s=.int .i64 j∧aa All w wr∧∀(i:Nat) x y,i<j→o[i]? =some x→lb[i]? =some y→fC x=fC y);·exact⟨0,by omega,by omega,rfl,kR,fun i a b h=>by omega⟩
 obtain⟨j,hj,rfl,rfl,I,C⟩:=hrel;by_cases b7:j<o.length;·(
 obtain⟨x,hx⟩:=eG b7;have a8:j<lb.length:=by omega
 obtain⟨y,hy⟩:=eG a8;obtain⟨xb,xo,c5,rfl,_,_,Y,xa,rfl,b0,_⟩:=aZ (HV.1 wr I) hx;obtain⟨yb,yo,c6,rfl,_,_,a1,ya,rfl,b1,_⟩:=aZ (HV.2 wr I) hy;have hS:=fun wn (hk:aa All wr wn)=>AQ S T x y xa ya wn (bg.keep hk.all b0) (bg.keep hk.all b1);obtain⟨b2,b3,rfl,_⟩:=b0;obtain⟨b8,b9,rfl,_⟩:=b1;have x0:=Y 0 _ rfl;have x1:=Y 1 _ rfl;have x2:=Y 2 _ rfl;have y0:=a1 0 _ rfl;have y1:=a1 1 _ rfl;have y2:=a1 2 _ rfl;rw[dj] at x0 y0;obtain⟨Wa,a6⟩:=eQ (wr.alloc (.cells #[.int .i64 x.params,.int .i64 x.vars,.slice b2 x.Ng.length b3] 42));have J:=aC1 a6;have y0:=J.cell trivial y0;have y1:=J.cell trivial y1;have y2:=J.cell trivial y2;obtain⟨W2,R⟩:=eQ (Wa.alloc (.cells #[.int .i64 y.params,.int .i64 y.vars,.slice b8 y.Ng.length b9] 42));have a7:aa All wr W2:=by rw[R];exact J.alloc _
 have bX:al W2 wr.heap.size 42 #[.int .i64 x.params,.int .i64 x.vars,.slice b2 x.Ng.length b3]:=by rw[R,a6];exact(al.new _ _ _).alloc _
 have bY:=aA0 R;have e0:=bX.cl 0;have f0:=bY.cl 0;have e1:=bX.cl 1;have f1:=bY.cl 1;have e2:=bX.cl 2;have f2:=bY.cl 2;have HS:=oH (hS W2 a7);have HR:=J7 I C hx hy R a7 a6;clear I C hx hy R a7 bX bY hS Y a1 a6 J;go_upto_region 6 with fail;rw[←HR.2.2.2.2.2.2];go_upto_region 7 with fail;rw[←HR.2.2.2.2.1];go_wp2_with fail;refine HS.out.mono ?_;rintro e w3 ⟨rfl,b4⟩;have b5:=oH b4;clear b4;by_cases he:fC x=fC y
 ·rw[av he];have HE:=oH he;clear he;go_wp2_with fail;go_roundg (o.length-(j+1))
  ·refine⟨j+1,by omega,rfl,by go_num,(HR.1.trans HR.2.2.2.2.2.1).trans b5.out,fun i a b hi ha hb=>?_⟩
   by_cases e:i=j;·subst e;rw[HR.2.2.1] at ha;rw[HR.2.2.2.1] at hb;cases ha;cases hb;exact HE.out
   exact HR.2.1 i a b (by omega) ha hb
  omega
 rw[au he];have HD:=oH (au (P:=o.map fC=lb.map fC) (qC HR.2.2.1 HR.2.2.2.1 he));clear he;go_wp2_with fail;go_ret;exact⟨by rw[HD.out]<;>rfl,(HR.1.trans HR.2.2.2.2.2.1).trans b5.out⟩)
 obtain rfl:j=o.length:=by omega
 have HR:=J2 I C;clear I C;have HD:=oH (av (P:=o.map fC=lb.map fC) (lP b6.out (fun i x y hx hy=>HR.2 i x y (lS.1 hx).1 hx hy)));go_wp2_with fail;go_ret;exact⟨by rw[HD.out]<;>rfl,HR.1⟩)
 have t0:((o.length:Int) !=(lb.length:Int))=true:=by simp;omega
 have HD:=oH (au (P:=o.map fC=lb.map fC) (sS hlen));clear hlen;go_enter func160,ntmps160;go_wp2_with fail;go_ret;exact⟨by rw[HD.out]<;>rfl,kR⟩
end Go.Proofs.YtgdlhckhpolnnaaGreatDoor
