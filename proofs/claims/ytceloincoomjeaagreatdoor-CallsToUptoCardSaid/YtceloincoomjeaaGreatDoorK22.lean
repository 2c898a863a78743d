/- Part 23 of the proof of CallsTo (its last part says what is proved). No condition. -/
import Derived.Shelf.Sort.Plain
import Derived.Shelf.Slices.Clone
import Derived.Test.YtceloincoomjeaaGreatDoorK13
namespace Go.Proofs.YtceloincoomjeaaGreatDoor
set_option maxRecDepth 100000
set_option maxHeartbeats 8000000
open Go.RowKit Go.Proofs.Tryz
theorem lP {α β:Type}{g:α→β}{j lb:List α}(l:j.length=lb.length)(h:∀(i:Nat) x y,j[i]? =some x→lb[i]? =some y→g x=g y):j.map g=lb.map g:=by
 refine List.ext_getElem? fun i=>?_;rw[cL,cL];by_cases hi:i<j.length
 ·rw[lG hi,lG (show i<lb.length by omega)]
  exact congrArg some (h i _ _ (lG hi) (lG (by omega)))
 rw[jz (by omega),jz (by omega)]
theorem qC {α β:Type}{g:α→β}{j lb:List α}{i:Nat}{x y:α}(o:j[i]? =some x)(C:lb[i]? =some y)(h:g x≠g y):j.map g≠lb.map g:=by intro e;have:=congrArg (fun l=>l[i]?) e;simp only[cL,o,C,Option.map_some,Option.some.injEq] at this;exact h this
theorem sS {α β:Type}{g:α→β}{j lb:List α}(h:j.length≠lb.length):j.map g≠lb.map g:=fun e=>h (by have:=congrArg List.length e;simpa using this)
theorem oP (S T:Nat→Prop)(va vb:Value)(l lb:List Int)(w:World)(ha:aK S w va l)(hb:aK T w vb lb):
 Calls prog 88 #[va,vb] w fun e w'=>e=.returned (.bool (decide (l=lb)))∧aa All w w':=by
 have hA:=fun wn (o:aa All w wn)=>(ah).keep o.all ha;have hB:=fun wn (o:aa All w wn)=>(ah).keep o.all hb;obtain⟨A1,c1,rfl,l1,l2,l3,_⟩:=ha;obtain⟨A2,c2,rfl,m1,m2,m3,_⟩:=hb;unfold maxLen at l2 m2;have HV:=J2 hA hB;clear hA hB;by_cases J:l.length=lb.length;·(
 have t0:((l.length:Int) !=(lb.length:Int))=false:=by simp;omega
 go_enter func88,ntmps88;go_wp2_with fail;go_loopg [13] l.length (fun g s wr=>∃j:Nat,j≤l.length∧g=l.length-j∧s=.int .i64 j∧aa All w wr∧∀(i:Nat) x y,i<j→l[i]? =some x→lb[i]? =some y→x=y);·exact⟨0,by omega,by omega,rfl,kR,fun i a b h=>by omega⟩
 obtain⟨j,hj,rfl,rfl,I,C⟩:=hrel;by_cases a7:j<l.length;·(
 obtain⟨x,hx⟩:=eG a7;have a6:j<lb.length:=by omega
 obtain⟨y,hy⟩:=eG a6;obtain⟨xb,xo,xc,rfl,_,Z,rfl,_⟩:=bn (HV.1 wr I) hx;obtain⟨yb,yo,yc,rfl,_,a1,rfl,_⟩:=bn (HV.2 wr I) hy;have Y:=J4 I C hx hy;clear I C hx hy;by_cases he:x=y;·(
 subst he;go_wp2_with fail;refine R0 9 wr (fun _=>none) ?_;iterate 3 refine O0 ?_
 refine O3 (fun wn o hp=>by(have q0:=o.cell trivial Z;have q1:=o.cell trivial a1;go_simp;with_reducible rfl)) ?_;iterate 3 refine O0 ?_
 refine O3 (fun wn o hp=>by(have q0:=o.cell trivial Z;have q1:=o.cell trivial a1;go_simp;with_reducible rfl)) ?_;refine O0 ?_;refine aG fun wt R hF=>?_;have HT:=oH R;clear R hF;simp only[dK];go_wp2_with fail;go_roundg (l.length-(j+1))
 ·refine⟨j+1,by omega,rfl,by go_num,Y.1.trans HT.out,fun i a b hi ha hb=>?_⟩
  by_cases e:i=j;·subst e;rw[Y.2.2.1] at ha;rw[Y.2.2.2] at hb;cases ha;cases hb;rfl
  exact Y.2.1 i a b (by omega) ha hb
 omega)
 have te:(x !=y)=true:=by simpa using he
 have HE:=oH he;clear he;go_wp2_with fail;refine R0 9 wr (fun _=>none) ?_;iterate 3 refine O0 ?_
 refine O3 (fun wn o hp=>by(have q0:=o.cell trivial Z;have q1:=o.cell trivial a1;go_simp;with_reducible rfl)) ?_;iterate 3 refine O0 ?_
 refine O3 (fun wn o hp=>by(have q0:=o.cell trivial Z;have q1:=o.cell trivial a1;go_simp;with_reducible rfl)) ?_;refine O0 ?_;refine aG fun wt R hF=>?_;have HT:=oH R;clear R hF;simp only[dK];go_wp2_with fail;have HD:=oH (cI (p:=l=lb) fun e=>by have h1:=Y.2.2.1;rw[e,Y.2.2.2] at h1;injection h1 with h1;exact HE.out h1.symm);go_ret;exact⟨by rw[HD.out]<;>rfl,Y.1.trans HT.out⟩)
 obtain rfl:j=l.length:=by omega
 have Y:=J2 I C;clear I C;have HL:=oH J;have HD:=oH (bL (p:=l=lb) (by have:=lP (g:=id) HL.out (fun i x y hx hy=>Y.2 i x y (lS.1 hx).1 hx hy);rwa [List.map_id,List.map_id] at this));go_wp2_with fail;go_ret;exact⟨by rw[HD.out]<;>rfl,Y.1⟩)
 have t0:((l.length:Int) !=(lb.length:Int))=true:=by simp;omega
 have HL:=oH J;clear J;go_enter func88,ntmps88;have HD:=oH (cI (p:=l=lb) fun e=>HL.out (by rw[e]));go_wp2_with fail;go_ret;exact⟨by rw[HD.out]<;>rfl,kR⟩
theorem yh (S T:Nat→Prop)(va vb:Value)(C lb:List (Int×Int))(w:World)(ha:ev S w va C)(hb:ev T w vb lb):
 Calls prog 74 #[va,vb] w fun e w'=>e=.returned (.bool (decide (C=lb)))∧aa All w w':=by
 have hA:=fun wn (l:aa All w wn)=>(bu).keep l.all ha;have hB:=fun wn (l:aa All w wn)=>(bu).keep l.all hb;obtain⟨A1,c1,rfl,l1,l2,l3,_⟩:=ha;obtain⟨A2,c2,rfl,m1,m2,m3,_⟩:=hb;unfold maxLen at l2 m2;have HV:=J2 hA hB;clear hA hB;by_cases Z:C.length=lb.length;·(
 have t0:((C.length:Int) !=(lb.length:Int))=false:=by simp;omega
 go_enter func74,ntmps74;go_wp2_with fail;go_loopg [13] C.length (fun g s wr=>∃j:Nat,j≤C.length∧g=C.length-j∧s=.int .i64 j∧aa All w wr∧∀(i:Nat) x y,i<j→C[i]? =some x→lb[i]? =some y→x=y);·exact⟨0,by omega,by omega,rfl,kR,fun i a b h=>by omega⟩
 obtain⟨j,hj,rfl,rfl,J,I⟩:=hrel;by_cases a8:j<C.length;·(
 obtain⟨x,hx⟩:=eG a8;have a7:j<lb.length:=by omega
 obtain⟨y,hy⟩:=eG a7;obtain⟨xb,xo,b0,rfl,_,_,a1,rfl,_⟩:=aZ (HV.1 wr J) hx;obtain⟨yb,yo,b1,rfl,_,_,a6,rfl,_⟩:=aZ (HV.2 wr J) hy;have x0:=a1 0 _ rfl;have x1:=a1 1 _ rfl;have y0:=a6 0 _ rfl;have y1:=a6 1 _ rfl;rw[dj] at x0 y0;clear a1 a6;have R:=J4 J I hx hy;clear J I hx hy;by_cases he:x=y;·(
 subst he;go_wp2_with fail;refine R0 9 wr (fun _=>none) ?_;iterate 3 refine O0 ?_
 refine O3 (fun wn l hp=>by(have q0:=l.cell trivial x0;have q1:=l.cell trivial x1;have q2:=l.cell trivial y0;have q3:=l.cell trivial y1;go_simp;with_reducible rfl)) ?_;iterate 3 refine O0 ?_
 refine O3 (fun wn l hp=>by(have q0:=l.cell trivial x0;have q1:=l.cell trivial x1;have q2:=l.cell trivial y0;have q3:=l.cell trivial y1;go_simp;with_reducible rfl)) ?_;refine O0 ?_;refine aG fun wt o hF=>?_;have HT:=oH o;clear o hF;simp only[dK];go_wp2_with fail;go_roundg (C.length-(j+1))
 ·refine⟨j+1,by omega,rfl,by go_num,R.1.trans HT.out,fun i a b hi ha hb=>?_⟩
  by_cases e:i=j;·subst e;rw[R.2.2.1] at ha;rw[R.2.2.2] at hb;cases ha;cases hb;rfl
  exact R.2.1 i a b (by omega) ha hb
 omega)
 obtain⟨xa,xz⟩:=x;obtain⟨ya,yz⟩:=y;have HE:=oH he;by_cases Y:xa=ya
 ·subst Y;have te:xz≠yz:=fun h=>he (by rw[h]);have tf:(xz==yz)=false:=by simpa using te
  clear he;go_wp2_with fail;refine R0 9 wr (fun _=>none) ?_;iterate 3 refine O0 ?_
  refine O3 (fun wn l hp=>by(have q0:=l.cell trivial x0;have q1:=l.cell trivial x1;have q2:=l.cell trivial y0;have q3:=l.cell trivial y1;go_simp;with_reducible rfl)) ?_;iterate 3 refine O0 ?_
  refine O3 (fun wn l hp=>by(have q0:=l.cell trivial x0;have q1:=l.cell trivial x1;have q2:=l.cell trivial y0;have q3:=l.cell trivial y1;go_simp;with_reducible rfl)) ?_;refine O0 ?_;refine aG fun wt o hF=>?_;have HT:=oH o;clear o hF;simp only[dK];go_wp2_with fail;have HD:=oH (cI (p:=C=lb) fun e=>by have Y:=R.2.2.1;rw[e,R.2.2.2] at Y;injection Y with Y;exact HE.out Y.symm);go_ret;exact⟨by rw[HD.out]<;>rfl,R.1.trans HT.out⟩
 have tf:(xa==ya)=false:=by simpa using Y
 clear he;go_wp2_with fail;refine R0 9 wr (fun _=>none) ?_;iterate 3 refine O0 ?_
 refine O3 (fun wn l hp=>by(have q0:=l.cell trivial x0;have q1:=l.cell trivial x1;have q2:=l.cell trivial y0;have q3:=l.cell trivial y1;go_simp;with_reducible rfl)) ?_;iterate 3 refine O0 ?_
 refine O3 (fun wn l hp=>by(have q0:=l.cell trivial x0;have q1:=l.cell trivial x1;have q2:=l.cell trivial y0;have q3:=l.cell trivial y1;go_simp;with_reducible rfl)) ?_;refine O0 ?_;refine aG fun wt o hF=>?_;have HT:=oH o;clear o hF;simp only[dK];go_wp2_with fail;have HD:=oH (cI (p:=C=lb) fun e=>by have Y:=R.2.2.1;rw[e,R.2.2.2] at Y;injection Y with Y;exact HE.out Y.symm);go_ret;exact⟨by rw[HD.out]<;>rfl,R.1.trans HT.out⟩)
 obtain rfl:j=C.length:=by omega
 have R:=J2 J I;clear J I;have HL:=oH Z;have HD:=oH (bL (p:=C=lb) (by have:=lP (g:=id) HL.out (fun i x y hx hy=>R.2 i x y (lS.1 hx).1 hx hy);rwa [List.map_id,List.map_id] at this));go_wp2_with fail;go_ret;exact⟨by rw[HD.out]<;>rfl,R.1⟩)
 have t0:((C.length:Int) !=(lb.length:Int))=true:=by simp;omega
 have HL:=oH Z;clear Z;go_enter func74,ntmps74;have HD:=oH (cI (p:=C=lb) fun e=>HL.out (by rw[e]));go_wp2_with fail;go_ret;exact⟨by rw[HD.out]<;>rfl,kR⟩
theorem Bf {x y:bz}:jD x y↔x.kind=y.kind∧x.op=y.op∧x.dst=y.dst∧x.ref=y.ref∧x.Ni=y.Ni∧x.num=y.num∧x.args=y.args∧x.Nh=y.Nh:=by
 obtain⟨k,o,d,r,a,l,f,n,p⟩:=x;obtain⟨k',o',d',r',a',l',f',n',p'⟩:=y;simp only[jD,iE,bz.mk.injEq,and_true];constructor;·rintro⟨j,C,I,J,R,Y,Z,h8⟩;exact⟨j,C,I,J,R,h8,Y,Z⟩
 rintro⟨j,C,I,J,R,Y,Z,h8⟩;exact⟨j,C,I,J,R,Z,h8,Y⟩
theorem Be (S T:Nat→Prop)(x y:bz)(xa xf ya yf:Value)(w:World)(h1:aK S w xa x.args)(h2:aK S w xf x.Nh)(h3:aK T w ya y.args)(h4:aK T w yf y.Nh):
 Calls prog 80 #[.agg #[.int .u8 x.kind,.int .u8 x.op,.int .i64 x.dst,.int .i64 x.ref,.int .i64 x.Ni,xa,xf,.int .i64 x.num,.int .i64 x.Nj],.agg #[.int .u8 y.kind,.int .u8 y.op,.int .i64 y.dst,.int .i64 y.ref,.int .i64 y.Ni,ya,yf,.int .i64 y.num,.int .i64 y.Nj]] w fun e w'=>e=.returned (.bool (pB (jD x y)))∧aa All w w':=by
 have hA:=fun wn (Z:aa All w wn)=>oP S T xa ya x.args y.args wn (ah.keep Z.all h1) (ah.keep Z.all h3);have hF:=fun wn (Z:aa All w wn)=>oP S T xf yf x.Nh y.Nh wn (ah.keep Z.all h2) (ah.keep Z.all h4);obtain⟨a1,a6,rfl,_⟩:=h1;obtain⟨a7,a8,rfl,_⟩:=h2;obtain⟨b0,b1,rfl,_⟩:=h3;obtain⟨b2,b3,rfl,_⟩:=h4;obtain⟨W1,o⟩:=eQ ((w.alloc (.cells #[.int .u8 x.kind,.int .u8 x.op,.int .i64 x.dst,.int .i64 x.ref,.int .i64 x.Ni,.slice a1 x.args.length a6,.slice a7 x.Nh.length a8,.int .i64 x.num,.int .i64 x.Nj] 52)).alloc (.cells #[.int .u8 y.kind,.int .u8 y.op,.int .i64 y.dst,.int .i64 y.ref,.int .i64 y.Ni,.slice b0 y.args.length b1,.slice b2 y.Nh.length b3,.int .i64 y.num,.int .i64 y.Nj] 52));have b4:aa All w W1:=by rw[o];exact(kR.alloc _).alloc _
 have C:al W1 w.heap.size 52 #[.int .u8 x.kind,.int .u8 x.op,.int .i64 x.dst,.int .i64 x.ref,.int .i64 x.Ni,.slice a1 x.args.length a6,.slice a7 x.Nh.length a8,.int .i64 x.num,.int .i64 x.Nj]:=by rw[o];exact(al.new _ _ _).alloc _
 have I:al W1 (w.heap.size+1) 52 #[.int .u8 y.kind,.int .u8 y.op,.int .i64 y.dst,.int .i64 y.ref,.int .i64 y.Ni,.slice b0 y.args.length b1,.slice b2 y.Nh.length b3,.int .i64 y.num,.int .i64 y.Nj]:=by rw[o];exact ac (by simp)
 have e0:=C.cell 0;have f0:=I.cell 0;have e1:=C.cell 1;have f1:=I.cell 1;have e2:=C.cell 2;have f2:=I.cell 2;have e3:=C.cell 3;have f3:=I.cell 3;have e4:=C.cell 4;have f4:=I.cell 4;have e5:=C.cell 5;have f5:=I.cell 5;have e7:=C.cell 7;have f7:=I.cell 7;simp only[gc] at e0 f0 e1 f1 e2 f2 e3 f3 e4 f4 e5 f5 e7 f7;have j:=J6 o b4 C I hA hF;have J:=oH (Bf (x:=x) (y:=y));clear o b4 C I hA hF;go_enter func80,ntmps80;go_upto_region 1 with fail;rw[←j.1];by_cases d0:x.kind=y.kind
 case neg=>(
 have t0:((x.kind:Int)==(y.kind:Int))=false:=by rw[bE];omega
 have l:=oH (au (P:=jD x y) fun h=>d0 (J.1 h).1);clear d0;go_wp2_with fail;go_ret;exact⟨by rw[l.out]<;>rfl,j.2.1⟩)
 have t0:((x.kind:Int)==(y.kind:Int))=true:=by rw[cy];omega
 have D0:=oH d0;clear d0;by_cases d1:x.op=y.op
 case neg=>(
 have t1:((x.op:Int)==(y.op:Int))=false:=by rw[bE];omega
 have l:=oH (au (P:=jD x y) fun h=>d1 (J.1 h).2.1);clear d1;go_wp2_with fail;go_ret;exact⟨by rw[l.out]<;>rfl,j.2.1⟩)
 have t1:((x.op:Int)==(y.op:Int))=true:=by rw[cy];omega
 have D1:=oH d1;clear d1;by_cases d2:x.dst=y.dst
 case neg=>(
 have t2:((x.dst:Int)==(y.dst:Int))=false:=by rw[bE];omega
 have l:=oH (au (P:=jD x y) fun h=>d2 (J.1 h).2.2.1);clear d2;go_wp2_with fail;go_ret;exact⟨by rw[l.out]<;>rfl,j.2.1⟩)
 have t2:((x.dst:Int)==(y.dst:Int))=true:=by rw[cy];omega
 have D2:=oH d2;clear d2;by_cases d3:x.ref=y.ref
 case neg=>(
 have t3:((x.ref:Int)==(y.ref:Int))=false:=by rw[bE];omega
 have l:=oH (au (P:=jD x y) fun h=>d3 (J.1 h).2.2.2.1);clear d3;go_wp2_with fail;go_ret;exact⟨by rw[l.out]<;>rfl,j.2.1⟩)
 have t3:((x.ref:Int)==(y.ref:Int))=true:=by rw[cy];omega
 have D3:=oH d3;clear d3;by_cases d4:x.Ni=y.Ni
 case neg=>(
 have t4:((x.Ni:Int)==(y.Ni:Int))=false:=by rw[bE];omega
 have l:=oH (au (P:=jD x y) fun h=>d4 (J.1 h).2.2.2.2.1);clear d4;go_wp2_with fail;go_ret;exact⟨by rw[l.out]<;>rfl,j.2.1⟩)
 have t4:((x.Ni:Int)==(y.Ni:Int))=true:=by rw[cy];omega
 have D4:=oH d4;clear d4;by_cases d5:x.num=y.num
 case neg=>(
 have t5:((x.num:Int)==(y.num:Int))=false:=by rw[bE];omega
 have l:=oH (au (P:=jD x y) fun h=>d5 (J.1 h).2.2.2.2.2.1);clear d5;go_wp2_with fail;go_ret;exact⟨by rw[l.out]<;>rfl,j.2.1⟩)
 have t5:((x.num:Int)==(y.num:Int))=true:=by rw[cy];omega
 have D5:=oH d5;clear d5;go_wp2_with fail;refine(j.2.2.2.2.1 _ j.2.1).mono ?_;rintro e w2 ⟨rfl,R⟩;have e6:=(j.2.2.1.kept R trivial).cell 6;have f6:=(j.2.2.2.1.kept R trivial).cell 6;simp only[gc] at e6 f6;have H2:=oH R;clear R;by_cases Y:x.args=y.args
 case neg=>(rw[cI Y];have l:=oH (au (P:=jD x y) fun h=>Y (J.1 h).2.2.2.2.2.2.1);clear Y;go_wp2_with fail;go_ret;exact⟨by rw[l.out]<;>rfl,j.2.1.trans H2.out⟩)
 rw[bL Y];have HA:=oH Y;clear Y;go_wp2_with fail;refine(j.2.2.2.2.2 _ (j.2.1.trans H2.out)).mono ?_;rintro e w3 ⟨rfl,b5⟩;have H3:=oH b5;clear b5;have l:=oH (show decide (x.Nh=y.Nh)=pB (jD x y) by
  by_cases h:x.Nh=y.Nh;·rw[bL h,av (J.2 ⟨D0.out,D1.out,D2.out,D3.out,D4.out,D5.out,HA.out,h⟩)]
  rw[cI h,au fun h'=>h (J.1 h').2.2.2.2.2.2.2])
 rw[l.out];go_wp2_with fail;go_ret;exact⟨rfl,(j.2.1.trans H2.out).trans H3.out⟩
theorem CS (S T:Nat→Prop)(va vb:Value)(J lb:List (bz))(w:World)(ha:tZ S w va J)(hb:tZ T w vb lb):
 Calls prog 79 #[va,vb,.func (.func 80) #[] #[]] w fun e w'=>e=.returned (.bool (pB (J.map iE=lb.map iE)))∧aa All w w':=by
 have hA:=cT.la ha;have hB:=cT.la hb;obtain⟨A1,c1,rfl,l1,l2,l3,_⟩:=ha;obtain⟨A2,c2,rfl,m1,m2,m3,_⟩:=hb;unfold maxLen at l2 m2;have HV:=J2 hA hB;clear hA hB;by_cases I:J.length=lb.length;·(
 have t0:((J.length:Int) !=(lb.length:Int))=false:=by simp;omega
 have c6:=oH I;have c8:=eE I;have c9:=eE I.symm;clear I;go_enter func79,ntmps79;go_wp2_with fail;go_loopg [17] J.length (fun g s wr=>∃j:Nat,j≤J.length∧g=J.length-j∧s=.int .i64 j∧aa All w wr∧∀(i:Nat) x y,i<j→J[i]? =some x→lb[i]? =some y→iE x=iE y);·exact⟨0,by omega,by omega,rfl,kR,fun i a b h=>by omega⟩
 obtain⟨j,hj,rfl,rfl,Z,R⟩:=hrel;by_cases c7:j<J.length;·(
 obtain⟨x,hx⟩:=eG c7;have a8:j<lb.length:=by omega
 obtain⟨y,hy⟩:=eG a8;obtain⟨xb,xo,d7,rfl,_,_,o,xa,xf,rfl,b0,b1,_⟩:=aZ (HV.1 wr Z) hx;obtain⟨yb,yo,d8,rfl,_,_,C,ya,yf,rfl,b2,b3,_⟩:=aZ (HV.2 wr Z) hy;have hS:=fun wn (hk:aa All wr wn)=>Be S T x y xa xf ya yf wn (ah.keep hk.all b0) (ah.keep hk.all b1) (ah.keep hk.all b2) (ah.keep hk.all b3);obtain⟨b4,b5,rfl,_⟩:=b0;obtain⟨b6,b7,rfl,_⟩:=b1;obtain⟨b8,b9,rfl,_⟩:=b2;obtain⟨c0,c3,rfl,_⟩:=b3;have x0:=o 0 _ rfl;have x1:=o 1 _ rfl;have x2:=o 2 _ rfl;have x3:=o 3 _ rfl;have x4:=o 4 _ rfl;have x5:=o 5 _ rfl;have x6:=o 6 _ rfl;have x7:=o 7 _ rfl;have x8:=o 8 _ rfl;have y0:=C 0 _ rfl;have y1:=C 1 _ rfl;have y2:=C 2 _ rfl;have y3:=C 3 _ rfl;have y4:=C 4 _ rfl;have y5:=C 5 _ rfl;have y6:=C 6 _ rfl;have y7:=C 7 _ rfl;have y8:=C 8 _ rfl;rw[dj] at x0 y0;obtain⟨Wa,a6⟩:=eQ (wr.alloc (.cells #[.int .u8 x.kind,.int .u8 x.op,.int .i64 x.dst,.int .i64 x.ref,.int .i64 x.Ni,.slice b4 x.args.length b5,.slice b6 x.Nh.length b7,.int .i64 x.num,.int .i64 x.Nj] 52));have l:aa All wr Wa:=by rw[a6];exact kR.alloc _
 have y0:=l.cell trivial y0;have y1:=l.cell trivial y1;have y2:=l.cell trivial y2;have y3:=l.cell trivial y3;have y4:=l.cell trivial y4;have y5:=l.cell trivial y5;have y6:=l.cell trivial y6;have y7:=l.cell trivial y7;have y8:=l.cell trivial y8;obtain⟨W2,a1⟩:=eQ (Wa.alloc (.cells #[.int .u8 y.kind,.int .u8 y.op,.int .i64 y.dst,.int .i64 y.ref,.int .i64 y.Ni,.slice b8 y.args.length b9,.slice c0 y.Nh.length c3,.int .i64 y.num,.int .i64 y.Nj] 52));have a7:aa All wr W2:=by rw[a1];exact l.alloc _
 have bX:al W2 wr.heap.size 52 #[.int .u8 x.kind,.int .u8 x.op,.int .i64 x.dst,.int .i64 x.ref,.int .i64 x.Ni,.slice b4 x.args.length b5,.slice b6 x.Nh.length b7,.int .i64 x.num,.int .i64 x.Nj]:=by rw[a1,a6];exact(al.new _ _ _).alloc _
 have bY:al W2 Wa.heap.size 52 #[.int .u8 y.kind,.int .u8 y.op,.int .i64 y.dst,.int .i64 y.ref,.int .i64 y.Ni,.slice b8 y.args.length b9,.slice c0 y.Nh.length c3,.int .i64 y.num,.int .i64 y.Nj]:=by rw[a1];exact ac rfl
 have e0:=bX.cell 0;have f0:=bY.cell 0;have e1:=bX.cell 1;have f1:=bY.cell 1;have e2:=bX.cell 2;have f2:=bY.cell 2;have e3:=bX.cell 3;have f3:=bY.cell 3;have e4:=bX.cell 4;have f4:=bY.cell 4;have e5:=bX.cell 5;have f5:=bY.cell 5;have e6:=bX.cell 6;have f6:=bY.cell 6;have e7:=bX.cell 7;have f7:=bY.cell 7;have e8:=bX.cell 8;have f8:=bY.cell 8;simp only[gc] at e0 f0 e1 f1 e2 f2 e3 f3 e4 f4 e5 f5 e6 f6 e7 f7 e8 f8;have HS:=oH (hS W2 a7);have Y:=J7 Z R hx hy a1 a7 a6;clear Z R hx hy a1 a7 bX bY hS o C a6 l;go_upto_region 6 with fail;rw[←Y.2.2.2.2.2.2];go_upto_region 7 with fail;rw[←Y.2.2.2.2.1];go_wp2_with fail;refine HS.out.mono ?_;rintro e w3 ⟨rfl,c4⟩;have c5:=oH c4;clear c4;by_cases he:jD x y
 ·rw[av he];have HE:=oH he;clear he;go_wp2_with fail;go_roundg (J.length-(j+1))
  ·refine⟨j+1,by omega,rfl,by go_num,(Y.1.trans Y.2.2.2.2.2.1).trans c5.out,fun i a b hi ha hb=>?_⟩
   by_cases e:i=j;·subst e;rw[Y.2.2.1] at ha;rw[Y.2.2.2.1] at hb;cases ha;cases hb;exact HE.out
   exact Y.2.1 i a b (by omega) ha hb
  omega
 rw[au he];have HD:=oH (au (P:=J.map iE=lb.map iE) (qC Y.2.2.1 Y.2.2.2.1 he));clear he;go_wp2_with fail;go_ret;exact⟨by rw[HD.out]<;>rfl,(Y.1.trans Y.2.2.2.2.2.1).trans c5.out⟩)
 obtain rfl:j=J.length:=by omega
 have Y:=J2 Z R;clear Z R;have HD:=oH (av (P:=J.map iE=lb.map iE) (lP c6.out (fun i x y hx hy=>Y.2 i x y (lS.1 hx).1 hx hy)));go_wp2_with fail;go_ret;exact⟨by rw[HD.out]<;>rfl,Y.1⟩)
 have t0:((J.length:Int) !=(lb.length:Int))=true:=by simp;omega
 have HD:=oH (au (P:=J.map iE=lb.map iE) (sS I));clear I;go_enter func79,ntmps79;go_wp2_with fail;go_ret;exact⟨by rw[HD.out]<;>rfl,kR⟩
theorem CT (S T:Nat→Prop)(l o:Value)(C lb:List bz)(w:World)(J:tZ S w l C)(R:tZ T w o lb):
 Calls prog 78 #[l,o] w fun e Y=>e=.returned (.bool (pB (C.map iE=lb.map iE)))∧aa All w Y:=by
 have H:=oH (CS S T l o C lb w J R);clear J R;go_enter func78,ntmps78;go_wp2_with fail;refine H.out.mono ?_;rintro e Z ⟨rfl,j⟩;have I:=oH j;clear j;go_wp2_with fail;go_ret;exact⟨rfl,I.out⟩
theorem Ac (S T:Nat→Prop)(va vb:Value)(C lb:List (List bz))(w:World)(Y:bW S w va C)(Z:bW T w vb lb):
 Calls prog 77 #[va,vb,.func (.func 78) #[] #[]] w fun e w'=>e=.returned (.bool (pB (C.map (fun l=>l.map iE)=lb.map (fun l=>l.map iE))))∧aa All w w':=by
 have hA:=bg.la Y;have hB:=bg.la Z;obtain⟨A1,c1,rfl,l1,l2,l3,_⟩:=Y;obtain⟨A2,c2,rfl,m1,m2,m3,_⟩:=Z;unfold maxLen at l2 m2;have HV:=J2 hA hB;clear hA hB;by_cases o:C.length=lb.length;·(
 have t0:((C.length:Int) !=(lb.length:Int))=false:=by simp;omega
 have b1:=oH o;have b3:=eE o;have b4:=eE o.symm;clear o;go_enter func77,ntmps77;go_wp2_with fail;go_loopg [17] C.length (fun g s wr=>∃j:Nat,j≤C.length∧g=C.length-j∧s=.int .i64 j∧aa All w wr∧∀(i:Nat) x y,i<j→C[i]? =some x→lb[i]? =some y→(fun l=>l.map iE) x=(fun l=>l.map iE) y);·exact⟨0,by omega,by omega,rfl,kR,fun i a b h=>by omega⟩
 obtain⟨j,hj,rfl,rfl,J,I⟩:=hrel;by_cases b2:j<C.length;·(
 obtain⟨x,hx⟩:=eG b2;have a1:j<lb.length:=by omega
 obtain⟨y,hy⟩:=eG a1;obtain⟨xb,xo,xv,rfl,_,b5,a6⟩:=bn (HV.1 wr J) hx;obtain⟨yb,yo,yv,rfl,_,b6,a7⟩:=bn (HV.2 wr J) hy;have HS:=oH (CT S T xv yv x y wr a6 a7);obtain⟨x1,x2,rfl,_⟩:=a6;obtain⟨y1,y2,rfl,_⟩:=a7;have R:=J4 J I hx hy;clear J I hx hy;go_wp2_with fail;refine HS.out.mono ?_;rintro e w3 ⟨rfl,a8⟩;have b0:=oH a8;clear a8;by_cases he:x.map iE=y.map iE
 ·rw[av he];have HE:=oH he;clear he;go_wp2_with fail;go_roundg (C.length-(j+1))
  ·refine⟨j+1,by omega,rfl,by go_num,R.1.trans b0.out,fun i a b hi Y Z=>?_⟩
   by_cases e:i=j;·subst e;rw[R.2.2.1] at Y;rw[R.2.2.2] at Z;cases Y;cases Z;exact HE.out
   exact R.2.1 i a b (by omega) Y Z
  omega
 rw[au he];have HD:=oH (au (P:=C.map (fun l=>l.map iE)=lb.map (fun l=>l.map iE)) (qC R.2.2.1 R.2.2.2 he));clear he;go_wp2_with fail;go_ret;exact⟨by rw[HD.out]<;>rfl,R.1.trans b0.out⟩)
 obtain rfl:j=C.length:=by omega
 have R:=J2 J I;clear J I;have HD:=oH (av (P:=C.map (fun l=>l.map iE)=lb.map (fun l=>l.map iE)) (lP b1.out (fun i x y hx hy=>R.2 i x y (lS.1 hx).1 hx hy)));go_wp2_with fail;go_ret;exact⟨by rw[HD.out]<;>rfl,R.1⟩)
 have t0:((C.length:Int) !=(lb.length:Int))=true:=by simp;omega
 have HD:=oH (au (P:=C.map (fun l=>l.map iE)=lb.map (fun l=>l.map iE)) (sS o));clear o;go_enter func77,ntmps77;go_wp2_with fail;go_ret;exact⟨by rw[HD.out]<;>rfl,kR⟩
def fC (b:aw):Int×Int×List (List bz):=(b.params,b.vars,b.Ng.map fun l=>l.map iE)
theorem CG {x y:aw}:fC x=fC y↔x.params=y.params∧x.vars=y.vars∧x.Ng.map (fun l=>l.map iE)=y.Ng.map (fun l=>l.map iE):=by simp[fC]
theorem AQ (S T:Nat→Prop)(x y:aw)(xa ya:Value)(w:World)(h1:bW S w xa x.Ng)(h2:bW T w ya y.Ng):
 Calls prog 76 #[.agg #[.int .i64 x.params,.int .i64 x.vars,xa],.agg #[.int .i64 y.params,.int .i64 y.vars,ya]] w fun e w'=>e=.returned (.bool (pB (fC x=fC y)))∧aa All w w':=by
 have hA:=fun wn (hk:aa All w wn)=>Ac S T xa ya x.Ng y.Ng wn (bg.keep hk.all h1) (bg.keep hk.all h2);obtain⟨C,I,rfl,_⟩:=h1;obtain⟨J,R,rfl,_⟩:=h2;obtain⟨W1,j⟩:=eQ ((w.alloc (.cells #[.int .i64 x.params,.int .i64 x.vars,.slice C x.Ng.length I] 48)).alloc (.cells #[.int .i64 y.params,.int .i64 y.vars,.slice J y.Ng.length R] 48));have Y:aa All w W1:=by rw[j];exact(kR.alloc _).alloc _
 have bX:al W1 w.heap.size 48 #[.int .i64 x.params,.int .i64 x.vars,.slice C x.Ng.length I]:=by rw[j];exact(al.new _ _ _).alloc _
 have bY:al W1 (w.heap.size+1) 48 #[.int .i64 y.params,.int .i64 y.vars,.slice J y.Ng.length R]:=by rw[j];exact ac (by simp)
 have e0:=bX.cell 0;have e1:=bX.cell 1;have e2:=bX.cell 2;have f0:=bY.cell 0;have f1:=bY.cell 1;have f2:=bY.cell 2;simp only[gc] at e0 e1 e2 f0 f1 f2;have o:=J3 j Y hA;have HI:=oH (CG (x:=x) (y:=y));clear j Y bX bY hA;go_enter func76,ntmps76;go_upto_region 1 with fail;rw[←o.1];by_cases d0:x.params=y.params
 case neg=>(
 have t0:(x.params==y.params)=false:=by rw[bE];exact d0
 have Z:=oH (au (P:=fC x=fC y) fun h=>d0 (HI.1 h).1);clear d0;go_wp2_with fail;go_ret;exact⟨by rw[Z.out]<;>rfl,o.2.1⟩)
 have t0:(x.params==y.params)=true:=by rw[cy];exact d0
 have D0:=oH d0;clear d0;by_cases d1:x.vars=y.vars
 case neg=>(
 have t1:(x.vars==y.vars)=false:=by rw[bE];exact d1
 have Z:=oH (au (P:=fC x=fC y) fun h=>d1 (HI.1 h).2.1);clear d1;go_wp2_with fail;go_ret;exact⟨by rw[Z.out]<;>rfl,o.2.1⟩)
 have t1:(x.vars==y.vars)=true:=by rw[cy];exact d1
 have D1:=oH d1;clear d1;go_wp2_with fail;refine(o.2.2 _ o.2.1).mono ?_;rintro e w3 ⟨rfl,a1⟩;have H3:=oH a1;clear a1;have Z:=oH (show pB (x.Ng.map (fun l=>l.map iE)=y.Ng.map (fun l=>l.map iE))=pB (fC x=fC y) by
  by_cases h:x.Ng.map (fun l=>l.map iE)=y.Ng.map (fun l=>l.map iE);·rw[av h,av (HI.2 ⟨D0.out,D1.out,h⟩)]
  rw[au h,au fun h'=>h (HI.1 h').2.2])
 rw[Z.out];go_wp2_with fail;go_ret;exact⟨rfl,o.2.1.trans H3.out⟩
theorem wJ (S T:Nat→Prop)(va vb:Value)(o lb:List (aw))(w:World)(ha:mL S w va o)(hb:mL T w vb lb):
 Calls prog 75 #[va,vb,.func (.func 76) #[] #[]] w fun e w'=>e=.returned (.bool (pB (o.map fC=lb.map fC)))∧aa All w w':=by
 have hA:=bV.la ha;have hB:=bV.la hb;obtain⟨A1,c1,rfl,l1,l2,l3,_⟩:=ha;obtain⟨A2,c2,rfl,m1,m2,m3,_⟩:=hb;unfold maxLen at l2 m2;have HV:=J2 hA hB;clear hA hB;by_cases l:o.length=lb.length;·(
 have t0:((o.length:Int) !=(lb.length:Int))=false:=by simp;omega
 have b8:=oH l;have c0:=eE l;have c3:=eE l.symm;clear l;go_enter func75,ntmps75;go_wp2_with fail;go_loopg [17] o.length (fun g s wr=>∃j:Nat,j≤o.length∧g=o.length-j∧s=.int .i64 j∧aa All w wr∧∀(i:Nat) x y,i<j→o[i]? =some x→lb[i]? =some y→fC x=fC y);·exact⟨0,by omega,by omega,rfl,kR,fun i a b h=>by omega⟩
 obtain⟨j,hj,rfl,rfl,J,C⟩:=hrel;by_cases b9:j<o.length;·(
 obtain⟨x,hx⟩:=eG b9;have a8:j<lb.length:=by omega
 obtain⟨y,hy⟩:=eG a8;obtain⟨xb,xo,c4,rfl,_,_,Z,xa,rfl,b0,_⟩:=aZ (HV.1 wr J) hx;obtain⟨yb,yo,c5,rfl,_,_,a1,ya,rfl,b1,_⟩:=aZ (HV.2 wr J) hy;have hS:=fun wn (hk:aa All wr wn)=>AQ S T x y xa ya wn (bg.keep hk.all b0) (bg.keep hk.all b1);obtain⟨b2,b3,rfl,_⟩:=b0;obtain⟨b4,b5,rfl,_⟩:=b1;have x0:=Z 0 _ rfl;have x1:=Z 1 _ rfl;have x2:=Z 2 _ rfl;have y0:=a1 0 _ rfl;have y1:=a1 1 _ rfl;have y2:=a1 2 _ rfl;rw[dj] at x0 y0;obtain⟨Wa,a6⟩:=eQ (wr.alloc (.cells #[.int .i64 x.params,.int .i64 x.vars,.slice b2 x.Ng.length b3] 48));have R:aa All wr Wa:=by rw[a6];exact kR.alloc _
 have y0:=R.cell trivial y0;have y1:=R.cell trivial y1;have y2:=R.cell trivial y2;obtain⟨W2,Y⟩:=eQ (Wa.alloc (.cells #[.int .i64 y.params,.int .i64 y.vars,.slice b4 y.Ng.length b5] 48));have a7:aa All wr W2:=by rw[Y];exact R.alloc _
 have bX:al W2 wr.heap.size 48 #[.int .i64 x.params,.int .i64 x.vars,.slice b2 x.Ng.length b3]:=by rw[Y,a6];exact(al.new _ _ _).alloc _
 have bY:al W2 Wa.heap.size 48 #[.int .i64 y.params,.int .i64 y.vars,.slice b4 y.Ng.length b5]:=by rw[Y];exact ac rfl
 have e0:=bX.cell 0;have f0:=bY.cell 0;have e1:=bX.cell 1;have f1:=bY.cell 1;have e2:=bX.cell 2;have f2:=bY.cell 2;simp only[gc] at e0 f0 e1 f1 e2 f2;have HS:=oH (hS W2 a7);have I:=J7 J C hx hy Y a7 a6;clear J C hx hy Y a7 bX bY hS Z a1 a6 R;go_upto_region 6 with fail;rw[←I.2.2.2.2.2.2];go_upto_region 7 with fail;rw[←I.2.2.2.2.1];go_wp2_with fail;refine HS.out.mono ?_;rintro e w3 ⟨rfl,b6⟩;have b7:=oH b6;clear b6;by_cases he:fC x=fC y
 ·rw[av he];have HE:=oH he;clear he;go_wp2_with fail;go_roundg (o.length-(j+1))
  ·refine⟨j+1,by omega,rfl,by go_num,(I.1.trans I.2.2.2.2.2.1).trans b7.out,fun i a b hi ha hb=>?_⟩
   by_cases e:i=j;·subst e;rw[I.2.2.1] at ha;rw[I.2.2.2.1] at hb;cases ha;cases hb;exact HE.out
   exact I.2.1 i a b (by omega) ha hb
  omega
 rw[au he];have HD:=oH (au (P:=o.map fC=lb.map fC) (qC I.2.2.1 I.2.2.2.1 he));clear he;go_wp2_with fail;go_ret;exact⟨by rw[HD.out]<;>rfl,(I.1.trans I.2.2.2.2.2.1).trans b7.out⟩)
 obtain rfl:j=o.length:=by omega
 have I:=J2 J C;clear J C;have HD:=oH (av (P:=o.map fC=lb.map fC) (lP b8.out (fun i x y hx hy=>I.2 i x y (lS.1 hx).1 hx hy)));go_wp2_with fail;go_ret;exact⟨by rw[HD.out]<;>rfl,I.1⟩)
 have t0:((o.length:Int) !=(lb.length:Int))=true:=by simp;omega
 have HD:=oH (au (P:=o.map fC=lb.map fC) (sS l));clear l;go_enter func75,ntmps75;go_wp2_with fail;go_ret;exact⟨by rw[HD.out]<;>rfl,kR⟩
section
open Go.Shelf
def Tryz.lays189_ren:Go.Shelf.Ren:=⟨fun|189=>87|125=>117|257=>116|128=>159|129=>160|294=>150|295=>151|296=>152|297=>153|298=>154|299=>155|216=>156|300=>157|301=>158|328=>180|329=>181|330=>182|331=>183|332=>184|215=>185|343=>197|n=>n,fun|28=>50|3=>3|46=>177|0=>0|51=>206|53=>180|4=>4|183=>201|182=>200|131=>80|5=>5|9=>9|218=>227|222=>231|228=>242|229=>66|n=>n,fun|n=>n⟩
theorem Tryz.lays189:Go.Proofs.Lays.n189 prog Tryz.lays189_ren:= {
 mixed:=by kernel_rfl
 f125:=func117.trans (congrArg some (by kernel_rfl))
 f128:=func159.trans (congrArg some (by kernel_rfl))
 f129:=func160.trans (congrArg some (by kernel_rfl))
 f189:=func87.trans (congrArg some (by kernel_rfl))
 f215:=func185.trans (congrArg some (by kernel_rfl))
 f216:=func156.trans (congrArg some (by kernel_rfl))
 f257:=func116.trans (congrArg some (by kernel_rfl))
 f294:=func150.trans (congrArg some (by kernel_rfl))
 f295:=func151.trans (congrArg some (by kernel_rfl))
 f296:=func152.trans (congrArg some (by kernel_rfl))
 f297:=func153.trans (congrArg some (by kernel_rfl))
 f298:=func154.trans (congrArg some (by kernel_rfl))
 f299:=func155.trans (congrArg some (by kernel_rfl))
 f300:=func157.trans (congrArg some (by kernel_rfl))
 f301:=func158.trans (congrArg some (by kernel_rfl))
 f328:=func180.trans (congrArg some (by kernel_rfl))
 f329:=func181.trans (congrArg some (by kernel_rfl))
 f330:=func182.trans (congrArg some (by kernel_rfl))
 f331:=func183.trans (congrArg some (by kernel_rfl))
 f332:=func184.trans (congrArg some (by kernel_rfl))
 f343:=func197.trans (congrArg some (by kernel_rfl))
 t0:=underlying0
 a0:=Tryz.isAgg0
 z0:=Tryz.sizeOf0
 v0:=Tryz.zeroValue0
 t3:=underlying3
 a3:=Tryz.isAgg3
 z3:=Tryz.sizeOf3
 v3:=Tryz.zeroValue3
 t4:=underlying4
 a4:=Tryz.isAgg4
 z4:=Tryz.sizeOf4
 v4:=Tryz.zeroValue4
 t5:=underlying5
 a5:=Tryz.isAgg5
 z5:=Tryz.sizeOf5
 v5:=Tryz.zeroValue5
 t9:=underlying9
 a9:=Tryz.isAgg9
 z9:=Tryz.sizeOf9
 v9:=Tryz.zeroValue9
 t28:=underlying50
 a28:=Tryz.isAgg50
 z28:=Tryz.sizeOf50
 v28:=Tryz.zeroValue50
 t46:=underlying177
 a46:=Tryz.isAgg177
 z46:=Tryz.sizeOf177
 v46:=Tryz.zeroValue177
 t51:=underlying206
 a51:=Tryz.isAgg206
 z51:=Tryz.sizeOf206
 v51:=Tryz.zeroValue206
 t53:=underlying180
 a53:=Tryz.isAgg180
 z53:=Tryz.sizeOf180
 v53:=Tryz.zeroValue180
 t131:=underlying80
 a131:=Tryz.isAgg80
 z131:=Tryz.sizeOf80
 v131:=Tryz.zeroValue80
 t182:=underlying200
 a182:=Tryz.isAgg200
 z182:=Tryz.sizeOf200
 v182:=Tryz.zeroValue200
 t183:=underlying201
 a183:=Tryz.isAgg201
 z183:=Tryz.sizeOf201
 v183:=Tryz.zeroValue201
 t218:=underlying227
 a218:=Tryz.isAgg227
 z218:=Tryz.sizeOf227
 v218:=Tryz.zeroValue227
 t222:=underlying231
 a222:=Tryz.isAgg231
 z222:=Tryz.sizeOf231
 v222:=Tryz.zeroValue231
 t228:=underlying242
 a228:=Tryz.isAgg242
 z228:=Tryz.sizeOf242
 v228:=Tryz.zeroValue242
 t229:=underlying66
 a229:=Tryz.isAgg66
 z229:=Tryz.sizeOf66
 v229:=Tryz.zeroValue66}
open Go.Sort Go.RowKit in
theorem Tryz.slices_Sort_int (blk off cap:Nat)(zs:List Int)(w:World)(o:Holds (Value.int .i64) w blk off zs.toArray)(j:blk<w.heap.size)(l:zs.length<4611686018427387904):
 Calls prog 87 #[.slice (some ⟨blk,off,none⟩) zs.length cap] w fun e C=>
  e=.returned (.tuple #[])∧∃n os,C=grow (putRow (Value.int .i64) (Sort.ahead w n) blk off (zs.mergeSort fun x y=>decide (x≤y)).toArray) os:=Any.slices_Sort_int Tryz.lays189 blk off cap zs w o j l
def Tryz.laysNm215_ren:Go.Shelf.Ren:=⟨fun|15=>86|n=>n,fun|22=>50|3=>3|4=>4|n=>n,fun|n=>n⟩
theorem Tryz.laysNm215:Go.Proofs.Lays2.n15 prog Tryz.laysNm215_ren:= {
 mixed:=by kernel_rfl
 f15:=func86.trans (congrArg some (by kernel_rfl))
 t3:=underlying3
 a3:=Tryz.isAgg3
 z3:=Tryz.sizeOf3
 v3:=Tryz.zeroValue3
 t4:=underlying4
 a4:=Tryz.isAgg4
 z4:=Tryz.sizeOf4
 v4:=Tryz.zeroValue4
 t22:=underlying50
 a22:=Tryz.isAgg50
 z22:=Tryz.sizeOf50
 v22:=Tryz.zeroValue50
 i3:=by kernel_rfl}
open Go.RowKit Go.Lib in
theorem Tryz.slices_Clone_int (b off n c:Nat)(zs:List Int)(w:World)(I:n≤zs.length)(l:n*8≤140737488355328)(J:∀j,j<zs.length→w.cell? ⟨b,off+j,none⟩=some (.int .i64 (zs.getD j 0))):
 Calls prog 86 #[.slice (some ⟨b,off,none⟩) n c] w fun e C=>∃o,e=.returned o∧C.ownsRow w.heap.size 3 1 o n ((zs.take n).map (Value.int .i64))∧o≠.slice none 0 0∧Below w.heap.size w C:=Any.slices_Clone_int Tryz.laysNm215 b off n c zs w I l J
end
end Go.Proofs.YtceloincoomjeaaGreatDoor
