/- Part 23 of the proof (its last part says what is proved). No condition. -/
import Derived.Deep.DeepCutAuto
import Derived.Deep.CutBlock
import Derived.Test.YtccbbkopmlnkpaaGreatDoorK5
namespace Go.Proofs.YtccbbkopmlnkpaaGreatDoor
set_option maxRecDepth 100000
set_option maxHeartbeats 8000000
open Go.RowKit Go.Proofs.Tryz
theorem lh {α β:Type}{g:α→β}{j lb:List α}(o:j.length=lb.length)(h:∀(i:Nat) x y,j[i]? =some x→lb[i]? =some y→g x=g y):j.map g=lb.map g:=by
 refine List.ext_getElem? fun i=>?_;rw[cy,cy];by_cases hi:i<j.length
 ·rw[lG hi,lG (show i<lb.length by omega)]
  exact congrArg some (h i _ _ (lG hi) (lG (by omega)))
 rw[kS (by omega),kS (by omega)]
theorem qw {α β:Type}{g:α→β}{j lb:List α}{i:Nat}{x y:α}(o:j[i]? =some x)(C:lb[i]? =some y)(h:g x≠g y):j.map g≠lb.map g:=by intro e;have:=congrArg (fun l=>l[i]?) e;simp only[cy,o,C,Option.map_some,Option.some.injEq] at this;exact h this
theorem sO {α β:Type}{g:α→β}{j lb:List α}(h:j.length≠lb.length):j.map g≠lb.map g:=fun e=>h (by have:=congrArg List.length e;simpa using this)
theorem oI (S T:Nat→Prop)(va vb:Value)(o lb:List Int)(w:World)(ha:bu S w va o)(hb:bu T w vb lb):
 Calls prog 65 #[va,vb] w fun e w'=>e=.returned (.bool (decide (o=lb)))∧aa All w w':=by
 have hA:=fun wn (C:aa All w wn)=>(ae).keep C.all ha;have hB:=fun wn (C:aa All w wn)=>(ae).keep C.all hb;obtain⟨A1,c1,rfl,l1,l2,l3,_⟩:=ha;obtain⟨A2,c2,rfl,m1,m2,m3,_⟩:=hb;unfold maxLen at l2 m2;have HV:=J2 hA hB;clear hA hB;by_cases R:o.length=lb.length;·(
 have t0:((o.length:Int) !=(lb.length:Int))=false:=by simp;omega
 go_enter func65,ntmps65;go_wp2_with fail;go_loopg [13] o.length (fun g s wr=>∃j:Nat,j≤o.length∧g=o.length-j∧s=.int .i64 j∧aa All w wr∧∀(i:Nat) x y,i<j→o[i]? =some x→lb[i]? =some y→x=y);·exact⟨0,by omega,by omega,rfl,kR,fun i a b h=>by omega⟩
 obtain⟨j,hj,rfl,rfl,J,I⟩:=hrel;by_cases a8:j<o.length;·(
 obtain⟨x,hx⟩:=eG a8;have a7:j<lb.length:=by omega
 obtain⟨y,hy⟩:=eG a7;obtain⟨xb,xo,xc,rfl,_,a1,rfl,_⟩:=de (HV.1 wr J) hx;obtain⟨yb,yo,yc,rfl,_,a6,rfl,_⟩:=de (HV.2 wr J) hy;have HR:=J4 J I hx hy;clear J I hx hy;by_cases he:x=y;·(
 subst he;go_wp2_with fail;refine R0 9 wr (fun _=>none) ?_;iterate 3 refine O0 ?_
 refine O3 (fun wn C hp=>by(have q0:=C.cell trivial a1;have q1:=C.cell trivial a6;go_simp;with_reducible rfl)) ?_;iterate 3 refine O0 ?_
 refine O3 (fun wn C hp=>by(have q0:=C.cell trivial a1;have q1:=C.cell trivial a6;go_simp;with_reducible rfl)) ?_;refine O0 ?_;refine aD fun wt Y hF=>?_;have HT:=oH Y;clear Y hF;simp only[dK];go_wp2_with fail;go_roundg (o.length-(j+1))
 ·refine⟨j+1,by omega,rfl,by go_num,HR.1.trans HT.out,fun i a b hi ha hb=>?_⟩
  by_cases e:i=j;·subst e;rw[HR.2.2.1] at ha;rw[HR.2.2.2] at hb;cases ha;cases hb;rfl
  exact HR.2.1 i a b (by omega) ha hb
 omega)
 have te:(x !=y)=true:=by simpa using he
 have HE:=oH he;clear he;go_wp2_with fail;refine R0 9 wr (fun _=>none) ?_;iterate 3 refine O0 ?_
 refine O3 (fun wn C hp=>by(have q0:=C.cell trivial a1;have q1:=C.cell trivial a6;go_simp;with_reducible rfl)) ?_;iterate 3 refine O0 ?_
 refine O3 (fun wn C hp=>by(have q0:=C.cell trivial a1;have q1:=C.cell trivial a6;go_simp;with_reducible rfl)) ?_;refine O0 ?_;refine aD fun wt Y hF=>?_;have HT:=oH Y;clear Y hF;simp only[dK];go_wp2_with fail;have HD:=oH (cN (p:=o=lb) fun e=>by have h1:=HR.2.2.1;rw[e,HR.2.2.2] at h1;injection h1 with h1;exact HE.out h1.symm);go_ret;exact⟨by rw[HD.out]<;>rfl,HR.1.trans HT.out⟩)
 obtain rfl:j=o.length:=by omega
 have HR:=J2 J I;clear J I;have HL:=oH R;have HD:=oH (be (p:=o=lb) (by have:=lh (g:=id) HL.out (fun i x y hx hy=>HR.2 i x y (lS.1 hx).1 hx hy);rwa [List.map_id,List.map_id] at this));go_wp2_with fail;go_ret;exact⟨by rw[HD.out]<;>rfl,HR.1⟩)
 have t0:((o.length:Int) !=(lb.length:Int))=true:=by simp;omega
 have HL:=oH R;clear R;go_enter func65,ntmps65;have HD:=oH (cN (p:=o=lb) fun e=>HL.out (by rw[e]));go_wp2_with fail;go_ret;exact⟨by rw[HD.out]<;>rfl,kR⟩
theorem xX (S T:Nat→Prop)(va vb:Value)(I lb:List (Int×Int))(w:World)(ha:dJ S w va I)(hb:dJ T w vb lb):
 Calls prog 54 #[va,vb] w fun e w'=>e=.returned (.bool (decide (I=lb)))∧aa All w w':=by
 have hA:=fun wn (o:aa All w wn)=>(cr).keep o.all ha;have hB:=fun wn (o:aa All w wn)=>(cr).keep o.all hb;obtain⟨A1,c1,rfl,l1,l2,l3,_⟩:=ha;obtain⟨A2,c2,rfl,m1,m2,m3,_⟩:=hb;unfold maxLen at l2 m2;have HV:=J2 hA hB;clear hA hB;by_cases a1:I.length=lb.length;·(
 have t0:((I.length:Int) !=(lb.length:Int))=false:=by simp;omega
 go_enter func54,ntmps54;go_wp2_with fail;go_loopg [13] I.length (fun g s wr=>∃j:Nat,j≤I.length∧g=I.length-j∧s=.int .i64 j∧aa All w wr∧∀(i:Nat) x y,i<j→I[i]? =some x→lb[i]? =some y→x=y);·exact⟨0,by omega,by omega,rfl,kR,fun i a b h=>by omega⟩
 obtain⟨j,hj,rfl,rfl,R,J⟩:=hrel;by_cases b0:j<I.length;·(
 obtain⟨x,hx⟩:=eG b0;have a8:j<lb.length:=by omega
 obtain⟨y,hy⟩:=eG a8;obtain⟨xb,xo,b1,rfl,_,_,a6,rfl,_⟩:=bh (HV.1 wr R) hx;obtain⟨yb,yo,b2,rfl,_,_,a7,rfl,_⟩:=bh (HV.2 wr R) hy;have x0:=a6 0 _ rfl;have x1:=a6 1 _ rfl;have y0:=a7 0 _ rfl;have y1:=a7 1 _ rfl;rw[cJ] at x0 y0;clear a6 a7;have Y:=J4 R J hx hy;clear R J hx hy;by_cases he:x=y;·(
 subst he;go_wp2_with fail;refine R0 9 wr (fun _=>none) ?_;iterate 3 refine O0 ?_
 refine O3 (fun wn o hp=>by(have q0:=o.cell trivial x0;have q1:=o.cell trivial x1;have q2:=o.cell trivial y0;have q3:=o.cell trivial y1;go_simp;with_reducible rfl)) ?_;iterate 3 refine O0 ?_
 refine O3 (fun wn o hp=>by(have q0:=o.cell trivial x0;have q1:=o.cell trivial x1;have q2:=o.cell trivial y0;have q3:=o.cell trivial y1;go_simp;with_reducible rfl)) ?_;refine O0 ?_;refine aD fun wt C hF=>?_;have HT:=oH C;clear C hF;simp only[dK];go_wp2_with fail;go_roundg (I.length-(j+1))
 ·refine⟨j+1,by omega,rfl,by go_num,Y.1.trans HT.out,fun i a b hi ha hb=>?_⟩
  by_cases e:i=j;·subst e;rw[Y.2.2.1] at ha;rw[Y.2.2.2] at hb;cases ha;cases hb;rfl
  exact Y.2.1 i a b (by omega) ha hb
 omega)
 obtain⟨xa,xz⟩:=x;obtain⟨ya,yz⟩:=y;have HE:=oH he;by_cases h1:xa=ya
 ·subst h1;have te:xz≠yz:=fun h=>he (by rw[h]);have tf:(xz==yz)=false:=by simpa using te
  clear he;go_wp2_with fail;refine R0 9 wr (fun _=>none) ?_;iterate 3 refine O0 ?_
  refine O3 (fun wn o hp=>by(have q0:=o.cell trivial x0;have q1:=o.cell trivial x1;have q2:=o.cell trivial y0;have q3:=o.cell trivial y1;go_simp;with_reducible rfl)) ?_;iterate 3 refine O0 ?_
  refine O3 (fun wn o hp=>by(have q0:=o.cell trivial x0;have q1:=o.cell trivial x1;have q2:=o.cell trivial y0;have q3:=o.cell trivial y1;go_simp;with_reducible rfl)) ?_;refine O0 ?_;refine aD fun wt C hF=>?_;have HT:=oH C;clear C hF;simp only[dK];go_wp2_with fail;have HD:=oH (cN (p:=I=lb) fun e=>by have h1:=Y.2.2.1;rw[e,Y.2.2.2] at h1;injection h1 with h1;exact HE.out h1.symm);go_ret;exact⟨by rw[HD.out]<;>rfl,Y.1.trans HT.out⟩
 have tf:(xa==ya)=false:=by simpa using h1
 clear he;go_wp2_with fail;refine R0 9 wr (fun _=>none) ?_;iterate 3 refine O0 ?_
 refine O3 (fun wn o hp=>by(have q0:=o.cell trivial x0;have q1:=o.cell trivial x1;have q2:=o.cell trivial y0;have q3:=o.cell trivial y1;go_simp;with_reducible rfl)) ?_;iterate 3 refine O0 ?_
 refine O3 (fun wn o hp=>by(have q0:=o.cell trivial x0;have q1:=o.cell trivial x1;have q2:=o.cell trivial y0;have q3:=o.cell trivial y1;go_simp;with_reducible rfl)) ?_;refine O0 ?_;refine aD fun wt C hF=>?_;have HT:=oH C;clear C hF;simp only[dK];go_wp2_with fail;have HD:=oH (cN (p:=I=lb) fun e=>by have h1:=Y.2.2.1;rw[e,Y.2.2.2] at h1;injection h1 with h1;exact HE.out h1.symm);go_ret;exact⟨by rw[HD.out]<;>rfl,Y.1.trans HT.out⟩)
 obtain rfl:j=I.length:=by omega
 have Y:=J2 R J;clear R J;have HL:=oH a1;have HD:=oH (be (p:=I=lb) (by have:=lh (g:=id) HL.out (fun i x y hx hy=>Y.2 i x y (lS.1 hx).1 hx hy);rwa [List.map_id,List.map_id] at this));go_wp2_with fail;go_ret;exact⟨by rw[HD.out]<;>rfl,Y.1⟩)
 have t0:((I.length:Int) !=(lb.length:Int))=true:=by simp;omega
 have HL:=oH a1;clear a1;go_enter func54,ntmps54;have HD:=oH (cN (p:=I=lb) fun e=>HL.out (by rw[e]));go_wp2_with fail;go_ret;exact⟨by rw[HD.out]<;>rfl,kR⟩
theorem AN {x y:bI}:iQ x y↔x.kind=y.kind∧x.op=y.op∧x.dst=y.dst∧x.ref=y.ref∧x.No=y.No∧x.num=y.num∧x.args=y.args∧x.Nn=y.Nn:=by
 obtain⟨k,o,d,r,a,l,f,n,p⟩:=x;obtain⟨k',o',d',r',a',l',f',n',p'⟩:=y;simp only[iQ,gI,bI.mk.injEq,and_true];constructor;·rintro⟨j,C,I,J,R,Y,h7,h8⟩;exact⟨j,C,I,J,R,h8,Y,h7⟩
 rintro⟨j,C,I,J,R,Y,h7,h8⟩;exact⟨j,C,I,J,R,h7,h8,Y⟩
theorem AM (S T:Nat→Prop)(x y:bI)(xa xf ya yf:Value)(w:World)(h1:bu S w xa x.args)(h2:bu S w xf x.Nn)(h3:bu T w ya y.args)(h4:bu T w yf y.Nn):
 Calls prog 60 #[.agg #[.int .u8 x.kind,.int .u8 x.op,.int .i64 x.dst,.int .i64 x.ref,.int .i64 x.No,xa,xf,.int .i64 x.num,.int .i64 x.Np],.agg #[.int .u8 y.kind,.int .u8 y.op,.int .i64 y.dst,.int .i64 y.ref,.int .i64 y.No,ya,yf,.int .i64 y.num,.int .i64 y.Np]] w fun e w'=>e=.returned (.bool (pB (iQ x y)))∧aa All w w':=by
 have hA:=fun wn (hk:aa All w wn)=>oI S T xa ya x.args y.args wn (ae.keep hk.all h1) (ae.keep hk.all h3);have hF:=fun wn (hk:aa All w wn)=>oI S T xf yf x.Nn y.Nn wn (ae.keep hk.all h2) (ae.keep hk.all h4);obtain⟨a1,a6,rfl,_⟩:=h1;obtain⟨a7,a8,rfl,_⟩:=h2;obtain⟨b0,b1,rfl,_⟩:=h3;obtain⟨b2,b3,rfl,_⟩:=h4;obtain⟨W1,C⟩:=eQ ((w.alloc (.cells #[.int .u8 x.kind,.int .u8 x.op,.int .i64 x.dst,.int .i64 x.ref,.int .i64 x.No,.slice a1 x.args.length a6,.slice a7 x.Nn.length a8,.int .i64 x.num,.int .i64 x.Np] 40)).alloc (.cells #[.int .u8 y.kind,.int .u8 y.op,.int .i64 y.dst,.int .i64 y.ref,.int .i64 y.No,.slice b0 y.args.length b1,.slice b2 y.Nn.length b3,.int .i64 y.num,.int .i64 y.Np] 40));have b4:aa All w W1:=by rw[C];exact(kR.alloc _).alloc _
 have I:al W1 w.heap.size 40 #[.int .u8 x.kind,.int .u8 x.op,.int .i64 x.dst,.int .i64 x.ref,.int .i64 x.No,.slice a1 x.args.length a6,.slice a7 x.Nn.length a8,.int .i64 x.num,.int .i64 x.Np]:=by rw[C];exact(al.new _ _ _).alloc _
 have J:al W1 (w.heap.size+1) 40 #[.int .u8 y.kind,.int .u8 y.op,.int .i64 y.dst,.int .i64 y.ref,.int .i64 y.No,.slice b0 y.args.length b1,.slice b2 y.Nn.length b3,.int .i64 y.num,.int .i64 y.Np]:=by rw[C];exact ac (by simp)
 have e0:=I.cell 0;have f0:=J.cell 0;have e1:=I.cell 1;have f1:=J.cell 1;have e2:=I.cell 2;have f2:=J.cell 2;have e3:=I.cell 3;have f3:=J.cell 3;have e4:=I.cell 4;have f4:=J.cell 4;have e5:=I.cell 5;have f5:=J.cell 5;have e7:=I.cell 7;have f7:=J.cell 7;simp only[gc] at e0 f0 e1 f1 e2 f2 e3 f3 e4 f4 e5 f5 e7 f7;have j:=J6 C b4 I J hA hF;have R:=oH (AN (x:=x) (y:=y));clear C b4 I J hA hF;go_enter func60,ntmps60;go_upto_region 1 with fail;rw[←j.1];by_cases d0:x.kind=y.kind
 case neg=>(
 have t0:((x.kind:Int)==(y.kind:Int))=false:=by rw[bE];omega
 have o:=oH (az (P:=iQ x y) fun h=>d0 (R.1 h).1);clear d0;go_wp2_with fail;go_ret;exact⟨by rw[o.out]<;>rfl,j.2.1⟩)
 have t0:((x.kind:Int)==(y.kind:Int))=true:=by rw[cX];omega
 have D0:=oH d0;clear d0;by_cases d1:x.op=y.op
 case neg=>(
 have t1:((x.op:Int)==(y.op:Int))=false:=by rw[bE];omega
 have o:=oH (az (P:=iQ x y) fun h=>d1 (R.1 h).2.1);clear d1;go_wp2_with fail;go_ret;exact⟨by rw[o.out]<;>rfl,j.2.1⟩)
 have t1:((x.op:Int)==(y.op:Int))=true:=by rw[cX];omega
 have D1:=oH d1;clear d1;by_cases d2:x.dst=y.dst
 case neg=>(
 have t2:((x.dst:Int)==(y.dst:Int))=false:=by rw[bE];omega
 have o:=oH (az (P:=iQ x y) fun h=>d2 (R.1 h).2.2.1);clear d2;go_wp2_with fail;go_ret;exact⟨by rw[o.out]<;>rfl,j.2.1⟩)
 have t2:((x.dst:Int)==(y.dst:Int))=true:=by rw[cX];omega
 have D2:=oH d2;clear d2;by_cases d3:x.ref=y.ref
 case neg=>(
 have t3:((x.ref:Int)==(y.ref:Int))=false:=by rw[bE];omega
 have o:=oH (az (P:=iQ x y) fun h=>d3 (R.1 h).2.2.2.1);clear d3;go_wp2_with fail;go_ret;exact⟨by rw[o.out]<;>rfl,j.2.1⟩)
 have t3:((x.ref:Int)==(y.ref:Int))=true:=by rw[cX];omega
 have D3:=oH d3;clear d3;by_cases d4:x.No=y.No
 case neg=>(
 have t4:((x.No:Int)==(y.No:Int))=false:=by rw[bE];omega
 have o:=oH (az (P:=iQ x y) fun h=>d4 (R.1 h).2.2.2.2.1);clear d4;go_wp2_with fail;go_ret;exact⟨by rw[o.out]<;>rfl,j.2.1⟩)
 have t4:((x.No:Int)==(y.No:Int))=true:=by rw[cX];omega
 have D4:=oH d4;clear d4;by_cases d5:x.num=y.num
 case neg=>(
 have t5:((x.num:Int)==(y.num:Int))=false:=by rw[bE];omega
 have o:=oH (az (P:=iQ x y) fun h=>d5 (R.1 h).2.2.2.2.2.1);clear d5;go_wp2_with fail;go_ret;exact⟨by rw[o.out]<;>rfl,j.2.1⟩)
 have t5:((x.num:Int)==(y.num:Int))=true:=by rw[cX];omega
 have D5:=oH d5;clear d5;go_wp2_with fail;refine(j.2.2.2.2.1 _ j.2.1).mono ?_;rintro e w2 ⟨rfl,Y⟩;have e6:=(j.2.2.1.kept Y trivial).cell 6;have f6:=(j.2.2.2.1.kept Y trivial).cell 6;simp only[gc] at e6 f6;have H2:=oH Y;clear Y;by_cases da:x.args=y.args
 case neg=>(rw[cN da];have o:=oH (az (P:=iQ x y) fun h=>da (R.1 h).2.2.2.2.2.2.1);clear da;go_wp2_with fail;go_ret;exact⟨by rw[o.out]<;>rfl,j.2.1.trans H2.out⟩)
 rw[be da];have HA:=oH da;clear da;go_wp2_with fail;refine(j.2.2.2.2.2 _ (j.2.1.trans H2.out)).mono ?_;rintro e w3 ⟨rfl,b5⟩;have H3:=oH b5;clear b5;have o:=oH (show decide (x.Nn=y.Nn)=pB (iQ x y) by
  by_cases h:x.Nn=y.Nn;·rw[be h,aw (R.2 ⟨D0.out,D1.out,D2.out,D3.out,D4.out,D5.out,HA.out,h⟩)]
  rw[cN h,az fun h'=>h (R.1 h').2.2.2.2.2.2.2])
 rw[o.out];go_wp2_with fail;go_ret;exact⟨rfl,(j.2.1.trans H2.out).trans H3.out⟩
theorem CN (S T:Nat→Prop)(va vb:Value)(R lb:List (bI))(w:World)(ha:xn S w va R)(hb:xn T w vb lb):
 Calls prog 59 #[va,vb,.func (.func 60) #[] #[]] w fun e w'=>e=.returned (.bool (pB (R.map gI=lb.map gI)))∧aa All w w':=by
 have hA:=ez.la ha;have hB:=ez.la hb;obtain⟨A1,c1,rfl,l1,l2,l3,_⟩:=ha;obtain⟨A2,c2,rfl,m1,m2,m3,_⟩:=hb;unfold maxLen at l2 m2;have HV:=J2 hA hB;clear hA hB;by_cases J:R.length=lb.length;·(
 have t0:((R.length:Int) !=(lb.length:Int))=false:=by simp;omega
 have c7:=oH J;have c9:=dY J;have d7:=dY J.symm;clear J;go_enter func59,ntmps59;go_wp2_with fail;go_loopg [17] R.length (fun g s wr=>∃j:Nat,j≤R.length∧g=R.length-j∧s=.int .i64 j∧aa All w wr∧∀(i:Nat) x y,i<j→R[i]? =some x→lb[i]? =some y→gI x=gI y);·exact⟨0,by omega,by omega,rfl,kR,fun i a b h=>by omega⟩
 obtain⟨j,hj,rfl,rfl,a1,Y⟩:=hrel;by_cases c8:j<R.length;·(
 obtain⟨x,hx⟩:=eG c8;have b0:j<lb.length:=by omega
 obtain⟨y,hy⟩:=eG b0;obtain⟨xb,xo,d8,rfl,_,_,C,xa,xf,rfl,b1,b2,_⟩:=bh (HV.1 wr a1) hx;obtain⟨yb,yo,d9,rfl,_,_,I,ya,yf,rfl,b3,b4,_⟩:=bh (HV.2 wr a1) hy;have hS:=fun wn (hk:aa All wr wn)=>AM S T x y xa xf ya yf wn (ae.keep hk.all b1) (ae.keep hk.all b2) (ae.keep hk.all b3) (ae.keep hk.all b4);obtain⟨b5,b6,rfl,_⟩:=b1;obtain⟨b7,b8,rfl,_⟩:=b2;obtain⟨b9,c0,rfl,_⟩:=b3;obtain⟨c3,c4,rfl,_⟩:=b4;have x0:=C 0 _ rfl;have x1:=C 1 _ rfl;have x2:=C 2 _ rfl;have x3:=C 3 _ rfl;have x4:=C 4 _ rfl;have x5:=C 5 _ rfl;have x6:=C 6 _ rfl;have x7:=C 7 _ rfl;have x8:=C 8 _ rfl;have y0:=I 0 _ rfl;have y1:=I 1 _ rfl;have y2:=I 2 _ rfl;have y3:=I 3 _ rfl;have y4:=I 4 _ rfl;have y5:=I 5 _ rfl;have y6:=I 6 _ rfl;have y7:=I 7 _ rfl;have y8:=I 8 _ rfl;rw[cJ] at x0 y0;obtain⟨Wa,a7⟩:=eQ (wr.alloc (.cells #[.int .u8 x.kind,.int .u8 x.op,.int .i64 x.dst,.int .i64 x.ref,.int .i64 x.No,.slice b5 x.args.length b6,.slice b7 x.Nn.length b8,.int .i64 x.num,.int .i64 x.Np] 40));have o:aa All wr Wa:=by rw[a7];exact kR.alloc _
 have y0:=o.cell trivial y0;have y1:=o.cell trivial y1;have y2:=o.cell trivial y2;have y3:=o.cell trivial y3;have y4:=o.cell trivial y4;have y5:=o.cell trivial y5;have y6:=o.cell trivial y6;have y7:=o.cell trivial y7;have y8:=o.cell trivial y8;obtain⟨W2,a6⟩:=eQ (Wa.alloc (.cells #[.int .u8 y.kind,.int .u8 y.op,.int .i64 y.dst,.int .i64 y.ref,.int .i64 y.No,.slice b9 y.args.length c0,.slice c3 y.Nn.length c4,.int .i64 y.num,.int .i64 y.Np] 40));have a8:aa All wr W2:=by rw[a6];exact o.alloc _
 have bX:al W2 wr.heap.size 40 #[.int .u8 x.kind,.int .u8 x.op,.int .i64 x.dst,.int .i64 x.ref,.int .i64 x.No,.slice b5 x.args.length b6,.slice b7 x.Nn.length b8,.int .i64 x.num,.int .i64 x.Np]:=by rw[a6,a7];exact(al.new _ _ _).alloc _
 have bY:al W2 Wa.heap.size 40 #[.int .u8 y.kind,.int .u8 y.op,.int .i64 y.dst,.int .i64 y.ref,.int .i64 y.No,.slice b9 y.args.length c0,.slice c3 y.Nn.length c4,.int .i64 y.num,.int .i64 y.Np]:=by rw[a6];exact ac rfl
 have e0:=bX.cell 0;have f0:=bY.cell 0;have e1:=bX.cell 1;have f1:=bY.cell 1;have e2:=bX.cell 2;have f2:=bY.cell 2;have e3:=bX.cell 3;have f3:=bY.cell 3;have e4:=bX.cell 4;have f4:=bY.cell 4;have e5:=bX.cell 5;have f5:=bY.cell 5;have e6:=bX.cell 6;have f6:=bY.cell 6;have e7:=bX.cell 7;have f7:=bY.cell 7;have e8:=bX.cell 8;have f8:=bY.cell 8;simp only[gc] at e0 f0 e1 f1 e2 f2 e3 f3 e4 f4 e5 f5 e6 f6 e7 f7 e8 f8;have HS:=oH (hS W2 a8);have HR:=J7 a1 Y hx hy a6 a8 a7;clear a1 Y hx hy a6 a8 bX bY hS C I a7 o;go_upto_region 6 with fail;rw[←HR.2.2.2.2.2.2];go_upto_region 7 with fail;rw[←HR.2.2.2.2.1];go_wp2_with fail;refine HS.out.mono ?_;rintro e w3 ⟨rfl,c5⟩;have c6:=oH c5;clear c5;by_cases he:iQ x y
 ·rw[aw he];have HE:=oH he;clear he;go_wp2_with fail;go_roundg (R.length-(j+1))
  ·refine⟨j+1,by omega,rfl,by go_num,(HR.1.trans HR.2.2.2.2.2.1).trans c6.out,fun i a b hi ha hb=>?_⟩
   by_cases e:i=j;·subst e;rw[HR.2.2.1] at ha;rw[HR.2.2.2.1] at hb;cases ha;cases hb;exact HE.out
   exact HR.2.1 i a b (by omega) ha hb
  omega
 rw[az he];have HD:=oH (az (P:=R.map gI=lb.map gI) (qw HR.2.2.1 HR.2.2.2.1 he));clear he;go_wp2_with fail;go_ret;exact⟨by rw[HD.out]<;>rfl,(HR.1.trans HR.2.2.2.2.2.1).trans c6.out⟩)
 obtain rfl:j=R.length:=by omega
 have HR:=J2 a1 Y;clear a1 Y;have HD:=oH (aw (P:=R.map gI=lb.map gI) (lh c7.out (fun i x y hx hy=>HR.2 i x y (lS.1 hx).1 hx hy)));go_wp2_with fail;go_ret;exact⟨by rw[HD.out]<;>rfl,HR.1⟩)
 have t0:((R.length:Int) !=(lb.length:Int))=true:=by simp;omega
 have HD:=oH (az (P:=R.map gI=lb.map gI) (sO J));clear J;go_enter func59,ntmps59;go_wp2_with fail;go_ret;exact⟨by rw[HD.out]<;>rfl,kR⟩
theorem CO (S T:Nat→Prop)(o C:Value)(I lb:List bI)(w:World)(R:xn S w o I)(Y:xn T w C lb):
 Calls prog 58 #[o,C] w fun e w'=>e=.returned (.bool (pB (I.map gI=lb.map gI)))∧aa All w w':=by
 have H:=oH (CN S T o C I lb w R Y);clear R Y;go_enter func58,ntmps58;go_wp2_with fail;refine H.out.mono ?_;rintro e w3 ⟨rfl,j⟩;have J:=oH j;clear j;go_wp2_with fail;go_ret;exact⟨rfl,J.out⟩
theorem zQ (S T:Nat→Prop)(va vb:Value)(C lb:List (List bI))(w:World)(Y:fz S w va C)(hb:fz T w vb lb):
 Calls prog 57 #[va,vb,.func (.func 58) #[] #[]] w fun e w'=>e=.returned (.bool (pB (C.map (fun l=>l.map gI)=lb.map (fun l=>l.map gI))))∧aa All w w':=by
 have hA:=cu.la Y;have hB:=cu.la hb;obtain⟨A1,c1,rfl,l1,l2,l3,_⟩:=Y;obtain⟨A2,c2,rfl,m1,m2,m3,_⟩:=hb;unfold maxLen at l2 m2;have HV:=J2 hA hB;clear hA hB;by_cases o:C.length=lb.length;·(
 have t0:((C.length:Int) !=(lb.length:Int))=false:=by simp;omega
 have b1:=oH o;have b3:=dY o;have b4:=dY o.symm;clear o;go_enter func57,ntmps57;go_wp2_with fail;go_loopg [17] C.length (fun g s wr=>∃j:Nat,j≤C.length∧g=C.length-j∧s=.int .i64 j∧aa All w wr∧∀(i:Nat) x y,i<j→C[i]? =some x→lb[i]? =some y→(fun l=>l.map gI) x=(fun l=>l.map gI) y);·exact⟨0,by omega,by omega,rfl,kR,fun i a b h=>by omega⟩
 obtain⟨j,hj,rfl,rfl,J,I⟩:=hrel;by_cases b2:j<C.length;·(
 obtain⟨x,hx⟩:=eG b2;have a1:j<lb.length:=by omega
 obtain⟨y,hy⟩:=eG a1;obtain⟨xb,xo,xv,rfl,_,b5,a6⟩:=de (HV.1 wr J) hx;obtain⟨yb,yo,yv,rfl,_,b6,a7⟩:=de (HV.2 wr J) hy;have HS:=oH (CO S T xv yv x y wr a6 a7);obtain⟨x1,x2,rfl,_⟩:=a6;obtain⟨y1,y2,rfl,_⟩:=a7;have R:=J4 J I hx hy;clear J I hx hy;go_wp2_with fail;refine HS.out.mono ?_;rintro e w3 ⟨rfl,a8⟩;have b0:=oH a8;clear a8;by_cases he:x.map gI=y.map gI
 ·rw[aw he];have HE:=oH he;clear he;go_wp2_with fail;go_roundg (C.length-(j+1))
  ·refine⟨j+1,by omega,rfl,by go_num,R.1.trans b0.out,fun i a b hi Y hb=>?_⟩
   by_cases e:i=j;·subst e;rw[R.2.2.1] at Y;rw[R.2.2.2] at hb;cases Y;cases hb;exact HE.out
   exact R.2.1 i a b (by omega) Y hb
  omega
 rw[az he];have HD:=oH (az (P:=C.map (fun l=>l.map gI)=lb.map (fun l=>l.map gI)) (qw R.2.2.1 R.2.2.2 he));clear he;go_wp2_with fail;go_ret;exact⟨by rw[HD.out]<;>rfl,R.1.trans b0.out⟩)
 obtain rfl:j=C.length:=by omega
 have R:=J2 J I;clear J I;have HD:=oH (aw (P:=C.map (fun l=>l.map gI)=lb.map (fun l=>l.map gI)) (lh b1.out (fun i x y hx hy=>R.2 i x y (lS.1 hx).1 hx hy)));go_wp2_with fail;go_ret;exact⟨by rw[HD.out]<;>rfl,R.1⟩)
 have t0:((C.length:Int) !=(lb.length:Int))=true:=by simp;omega
 have HD:=oH (az (P:=C.map (fun l=>l.map gI)=lb.map (fun l=>l.map gI)) (sO o));clear o;go_enter func57,ntmps57;go_wp2_with fail;go_ret;exact⟨by rw[HD.out]<;>rfl,kR⟩
def eD (b:av):Int×Int×List (List bI):=(b.params,b.vars,b.Nm.map fun l=>l.map gI)
theorem CD {x y:av}:eD x=eD y↔x.params=y.params∧x.vars=y.vars∧x.Nm.map (fun l=>l.map gI)=y.Nm.map (fun l=>l.map gI):=by simp[eD]
theorem AH (S T:Nat→Prop)(x y:av)(xa ya:Value)(w:World)(h1:fz S w xa x.Nm)(h2:fz T w ya y.Nm):
 Calls prog 56 #[.agg #[.int .i64 x.params,.int .i64 x.vars,xa],.agg #[.int .i64 y.params,.int .i64 y.vars,ya]] w fun e w'=>e=.returned (.bool (pB (eD x=eD y)))∧aa All w w':=by
 have hA:=fun wn (hk:aa All w wn)=>zQ S T xa ya x.Nm y.Nm wn (cu.keep hk.all h1) (cu.keep hk.all h2);obtain⟨C,I,rfl,_⟩:=h1;obtain⟨J,R,rfl,_⟩:=h2;obtain⟨W1,j⟩:=eQ ((w.alloc (.cells #[.int .i64 x.params,.int .i64 x.vars,.slice C x.Nm.length I] 35)).alloc (.cells #[.int .i64 y.params,.int .i64 y.vars,.slice J y.Nm.length R] 35));have Y:aa All w W1:=by rw[j];exact(kR.alloc _).alloc _
 have bX:al W1 w.heap.size 35 #[.int .i64 x.params,.int .i64 x.vars,.slice C x.Nm.length I]:=by rw[j];exact(al.new _ _ _).alloc _
 have bY:al W1 (w.heap.size+1) 35 #[.int .i64 y.params,.int .i64 y.vars,.slice J y.Nm.length R]:=by rw[j];exact ac (by simp)
 have e0:=bX.cell 0;have e1:=bX.cell 1;have e2:=bX.cell 2;have f0:=bY.cell 0;have f1:=bY.cell 1;have f2:=bY.cell 2;simp only[gc] at e0 e1 e2 f0 f1 f2;have o:=J3 j Y hA;have HI:=oH (CD (x:=x) (y:=y));clear j Y bX bY hA;go_enter func56,ntmps56;go_upto_region 1 with fail;rw[←o.1];by_cases d0:x.params=y.params
 case neg=>(
 have t0:(x.params==y.params)=false:=by rw[bE];exact d0
 have HD:=oH (az (P:=eD x=eD y) fun h=>d0 (HI.1 h).1);clear d0;go_wp2_with fail;go_ret;exact⟨by rw[HD.out]<;>rfl,o.2.1⟩)
 have t0:(x.params==y.params)=true:=by rw[cX];exact d0
 have D0:=oH d0;clear d0;by_cases d1:x.vars=y.vars
 case neg=>(
 have t1:(x.vars==y.vars)=false:=by rw[bE];exact d1
 have HD:=oH (az (P:=eD x=eD y) fun h=>d1 (HI.1 h).2.1);clear d1;go_wp2_with fail;go_ret;exact⟨by rw[HD.out]<;>rfl,o.2.1⟩)
 have t1:(x.vars==y.vars)=true:=by rw[cX];exact d1
 have D1:=oH d1;clear d1;go_wp2_with fail;refine(o.2.2 _ o.2.1).mono ?_;rintro e w3 ⟨rfl,a1⟩;have H3:=oH a1;clear a1;have HD:=oH (show pB (x.Nm.map (fun l=>l.map gI)=y.Nm.map (fun l=>l.map gI))=pB (eD x=eD y) by
  by_cases h:x.Nm.map (fun l=>l.map gI)=y.Nm.map (fun l=>l.map gI);·rw[aw h,aw (HI.2 ⟨D0.out,D1.out,h⟩)]
  rw[az h,az fun h'=>h (HI.1 h').2.2])
 rw[HD.out];go_wp2_with fail;go_ret;exact⟨rfl,o.2.1.trans H3.out⟩
theorem wC (S T:Nat→Prop)(va vb:Value)(C lb:List (av))(w:World)(ha:qd S w va C)(hb:qd T w vb lb):
 Calls prog 55 #[va,vb,.func (.func 56) #[] #[]] w fun e w'=>e=.returned (.bool (pB (C.map eD=lb.map eD)))∧aa All w w':=by
 have hA:=cE.la ha;have hB:=cE.la hb;obtain⟨A1,c1,rfl,l1,l2,l3,_⟩:=ha;obtain⟨A2,c2,rfl,m1,m2,m3,_⟩:=hb;unfold maxLen at l2 m2;have HV:=J2 hA hB;clear hA hB;by_cases o:C.length=lb.length;·(
 have t0:((C.length:Int) !=(lb.length:Int))=false:=by simp;omega
 have c0:=oH o;have c4:=dY o;have c5:=dY o.symm;clear o;go_enter func55,ntmps55;go_wp2_with fail;go_loopg [17] C.length (fun g s wr=>∃j:Nat,j≤C.length∧g=C.length-j∧s=.int .i64 j∧aa All w wr∧∀(i:Nat) x y,i<j→C[i]? =some x→lb[i]? =some y→eD x=eD y);·exact⟨0,by omega,by omega,rfl,kR,fun i a b h=>by omega⟩
 obtain⟨j,hj,rfl,rfl,R,I⟩:=hrel;by_cases c3:j<C.length;·(
 obtain⟨x,hx⟩:=eG c3;have b1:j<lb.length:=by omega
 obtain⟨y,hy⟩:=eG b1;obtain⟨xb,xo,c6,rfl,_,_,a6,xa,rfl,b2,_⟩:=bh (HV.1 wr R) hx;obtain⟨yb,yo,c7,rfl,_,_,a7,ya,rfl,b3,_⟩:=bh (HV.2 wr R) hy;have hS:=fun wn (hk:aa All wr wn)=>AH S T x y xa ya wn (cu.keep hk.all b2) (cu.keep hk.all b3);obtain⟨b4,b5,rfl,_⟩:=b2;obtain⟨b6,b7,rfl,_⟩:=b3;have x0:=a6 0 _ rfl;have x1:=a6 1 _ rfl;have x2:=a6 2 _ rfl;have y0:=a7 0 _ rfl;have y1:=a7 1 _ rfl;have y2:=a7 2 _ rfl;rw[cJ] at x0 y0;obtain⟨Wa,a8⟩:=eQ (wr.alloc (.cells #[.int .i64 x.params,.int .i64 x.vars,.slice b4 x.Nm.length b5] 35));have Y:aa All wr Wa:=by rw[a8];exact kR.alloc _
 have y0:=Y.cell trivial y0;have y1:=Y.cell trivial y1;have y2:=Y.cell trivial y2;obtain⟨W2,a1⟩:=eQ (Wa.alloc (.cells #[.int .i64 y.params,.int .i64 y.vars,.slice b6 y.Nm.length b7] 35));have b0:aa All wr W2:=by rw[a1];exact Y.alloc _
 have bX:al W2 wr.heap.size 35 #[.int .i64 x.params,.int .i64 x.vars,.slice b4 x.Nm.length b5]:=by rw[a1,a8];exact(al.new _ _ _).alloc _
 have bY:al W2 Wa.heap.size 35 #[.int .i64 y.params,.int .i64 y.vars,.slice b6 y.Nm.length b7]:=by rw[a1];exact ac rfl
 have e0:=bX.cell 0;have f0:=bY.cell 0;have e1:=bX.cell 1;have f1:=bY.cell 1;have e2:=bX.cell 2;have f2:=bY.cell 2;simp only[gc] at e0 f0 e1 f1 e2 f2;have HS:=oH (hS W2 b0);have J:=J7 R I hx hy a1 b0 a8;clear R I hx hy a1 b0 bX bY hS a6 a7 a8 Y;go_upto_region 6 with fail;rw[←J.2.2.2.2.2.2];go_upto_region 7 with fail;rw[←J.2.2.2.2.1];go_wp2_with fail;refine HS.out.mono ?_;rintro e w3 ⟨rfl,b8⟩;have b9:=oH b8;clear b8;by_cases he:eD x=eD y
 ·rw[aw he];have HE:=oH he;clear he;go_wp2_with fail;go_roundg (C.length-(j+1))
  ·refine⟨j+1,by omega,rfl,by go_num,(J.1.trans J.2.2.2.2.2.1).trans b9.out,fun i a b hi ha hb=>?_⟩
   by_cases e:i=j;·subst e;rw[J.2.2.1] at ha;rw[J.2.2.2.1] at hb;cases ha;cases hb;exact HE.out
   exact J.2.1 i a b (by omega) ha hb
  omega
 rw[az he];have HD:=oH (az (P:=C.map eD=lb.map eD) (qw J.2.2.1 J.2.2.2.1 he));clear he;go_wp2_with fail;go_ret;exact⟨by rw[HD.out]<;>rfl,(J.1.trans J.2.2.2.2.2.1).trans b9.out⟩)
 obtain rfl:j=C.length:=by omega
 have J:=J2 R I;clear R I;have HD:=oH (aw (P:=C.map eD=lb.map eD) (lh c0.out (fun i x y hx hy=>J.2 i x y (lS.1 hx).1 hx hy)));go_wp2_with fail;go_ret;exact⟨by rw[HD.out]<;>rfl,J.1⟩)
 have t0:((C.length:Int) !=(lb.length:Int))=true:=by simp;omega
 have HD:=oH (az (P:=C.map eD=lb.map eD) (sO o));clear o;go_enter func55,ntmps55;go_wp2_with fail;go_ret;exact⟨by rw[HD.out]<;>rfl,kR⟩
end Go.Proofs.YtccbbkopmlnkpaaGreatDoor
