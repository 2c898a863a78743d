/- Part 26 of the proof of CallsShallow (its last part says what is proved). No condition. -/
import Derived.Shelf.Sort.Plain
import Derived.Shelf.Slices.Clone
import Derived.Test.YtncdbjponknakaaGreatDoorK19
namespace Go.Proofs.YtncdbjponknakaaGreatDoor
set_option maxRecDepth 100000
set_option maxHeartbeats 8000000
open Go.RowKit Go.Proofs.Tryz
section
open Classical in
noncomputable def mH (b:aw)(i:Nat)(x:bz):Int:=if lZ b x i then(if∀(m:Nat) v f,x.args[m]? =some v→x.Nh[m]? =some f→jl b v f.toNat then 0 else 19) else 18
open Classical in
theorem Ck {b:aw}{i k:Nat}{x:bz}(h:x.kind=3):uo b i k x=mH b i x:=by unfold uo mH;rw[ap h]
theorem wZ {b:aw}{i:Nat}{x:bz}(h:¬lZ b x i):mH b i x=18:=by unfold mH;rw[ae h]
theorem Cl {b:aw}{i:Nat}{x:bz}(h:lZ b x i){m:Nat}{v f:Int}(j:x.args[m]? =some v)(l:x.Nh[m]? =some f)(o:¬jl b v f.toNat):mH b i x=19:=by unfold mH;rw[ap h,ae fun h'=>o (h' m v f j l)]
theorem GC {b:aw}{i:Nat}{x:bz}(h:lZ b x i)(j:∀(m:Nat) v f,x.args[m]? =some v→x.Nh[m]? =some f→jl b v f.toNat):mH b i x=0:=by unfold mH;rw[ap h,ap j]
end
theorem lP {α β:Type}{g:α→β}{j lb:List α}(l:j.length=lb.length)(h:∀(i:Nat) x y,j[i]? =some x→lb[i]? =some y→g x=g y):j.map g=lb.map g:=by
 refine List.ext_getElem? fun i=>?_;rw[cL,cL];by_cases hi:i<j.length
 ·rw[lG hi,lG (show i<lb.length by omega)]
  exact congrArg some (h i _ _ (lG hi) (lG (by omega)))
 rw[jz (by omega),jz (by omega)]
theorem qC {α β:Type}{g:α→β}{j lb:List α}{i:Nat}{x y:α}(o:j[i]? =some x)(C:lb[i]? =some y)(h:g x≠g y):j.map g≠lb.map g:=by intro e;have:=congrArg (fun l=>l[i]?) e;simp only[cL,o,C,Option.map_some,Option.some.injEq] at this;exact h this
theorem sS {α β:Type}{g:α→β}{j lb:List α}(h:j.length≠lb.length):j.map g≠lb.map g:=fun e=>h (by have:=congrArg List.length e;simpa using this)
theorem oP (S T:Nat→Prop)(va vb:Value)(l lb:List Int)(w:World)(ha:aK S w va l)(hb:aK T w vb lb):
 Calls prog 106 #[va,vb] w fun e w'=>e=.returned (.bool (decide (l=lb)))∧aa All w w':=by
 have hA:=fun wn (o:aa All w wn)=>(ah).keep o.all ha;have hB:=fun wn (o:aa All w wn)=>(ah).keep o.all hb;obtain⟨A1,c1,rfl,l1,l2,l3,_⟩:=ha;obtain⟨A2,c2,rfl,m1,m2,m3,_⟩:=hb;unfold maxLen at l2 m2;have HV:=J2 hA hB;clear hA hB;by_cases R:l.length=lb.length;·(
 have t0:((l.length:Int) !=(lb.length:Int))=false:=by simp;omega
 go_enter func106,ntmps106;go_wp2_with fail;go_loopg [13] l.length (fun g s wr=>∃j:Nat,j≤l.length∧g=l.length-j∧s=.int .i64 j∧aa All w wr∧∀(i:Nat) x y,i<j→l[i]? =some x→lb[i]? =some y→x=y);·exact⟨0,by omega,by omega,rfl,kR,fun i a b h=>by omega⟩
 obtain⟨j,hj,rfl,rfl,J,C⟩:=hrel;by_cases a8:j<l.length;·(
 obtain⟨x,hx⟩:=eG a8;have a7:j<lb.length:=by omega
 obtain⟨y,hy⟩:=eG a7;obtain⟨xb,xo,xc,rfl,_,a1,rfl,_⟩:=bn (HV.1 wr J) hx;obtain⟨yb,yo,yc,rfl,_,a6,rfl,_⟩:=bn (HV.2 wr J) hy;have Z:=J4 J C hx hy;clear J C hx hy;by_cases he:x=y;·(
 subst he;go_wp2_with fail;refine R0 9 wr (fun _=>none) ?_;iterate 3 refine O0 ?_
 refine O3 (fun wn o hp=>by(have q0:=o.cell trivial a1;have q1:=o.cell trivial a6;go_simp;with_reducible rfl)) ?_;iterate 3 refine O0 ?_
 refine O3 (fun wn o hp=>by(have q0:=o.cell trivial a1;have q1:=o.cell trivial a6;go_simp;with_reducible rfl)) ?_;refine O0 ?_;refine aG fun wt Y hF=>?_;have HT:=oH Y;clear Y hF;simp only[dK];go_wp2_with fail;go_roundg (l.length-(j+1))
 ·refine⟨j+1,by omega,rfl,by go_num,Z.1.trans HT.out,fun i a b hi ha hb=>?_⟩
  by_cases e:i=j;·subst e;rw[Z.2.2.1] at ha;rw[Z.2.2.2] at hb;cases ha;cases hb;rfl
  exact Z.2.1 i a b (by omega) ha hb
 omega)
 have te:(x !=y)=true:=by simpa using he
 have HE:=oH he;clear he;go_wp2_with fail;refine R0 9 wr (fun _=>none) ?_;iterate 3 refine O0 ?_
 refine O3 (fun wn o hp=>by(have q0:=o.cell trivial a1;have q1:=o.cell trivial a6;go_simp;with_reducible rfl)) ?_;iterate 3 refine O0 ?_
 refine O3 (fun wn o hp=>by(have q0:=o.cell trivial a1;have q1:=o.cell trivial a6;go_simp;with_reducible rfl)) ?_;refine O0 ?_;refine aG fun wt Y hF=>?_;have HT:=oH Y;clear Y hF;simp only[dK];go_wp2_with fail;have HD:=oH (cI (p:=l=lb) fun e=>by have h1:=Z.2.2.1;rw[e,Z.2.2.2] at h1;injection h1 with h1;exact HE.out h1.symm);go_ret;exact⟨by rw[HD.out]<;>rfl,Z.1.trans HT.out⟩)
 obtain rfl:j=l.length:=by omega
 have Z:=J2 J C;clear J C;have HL:=oH R;have HD:=oH (bL (p:=l=lb) (by have:=lP (g:=id) HL.out (fun i x y hx hy=>Z.2 i x y (lS.1 hx).1 hx hy);rwa [List.map_id,List.map_id] at this));go_wp2_with fail;go_ret;exact⟨by rw[HD.out]<;>rfl,Z.1⟩)
 have t0:((l.length:Int) !=(lb.length:Int))=true:=by simp;omega
 have HL:=oH R;clear R;go_enter func106,ntmps106;have HD:=oH (cI (p:=l=lb) fun e=>HL.out (by rw[e]));go_wp2_with fail;go_ret;exact⟨by rw[HD.out]<;>rfl,kR⟩
theorem yh (S T:Nat→Prop)(va vb:Value)(C lb:List (Int×Int))(w:World)(ha:ev S w va C)(hb:ev T w vb lb):
 Calls prog 93 #[va,vb] w fun e w'=>e=.returned (.bool (decide (C=lb)))∧aa All w w':=by
 have hA:=fun wn (l:aa All w wn)=>(bu).keep l.all ha;have hB:=fun wn (l:aa All w wn)=>(bu).keep l.all hb;obtain⟨A1,c1,rfl,l1,l2,l3,_⟩:=ha;obtain⟨A2,c2,rfl,m1,m2,m3,_⟩:=hb;unfold maxLen at l2 m2;have HV:=J2 hA hB;clear hA hB;by_cases a1:C.length=lb.length;·(
 have t0:((C.length:Int) !=(lb.length:Int))=false:=by simp;omega
 go_enter func93,ntmps93;go_wp2_with fail;go_loopg [13] C.length (fun g s wr=>∃j:Nat,j≤C.length∧g=C.length-j∧s=.int .i64 j∧aa All w wr∧∀(i:Nat) x y,i<j→C[i]? =some x→lb[i]? =some y→x=y);·exact⟨0,by omega,by omega,rfl,kR,fun i a b h=>by omega⟩
 obtain⟨j,hj,rfl,rfl,R,J⟩:=hrel;by_cases b0:j<C.length;·(
 obtain⟨x,hx⟩:=eG b0;have a8:j<lb.length:=by omega
 obtain⟨y,hy⟩:=eG a8;obtain⟨xb,xo,b1,rfl,_,_,a6,rfl,_⟩:=aZ (HV.1 wr R) hx;obtain⟨yb,yo,b2,rfl,_,_,a7,rfl,_⟩:=aZ (HV.2 wr R) hy;have x0:=a6 0 _ rfl;have x1:=a6 1 _ rfl;have y0:=a7 0 _ rfl;have y1:=a7 1 _ rfl;rw[dj] at x0 y0;clear a6 a7;have Y:=J4 R J hx hy;clear R J hx hy;by_cases he:x=y;·(
 subst he;go_wp2_with fail;refine R0 9 wr (fun _=>none) ?_;iterate 3 refine O0 ?_
 refine O3 (fun wn l hp=>by(have q0:=l.cell trivial x0;have q1:=l.cell trivial x1;have q2:=l.cell trivial y0;have q3:=l.cell trivial y1;go_simp;with_reducible rfl)) ?_;iterate 3 refine O0 ?_
 refine O3 (fun wn l hp=>by(have q0:=l.cell trivial x0;have q1:=l.cell trivial x1;have q2:=l.cell trivial y0;have q3:=l.cell trivial y1;go_simp;with_reducible rfl)) ?_;refine O0 ?_;refine aG fun wt o hF=>?_;have HT:=oH o;clear o hF;simp only[dK];go_wp2_with fail;go_roundg (C.length-(j+1))
 ·refine⟨j+1,by omega,rfl,by go_num,Y.1.trans HT.out,fun i a b hi ha hb=>?_⟩
  by_cases e:i=j;·subst e;rw[Y.2.2.1] at ha;rw[Y.2.2.2] at hb;cases ha;cases hb;rfl
  exact Y.2.1 i a b (by omega) ha hb
 omega)
 obtain⟨xa,xz⟩:=x;obtain⟨ya,yz⟩:=y;have HE:=oH he;by_cases Z:xa=ya
 ·subst Z;have te:xz≠yz:=fun h=>he (by rw[h]);have tf:(xz==yz)=false:=by simpa using te
  clear he;go_wp2_with fail;refine R0 9 wr (fun _=>none) ?_;iterate 3 refine O0 ?_
  refine O3 (fun wn l hp=>by(have q0:=l.cell trivial x0;have q1:=l.cell trivial x1;have q2:=l.cell trivial y0;have q3:=l.cell trivial y1;go_simp;with_reducible rfl)) ?_;iterate 3 refine O0 ?_
  refine O3 (fun wn l hp=>by(have q0:=l.cell trivial x0;have q1:=l.cell trivial x1;have q2:=l.cell trivial y0;have q3:=l.cell trivial y1;go_simp;with_reducible rfl)) ?_;refine O0 ?_;refine aG fun wt o hF=>?_;have HT:=oH o;clear o hF;simp only[dK];go_wp2_with fail;have HD:=oH (cI (p:=C=lb) fun e=>by have Z:=Y.2.2.1;rw[e,Y.2.2.2] at Z;injection Z with Z;exact HE.out Z.symm);go_ret;exact⟨by rw[HD.out]<;>rfl,Y.1.trans HT.out⟩
 have tf:(xa==ya)=false:=by simpa using Z
 clear he;go_wp2_with fail;refine R0 9 wr (fun _=>none) ?_;iterate 3 refine O0 ?_
 refine O3 (fun wn l hp=>by(have q0:=l.cell trivial x0;have q1:=l.cell trivial x1;have q2:=l.cell trivial y0;have q3:=l.cell trivial y1;go_simp;with_reducible rfl)) ?_;iterate 3 refine O0 ?_
 refine O3 (fun wn l hp=>by(have q0:=l.cell trivial x0;have q1:=l.cell trivial x1;have q2:=l.cell trivial y0;have q3:=l.cell trivial y1;go_simp;with_reducible rfl)) ?_;refine O0 ?_;refine aG fun wt o hF=>?_;have HT:=oH o;clear o hF;simp only[dK];go_wp2_with fail;have HD:=oH (cI (p:=C=lb) fun e=>by have Z:=Y.2.2.1;rw[e,Y.2.2.2] at Z;injection Z with Z;exact HE.out Z.symm);go_ret;exact⟨by rw[HD.out]<;>rfl,Y.1.trans HT.out⟩)
 obtain rfl:j=C.length:=by omega
 have Y:=J2 R J;clear R J;have HL:=oH a1;have HD:=oH (bL (p:=C=lb) (by have:=lP (g:=id) HL.out (fun i x y hx hy=>Y.2 i x y (lS.1 hx).1 hx hy);rwa [List.map_id,List.map_id] at this));go_wp2_with fail;go_ret;exact⟨by rw[HD.out]<;>rfl,Y.1⟩)
 have t0:((C.length:Int) !=(lb.length:Int))=true:=by simp;omega
 have HL:=oH a1;clear a1;go_enter func93,ntmps93;have HD:=oH (cI (p:=C=lb) fun e=>HL.out (by rw[e]));go_wp2_with fail;go_ret;exact⟨by rw[HD.out]<;>rfl,kR⟩
theorem Bf {x y:bz}:jD x y↔x.kind=y.kind∧x.op=y.op∧x.dst=y.dst∧x.ref=y.ref∧x.Ni=y.Ni∧x.num=y.num∧x.args=y.args∧x.Nh=y.Nh:=by
 obtain⟨k,o,d,r,a,l,f,n,p⟩:=x;obtain⟨k',o',d',r',a',l',f',n',p'⟩:=y;simp only[jD,iE,bz.mk.injEq,and_true];constructor;·rintro⟨j,C,J,R,Y,Z,h7,h8⟩;exact⟨j,C,J,R,Y,h8,Z,h7⟩
 rintro⟨j,C,J,R,Y,Z,h7,h8⟩;exact⟨j,C,J,R,Y,h7,h8,Z⟩
theorem Be (S T:Nat→Prop)(x y:bz)(xa xf ya yf:Value)(w:World)(h1:aK S w xa x.args)(h2:aK S w xf x.Nh)(h3:aK T w ya y.args)(h4:aK T w yf y.Nh):
 Calls prog 99 #[.agg #[.int .u8 x.kind,.int .u8 x.op,.int .i64 x.dst,.int .i64 x.ref,.int .i64 x.Ni,xa,xf,.int .i64 x.num,.int .i64 x.Nj],.agg #[.int .u8 y.kind,.int .u8 y.op,.int .i64 y.dst,.int .i64 y.ref,.int .i64 y.Ni,ya,yf,.int .i64 y.num,.int .i64 y.Nj]] w fun e w'=>e=.returned (.bool (pB (jD x y)))∧aa All w w':=by
 have hA:=fun wn (hk:aa All w wn)=>oP S T xa ya x.args y.args wn (ah.keep hk.all h1) (ah.keep hk.all h3);have hF:=fun wn (hk:aa All w wn)=>oP S T xf yf x.Nh y.Nh wn (ah.keep hk.all h2) (ah.keep hk.all h4);obtain⟨a1,a6,rfl,_⟩:=h1;obtain⟨a7,a8,rfl,_⟩:=h2;obtain⟨b0,b1,rfl,_⟩:=h3;obtain⟨b2,b3,rfl,_⟩:=h4;obtain⟨W1,o⟩:=eQ ((w.alloc (.cells #[.int .u8 x.kind,.int .u8 x.op,.int .i64 x.dst,.int .i64 x.ref,.int .i64 x.Ni,.slice a1 x.args.length a6,.slice a7 x.Nh.length a8,.int .i64 x.num,.int .i64 x.Nj] 47)).alloc (.cells #[.int .u8 y.kind,.int .u8 y.op,.int .i64 y.dst,.int .i64 y.ref,.int .i64 y.Ni,.slice b0 y.args.length b1,.slice b2 y.Nh.length b3,.int .i64 y.num,.int .i64 y.Nj] 47));have b4:aa All w W1:=by rw[o];exact(kR.alloc _).alloc _
 have C:al W1 w.heap.size 47 #[.int .u8 x.kind,.int .u8 x.op,.int .i64 x.dst,.int .i64 x.ref,.int .i64 x.Ni,.slice a1 x.args.length a6,.slice a7 x.Nh.length a8,.int .i64 x.num,.int .i64 x.Nj]:=by rw[o];exact(al.new _ _ _).alloc _
 have J:al W1 (w.heap.size+1) 47 #[.int .u8 y.kind,.int .u8 y.op,.int .i64 y.dst,.int .i64 y.ref,.int .i64 y.Ni,.slice b0 y.args.length b1,.slice b2 y.Nh.length b3,.int .i64 y.num,.int .i64 y.Nj]:=by rw[o];exact ac (by simp)
 have e0:=C.cell 0;have f0:=J.cell 0;have e1:=C.cell 1;have f1:=J.cell 1;have e2:=C.cell 2;have f2:=J.cell 2;have e3:=C.cell 3;have f3:=J.cell 3;have e4:=C.cell 4;have f4:=J.cell 4;have e5:=C.cell 5;have f5:=J.cell 5;have e7:=C.cell 7;have f7:=J.cell 7;simp only[gc] at e0 f0 e1 f1 e2 f2 e3 f3 e4 f4 e5 f5 e7 f7;have j:=J6 o b4 C J hA hF;have R:=oH (Bf (x:=x) (y:=y));clear o b4 C J hA hF;go_enter func99,ntmps99;go_upto_region 1 with fail;rw[←j.1];by_cases d0:x.kind=y.kind
 case neg=>(
 have t0:((x.kind:Int)==(y.kind:Int))=false:=by rw[bE];omega
 have l:=oH (au (P:=jD x y) fun h=>d0 (R.1 h).1);clear d0;go_wp2_with fail;go_ret;exact⟨by rw[l.out]<;>rfl,j.2.1⟩)
 have t0:((x.kind:Int)==(y.kind:Int))=true:=by rw[cy];omega
 have D0:=oH d0;clear d0;by_cases d1:x.op=y.op
 case neg=>(
 have t1:((x.op:Int)==(y.op:Int))=false:=by rw[bE];omega
 have l:=oH (au (P:=jD x y) fun h=>d1 (R.1 h).2.1);clear d1;go_wp2_with fail;go_ret;exact⟨by rw[l.out]<;>rfl,j.2.1⟩)
 have t1:((x.op:Int)==(y.op:Int))=true:=by rw[cy];omega
 have D1:=oH d1;clear d1;by_cases d2:x.dst=y.dst
 case neg=>(
 have t2:((x.dst:Int)==(y.dst:Int))=false:=by rw[bE];omega
 have l:=oH (au (P:=jD x y) fun h=>d2 (R.1 h).2.2.1);clear d2;go_wp2_with fail;go_ret;exact⟨by rw[l.out]<;>rfl,j.2.1⟩)
 have t2:((x.dst:Int)==(y.dst:Int))=true:=by rw[cy];omega
 have D2:=oH d2;clear d2;by_cases d3:x.ref=y.ref
 case neg=>(
 have t3:((x.ref:Int)==(y.ref:Int))=false:=by rw[bE];omega
 have l:=oH (au (P:=jD x y) fun h=>d3 (R.1 h).2.2.2.1);clear d3;go_wp2_with fail;go_ret;exact⟨by rw[l.out]<;>rfl,j.2.1⟩)
 have t3:((x.ref:Int)==(y.ref:Int))=true:=by rw[cy];omega
 have D3:=oH d3;clear d3;by_cases d4:x.Ni=y.Ni
 case neg=>(
 have t4:((x.Ni:Int)==(y.Ni:Int))=false:=by rw[bE];omega
 have l:=oH (au (P:=jD x y) fun h=>d4 (R.1 h).2.2.2.2.1);clear d4;go_wp2_with fail;go_ret;exact⟨by rw[l.out]<;>rfl,j.2.1⟩)
 have t4:((x.Ni:Int)==(y.Ni:Int))=true:=by rw[cy];omega
 have D4:=oH d4;clear d4;by_cases d5:x.num=y.num
 case neg=>(
 have t5:((x.num:Int)==(y.num:Int))=false:=by rw[bE];omega
 have l:=oH (au (P:=jD x y) fun h=>d5 (R.1 h).2.2.2.2.2.1);clear d5;go_wp2_with fail;go_ret;exact⟨by rw[l.out]<;>rfl,j.2.1⟩)
 have t5:((x.num:Int)==(y.num:Int))=true:=by rw[cy];omega
 have D5:=oH d5;clear d5;go_wp2_with fail;refine(j.2.2.2.2.1 _ j.2.1).mono ?_;rintro e w2 ⟨rfl,Y⟩;have e6:=(j.2.2.1.kept Y trivial).cell 6;have f6:=(j.2.2.2.1.kept Y trivial).cell 6;simp only[gc] at e6 f6;have H2:=oH Y;clear Y;by_cases Z:x.args=y.args
 case neg=>(rw[cI Z];have l:=oH (au (P:=jD x y) fun h=>Z (R.1 h).2.2.2.2.2.2.1);clear Z;go_wp2_with fail;go_ret;exact⟨by rw[l.out]<;>rfl,j.2.1.trans H2.out⟩)
 rw[bL Z];have HA:=oH Z;clear Z;go_wp2_with fail;refine(j.2.2.2.2.2 _ (j.2.1.trans H2.out)).mono ?_;rintro e w3 ⟨rfl,b5⟩;have H3:=oH b5;clear b5;have l:=oH (show decide (x.Nh=y.Nh)=pB (jD x y) by
  by_cases h:x.Nh=y.Nh;·rw[bL h,av (R.2 ⟨D0.out,D1.out,D2.out,D3.out,D4.out,D5.out,HA.out,h⟩)]
  rw[cI h,au fun h'=>h (R.1 h').2.2.2.2.2.2.2])
 rw[l.out];go_wp2_with fail;go_ret;exact⟨rfl,(j.2.1.trans H2.out).trans H3.out⟩
theorem CS (S T:Nat→Prop)(va vb:Value)(R lb:List (bz))(w:World)(ha:tZ S w va R)(hb:tZ T w vb lb):
 Calls prog 98 #[va,vb,.func (.func 99) #[] #[]] w fun e w'=>e=.returned (.bool (pB (R.map iE=lb.map iE)))∧aa All w w':=by
 have hA:=cT.la ha;have hB:=cT.la hb;obtain⟨A1,c1,rfl,l1,l2,l3,_⟩:=ha;obtain⟨A2,c2,rfl,m1,m2,m3,_⟩:=hb;unfold maxLen at l2 m2;have HV:=J2 hA hB;clear hA hB;by_cases J:R.length=lb.length;·(
 have t0:((R.length:Int) !=(lb.length:Int))=false:=by simp;omega
 have c7:=oH J;have c9:=eE J;have d7:=eE J.symm;clear J;go_enter func98,ntmps98;go_wp2_with fail;go_loopg [17] R.length (fun g s wr=>∃j:Nat,j≤R.length∧g=R.length-j∧s=.int .i64 j∧aa All w wr∧∀(i:Nat) x y,i<j→R[i]? =some x→lb[i]? =some y→iE x=iE y);·exact⟨0,by omega,by omega,rfl,kR,fun i a b h=>by omega⟩
 obtain⟨j,hj,rfl,rfl,a1,Y⟩:=hrel;by_cases c8:j<R.length;·(
 obtain⟨x,hx⟩:=eG c8;have b0:j<lb.length:=by omega
 obtain⟨y,hy⟩:=eG b0;obtain⟨xb,xo,d8,rfl,_,_,o,xa,xf,rfl,b1,b2,_⟩:=aZ (HV.1 wr a1) hx;obtain⟨yb,yo,d9,rfl,_,_,C,ya,yf,rfl,b3,b4,_⟩:=aZ (HV.2 wr a1) hy;have hS:=fun wn (hk:aa All wr wn)=>Be S T x y xa xf ya yf wn (ah.keep hk.all b1) (ah.keep hk.all b2) (ah.keep hk.all b3) (ah.keep hk.all b4);obtain⟨b5,b6,rfl,_⟩:=b1;obtain⟨b7,b8,rfl,_⟩:=b2;obtain⟨b9,c0,rfl,_⟩:=b3;obtain⟨c3,c4,rfl,_⟩:=b4;have x0:=o 0 _ rfl;have x1:=o 1 _ rfl;have x2:=o 2 _ rfl;have x3:=o 3 _ rfl;have x4:=o 4 _ rfl;have x5:=o 5 _ rfl;have x6:=o 6 _ rfl;have x7:=o 7 _ rfl;have x8:=o 8 _ rfl;have y0:=C 0 _ rfl;have y1:=C 1 _ rfl;have y2:=C 2 _ rfl;have y3:=C 3 _ rfl;have y4:=C 4 _ rfl;have y5:=C 5 _ rfl;have y6:=C 6 _ rfl;have y7:=C 7 _ rfl;have y8:=C 8 _ rfl;rw[dj] at x0 y0;obtain⟨Wa,a7⟩:=eQ (wr.alloc (.cells #[.int .u8 x.kind,.int .u8 x.op,.int .i64 x.dst,.int .i64 x.ref,.int .i64 x.Ni,.slice b5 x.args.length b6,.slice b7 x.Nh.length b8,.int .i64 x.num,.int .i64 x.Nj] 47));have l:aa All wr Wa:=by rw[a7];exact kR.alloc _
 have y0:=l.cell trivial y0;have y1:=l.cell trivial y1;have y2:=l.cell trivial y2;have y3:=l.cell trivial y3;have y4:=l.cell trivial y4;have y5:=l.cell trivial y5;have y6:=l.cell trivial y6;have y7:=l.cell trivial y7;have y8:=l.cell trivial y8;obtain⟨W2,a6⟩:=eQ (Wa.alloc (.cells #[.int .u8 y.kind,.int .u8 y.op,.int .i64 y.dst,.int .i64 y.ref,.int .i64 y.Ni,.slice b9 y.args.length c0,.slice c3 y.Nh.length c4,.int .i64 y.num,.int .i64 y.Nj] 47));have a8:aa All wr W2:=by rw[a6];exact l.alloc _
 have bX:al W2 wr.heap.size 47 #[.int .u8 x.kind,.int .u8 x.op,.int .i64 x.dst,.int .i64 x.ref,.int .i64 x.Ni,.slice b5 x.args.length b6,.slice b7 x.Nh.length b8,.int .i64 x.num,.int .i64 x.Nj]:=by rw[a6,a7];exact(al.new _ _ _).alloc _
 have bY:al W2 Wa.heap.size 47 #[.int .u8 y.kind,.int .u8 y.op,.int .i64 y.dst,.int .i64 y.ref,.int .i64 y.Ni,.slice b9 y.args.length c0,.slice c3 y.Nh.length c4,.int .i64 y.num,.int .i64 y.Nj]:=by rw[a6];exact ac rfl
 have e0:=bX.cell 0;have f0:=bY.cell 0;have e1:=bX.cell 1;have f1:=bY.cell 1;have e2:=bX.cell 2;have f2:=bY.cell 2;have e3:=bX.cell 3;have f3:=bY.cell 3;have e4:=bX.cell 4;have f4:=bY.cell 4;have e5:=bX.cell 5;have f5:=bY.cell 5;have e6:=bX.cell 6;have f6:=bY.cell 6;have e7:=bX.cell 7;have f7:=bY.cell 7;have e8:=bX.cell 8;have f8:=bY.cell 8;simp only[gc] at e0 f0 e1 f1 e2 f2 e3 f3 e4 f4 e5 f5 e6 f6 e7 f7 e8 f8;have HS:=oH (hS W2 a8);have Z:=J7 a1 Y hx hy a6 a8 a7;clear a1 Y hx hy a6 a8 bX bY hS o C a7 l;go_upto_region 6 with fail;rw[←Z.2.2.2.2.2.2];go_upto_region 7 with fail;rw[←Z.2.2.2.2.1];go_wp2_with fail;refine HS.out.mono ?_;rintro e w3 ⟨rfl,c5⟩;have c6:=oH c5;clear c5;by_cases he:jD x y
 ·rw[av he];have HE:=oH he;clear he;go_wp2_with fail;go_roundg (R.length-(j+1))
  ·refine⟨j+1,by omega,rfl,by go_num,(Z.1.trans Z.2.2.2.2.2.1).trans c6.out,fun i a b hi ha hb=>?_⟩
   by_cases e:i=j;·subst e;rw[Z.2.2.1] at ha;rw[Z.2.2.2.1] at hb;cases ha;cases hb;exact HE.out
   exact Z.2.1 i a b (by omega) ha hb
  omega
 rw[au he];have HD:=oH (au (P:=R.map iE=lb.map iE) (qC Z.2.2.1 Z.2.2.2.1 he));clear he;go_wp2_with fail;go_ret;exact⟨by rw[HD.out]<;>rfl,(Z.1.trans Z.2.2.2.2.2.1).trans c6.out⟩)
 obtain rfl:j=R.length:=by omega
 have Z:=J2 a1 Y;clear a1 Y;have HD:=oH (av (P:=R.map iE=lb.map iE) (lP c7.out (fun i x y hx hy=>Z.2 i x y (lS.1 hx).1 hx hy)));go_wp2_with fail;go_ret;exact⟨by rw[HD.out]<;>rfl,Z.1⟩)
 have t0:((R.length:Int) !=(lb.length:Int))=true:=by simp;omega
 have HD:=oH (au (P:=R.map iE=lb.map iE) (sS J));clear J;go_enter func98,ntmps98;go_wp2_with fail;go_ret;exact⟨by rw[HD.out]<;>rfl,kR⟩
theorem CT (S T:Nat→Prop)(l o:Value)(C lb:List bz)(w:World)(R:tZ S w l C)(Y:tZ T w o lb):
 Calls prog 97 #[l,o] w fun e Z=>e=.returned (.bool (pB (C.map iE=lb.map iE)))∧aa All w Z:=by
 have H:=oH (CS S T l o C lb w R Y);clear R Y;go_enter func97,ntmps97;go_wp2_with fail;refine H.out.mono ?_;rintro e w3 ⟨rfl,j⟩;have J:=oH j;clear j;go_wp2_with fail;go_ret;exact⟨rfl,J.out⟩
theorem Ac (S T:Nat→Prop)(va vb:Value)(C lb:List (List bz))(w:World)(Z:bW S w va C)(hb:bW T w vb lb):
 Calls prog 96 #[va,vb,.func (.func 97) #[] #[]] w fun e w'=>e=.returned (.bool (pB (C.map (fun l=>l.map iE)=lb.map (fun l=>l.map iE))))∧aa All w w':=by
 have hA:=bg.la Z;have hB:=bg.la hb;obtain⟨A1,c1,rfl,l1,l2,l3,_⟩:=Z;obtain⟨A2,c2,rfl,m1,m2,m3,_⟩:=hb;unfold maxLen at l2 m2;have HV:=J2 hA hB;clear hA hB;by_cases o:C.length=lb.length;·(
 have t0:((C.length:Int) !=(lb.length:Int))=false:=by simp;omega
 have b1:=oH o;have b3:=eE o;have b4:=eE o.symm;clear o;go_enter func96,ntmps96;go_wp2_with fail;go_loopg [17] C.length (fun g s wr=>∃j:Nat,j≤C.length∧g=C.length-j∧s=.int .i64 j∧aa All w wr∧∀(i:Nat) x y,i<j→C[i]? =some x→lb[i]? =some y→(fun l=>l.map iE) x=(fun l=>l.map iE) y);·exact⟨0,by omega,by omega,rfl,kR,fun i a b h=>by omega⟩
 obtain⟨j,hj,rfl,rfl,R,J⟩:=hrel;by_cases b2:j<C.length;·(
 obtain⟨x,hx⟩:=eG b2;have a1:j<lb.length:=by omega
 obtain⟨y,hy⟩:=eG a1;obtain⟨xb,xo,xv,rfl,_,b5,a6⟩:=bn (HV.1 wr R) hx;obtain⟨yb,yo,yv,rfl,_,b6,a7⟩:=bn (HV.2 wr R) hy;have HS:=oH (CT S T xv yv x y wr a6 a7);obtain⟨x1,x2,rfl,_⟩:=a6;obtain⟨y1,y2,rfl,_⟩:=a7;have Y:=J4 R J hx hy;clear R J hx hy;go_wp2_with fail;refine HS.out.mono ?_;rintro e w3 ⟨rfl,a8⟩;have b0:=oH a8;clear a8;by_cases he:x.map iE=y.map iE
 ·rw[av he];have HE:=oH he;clear he;go_wp2_with fail;go_roundg (C.length-(j+1))
  ·refine⟨j+1,by omega,rfl,by go_num,Y.1.trans b0.out,fun i a b hi Z hb=>?_⟩
   by_cases e:i=j;·subst e;rw[Y.2.2.1] at Z;rw[Y.2.2.2] at hb;cases Z;cases hb;exact HE.out
   exact Y.2.1 i a b (by omega) Z hb
  omega
 rw[au he];have HD:=oH (au (P:=C.map (fun l=>l.map iE)=lb.map (fun l=>l.map iE)) (qC Y.2.2.1 Y.2.2.2 he));clear he;go_wp2_with fail;go_ret;exact⟨by rw[HD.out]<;>rfl,Y.1.trans b0.out⟩)
 obtain rfl:j=C.length:=by omega
 have Y:=J2 R J;clear R J;have HD:=oH (av (P:=C.map (fun l=>l.map iE)=lb.map (fun l=>l.map iE)) (lP b1.out (fun i x y hx hy=>Y.2 i x y (lS.1 hx).1 hx hy)));go_wp2_with fail;go_ret;exact⟨by rw[HD.out]<;>rfl,Y.1⟩)
 have t0:((C.length:Int) !=(lb.length:Int))=true:=by simp;omega
 have HD:=oH (au (P:=C.map (fun l=>l.map iE)=lb.map (fun l=>l.map iE)) (sS o));clear o;go_enter func96,ntmps96;go_wp2_with fail;go_ret;exact⟨by rw[HD.out]<;>rfl,kR⟩
def fC (b:aw):Int×Int×List (List bz):=(b.params,b.vars,b.Ng.map fun l=>l.map iE)
theorem CG {x y:aw}:fC x=fC y↔x.params=y.params∧x.vars=y.vars∧x.Ng.map (fun l=>l.map iE)=y.Ng.map (fun l=>l.map iE):=by simp[fC]
theorem AQ (S T:Nat→Prop)(x y:aw)(xa ya:Value)(w:World)(h1:bW S w xa x.Ng)(h2:bW T w ya y.Ng):
 Calls prog 95 #[.agg #[.int .i64 x.params,.int .i64 x.vars,xa],.agg #[.int .i64 y.params,.int .i64 y.vars,ya]] w fun e w'=>e=.returned (.bool (pB (fC x=fC y)))∧aa All w w':=by
 have hA:=fun wn (hk:aa All w wn)=>Ac S T xa ya x.Ng y.Ng wn (bg.keep hk.all h1) (bg.keep hk.all h2);obtain⟨C,J,rfl,_⟩:=h1;obtain⟨R,Y,rfl,_⟩:=h2;obtain⟨W1,j⟩:=eQ ((w.alloc (.cells #[.int .i64 x.params,.int .i64 x.vars,.slice C x.Ng.length J] 43)).alloc (.cells #[.int .i64 y.params,.int .i64 y.vars,.slice R y.Ng.length Y] 43));have Z:aa All w W1:=by rw[j];exact(kR.alloc _).alloc _
 have bX:al W1 w.heap.size 43 #[.int .i64 x.params,.int .i64 x.vars,.slice C x.Ng.length J]:=by rw[j];exact(al.new _ _ _).alloc _
 have bY:al W1 (w.heap.size+1) 43 #[.int .i64 y.params,.int .i64 y.vars,.slice R y.Ng.length Y]:=by rw[j];exact ac (by simp)
 have e0:=bX.cell 0;have e1:=bX.cell 1;have e2:=bX.cell 2;have f0:=bY.cell 0;have f1:=bY.cell 1;have f2:=bY.cell 2;simp only[gc] at e0 e1 e2 f0 f1 f2;have o:=J3 j Z hA;have HI:=oH (CG (x:=x) (y:=y));clear j Z bX bY hA;go_enter func95,ntmps95;go_upto_region 1 with fail;rw[←o.1];by_cases d0:x.params=y.params
 case neg=>(
 have t0:(x.params==y.params)=false:=by rw[bE];exact d0
 have HD:=oH (au (P:=fC x=fC y) fun h=>d0 (HI.1 h).1);clear d0;go_wp2_with fail;go_ret;exact⟨by rw[HD.out]<;>rfl,o.2.1⟩)
 have t0:(x.params==y.params)=true:=by rw[cy];exact d0
 have D0:=oH d0;clear d0;by_cases d1:x.vars=y.vars
 case neg=>(
 have t1:(x.vars==y.vars)=false:=by rw[bE];exact d1
 have HD:=oH (au (P:=fC x=fC y) fun h=>d1 (HI.1 h).2.1);clear d1;go_wp2_with fail;go_ret;exact⟨by rw[HD.out]<;>rfl,o.2.1⟩)
 have t1:(x.vars==y.vars)=true:=by rw[cy];exact d1
 have D1:=oH d1;clear d1;go_wp2_with fail;refine(o.2.2 _ o.2.1).mono ?_;rintro e w3 ⟨rfl,a1⟩;have H3:=oH a1;clear a1;have HD:=oH (show pB (x.Ng.map (fun l=>l.map iE)=y.Ng.map (fun l=>l.map iE))=pB (fC x=fC y) by
  by_cases h:x.Ng.map (fun l=>l.map iE)=y.Ng.map (fun l=>l.map iE);·rw[av h,av (HI.2 ⟨D0.out,D1.out,h⟩)]
  rw[au h,au fun h'=>h (HI.1 h').2.2])
 rw[HD.out];go_wp2_with fail;go_ret;exact⟨rfl,o.2.1.trans H3.out⟩
theorem wJ (S T:Nat→Prop)(va vb:Value)(o lb:List (aw))(w:World)(ha:mL S w va o)(hb:mL T w vb lb):
 Calls prog 94 #[va,vb,.func (.func 95) #[] #[]] w fun e w'=>e=.returned (.bool (pB (o.map fC=lb.map fC)))∧aa All w w':=by
 have hA:=bV.la ha;have hB:=bV.la hb;obtain⟨A1,c1,rfl,l1,l2,l3,_⟩:=ha;obtain⟨A2,c2,rfl,m1,m2,m3,_⟩:=hb;unfold maxLen at l2 m2;have HV:=J2 hA hB;clear hA hB;by_cases l:o.length=lb.length;·(
 have t0:((o.length:Int) !=(lb.length:Int))=false:=by simp;omega
 have b9:=oH l;have c3:=eE l;have c4:=eE l.symm;clear l;go_enter func94,ntmps94;go_wp2_with fail;go_loopg [17] o.length (fun g s wr=>∃j:Nat,j≤o.length∧g=o.length-j∧s=.int .i64 j∧aa All w wr∧∀(i:Nat) x y,i<j→o[i]? =some x→lb[i]? =some y→fC x=fC y);·exact⟨0,by omega,by omega,rfl,kR,fun i a b h=>by omega⟩
 obtain⟨j,hj,rfl,rfl,R,C⟩:=hrel;by_cases c0:j<o.length;·(
 obtain⟨x,hx⟩:=eG c0;have b0:j<lb.length:=by omega
 obtain⟨y,hy⟩:=eG b0;obtain⟨xb,xo,c5,rfl,_,_,a1,xa,rfl,b1,_⟩:=aZ (HV.1 wr R) hx;obtain⟨yb,yo,c6,rfl,_,_,a6,ya,rfl,b2,_⟩:=aZ (HV.2 wr R) hy;have hS:=fun wn (hk:aa All wr wn)=>AQ S T x y xa ya wn (bg.keep hk.all b1) (bg.keep hk.all b2);obtain⟨b3,b4,rfl,_⟩:=b1;obtain⟨b5,b6,rfl,_⟩:=b2;have x0:=a1 0 _ rfl;have x1:=a1 1 _ rfl;have x2:=a1 2 _ rfl;have y0:=a6 0 _ rfl;have y1:=a6 1 _ rfl;have y2:=a6 2 _ rfl;rw[dj] at x0 y0;obtain⟨Wa,a7⟩:=eQ (wr.alloc (.cells #[.int .i64 x.params,.int .i64 x.vars,.slice b3 x.Ng.length b4] 43));have Y:aa All wr Wa:=by rw[a7];exact kR.alloc _
 have y0:=Y.cell trivial y0;have y1:=Y.cell trivial y1;have y2:=Y.cell trivial y2;obtain⟨W2,Z⟩:=eQ (Wa.alloc (.cells #[.int .i64 y.params,.int .i64 y.vars,.slice b5 y.Ng.length b6] 43));have a8:aa All wr W2:=by rw[Z];exact Y.alloc _
 have bX:al W2 wr.heap.size 43 #[.int .i64 x.params,.int .i64 x.vars,.slice b3 x.Ng.length b4]:=by rw[Z,a7];exact(al.new _ _ _).alloc _
 have bY:al W2 Wa.heap.size 43 #[.int .i64 y.params,.int .i64 y.vars,.slice b5 y.Ng.length b6]:=by rw[Z];exact ac rfl
 have e0:=bX.cell 0;have f0:=bY.cell 0;have e1:=bX.cell 1;have f1:=bY.cell 1;have e2:=bX.cell 2;have f2:=bY.cell 2;simp only[gc] at e0 f0 e1 f1 e2 f2;have HS:=oH (hS W2 a8);have J:=J7 R C hx hy Z a8 a7;clear R C hx hy Z a8 bX bY hS a1 a6 a7 Y;go_upto_region 6 with fail;rw[←J.2.2.2.2.2.2];go_upto_region 7 with fail;rw[←J.2.2.2.2.1];go_wp2_with fail;refine HS.out.mono ?_;rintro e w3 ⟨rfl,b7⟩;have b8:=oH b7;clear b7;by_cases he:fC x=fC y
 ·rw[av he];have HE:=oH he;clear he;go_wp2_with fail;go_roundg (o.length-(j+1))
  ·refine⟨j+1,by omega,rfl,by go_num,(J.1.trans J.2.2.2.2.2.1).trans b8.out,fun i a b hi ha hb=>?_⟩
   by_cases e:i=j;·subst e;rw[J.2.2.1] at ha;rw[J.2.2.2.1] at hb;cases ha;cases hb;exact HE.out
   exact J.2.1 i a b (by omega) ha hb
  omega
 rw[au he];have HD:=oH (au (P:=o.map fC=lb.map fC) (qC J.2.2.1 J.2.2.2.1 he));clear he;go_wp2_with fail;go_ret;exact⟨by rw[HD.out]<;>rfl,(J.1.trans J.2.2.2.2.2.1).trans b8.out⟩)
 obtain rfl:j=o.length:=by omega
 have J:=J2 R C;clear R C;have HD:=oH (av (P:=o.map fC=lb.map fC) (lP b9.out (fun i x y hx hy=>J.2 i x y (lS.1 hx).1 hx hy)));go_wp2_with fail;go_ret;exact⟨by rw[HD.out]<;>rfl,J.1⟩)
 have t0:((o.length:Int) !=(lb.length:Int))=true:=by simp;omega
 have HD:=oH (au (P:=o.map fC=lb.map fC) (sS l));clear l;go_enter func94,ntmps94;go_wp2_with fail;go_ret;exact⟨by rw[HD.out]<;>rfl,kR⟩
section
open Go.Shelf
def Tryz.lays189_ren:Go.Shelf.Ren:=⟨fun|189=>105|125=>148|257=>147|128=>177|129=>178|294=>168|295=>169|296=>170|297=>171|298=>172|299=>173|216=>174|300=>175|301=>176|328=>186|329=>187|330=>188|331=>189|332=>190|215=>191|343=>199|n=>n,fun|28=>45|3=>3|46=>255|0=>0|51=>277|53=>90|4=>4|183=>272|182=>271|131=>154|5=>5|9=>9|218=>288|222=>292|228=>302|229=>285|n=>n,fun|n=>n⟩
theorem Tryz.lays189:Go.Proofs.Lays.n189 prog Tryz.lays189_ren:= {
 mixed:=by kernel_rfl
 f125:=func148.trans (congrArg some (by kernel_rfl))
 f128:=func177.trans (congrArg some (by kernel_rfl))
 f129:=func178.trans (congrArg some (by kernel_rfl))
 f189:=func105.trans (congrArg some (by kernel_rfl))
 f215:=func191.trans (congrArg some (by kernel_rfl))
 f216:=func174.trans (congrArg some (by kernel_rfl))
 f257:=func147.trans (congrArg some (by kernel_rfl))
 f294:=func168.trans (congrArg some (by kernel_rfl))
 f295:=func169.trans (congrArg some (by kernel_rfl))
 f296:=func170.trans (congrArg some (by kernel_rfl))
 f297:=func171.trans (congrArg some (by kernel_rfl))
 f298:=func172.trans (congrArg some (by kernel_rfl))
 f299:=func173.trans (congrArg some (by kernel_rfl))
 f300:=func175.trans (congrArg some (by kernel_rfl))
 f301:=func176.trans (congrArg some (by kernel_rfl))
 f328:=func186.trans (congrArg some (by kernel_rfl))
 f329:=func187.trans (congrArg some (by kernel_rfl))
 f330:=func188.trans (congrArg some (by kernel_rfl))
 f331:=func189.trans (congrArg some (by kernel_rfl))
 f332:=func190.trans (congrArg some (by kernel_rfl))
 f343:=func199.trans (congrArg some (by kernel_rfl))
 t0:=underlying0
 a0:=Tryz.isAgg0
 z0:=Tryz.sizeOf0
 v0:=Tryz.zeroValue0
 t3:=underlying3
 a3:=Tryz.isAgg3
 z3:=Tryz.sizeOf3
 v3:=Tryz.zeroValue3
 t4:=underlying4
 a4:=Tryz.isAgg4
 z4:=Tryz.sizeOf4
 v4:=Tryz.zeroValue4
 t5:=underlying5
 a5:=Tryz.isAgg5
 z5:=Tryz.sizeOf5
 v5:=Tryz.zeroValue5
 t9:=underlying9
 a9:=Tryz.isAgg9
 z9:=Tryz.sizeOf9
 v9:=Tryz.zeroValue9
 t28:=underlying45
 a28:=Tryz.isAgg45
 z28:=Tryz.sizeOf45
 v28:=Tryz.zeroValue45
 t46:=underlying255
 a46:=Tryz.isAgg255
 z46:=Tryz.sizeOf255
 v46:=Tryz.zeroValue255
 t51:=underlying277
 a51:=Tryz.isAgg277
 z51:=Tryz.sizeOf277
 v51:=Tryz.zeroValue277
 t53:=underlying90
 a53:=Tryz.isAgg90
 z53:=Tryz.sizeOf90
 v53:=Tryz.zeroValue90
 t131:=underlying154
 a131:=Tryz.isAgg154
 z131:=Tryz.sizeOf154
 v131:=Tryz.zeroValue154
 t182:=underlying271
 a182:=Tryz.isAgg271
 z182:=Tryz.sizeOf271
 v182:=Tryz.zeroValue271
 t183:=underlying272
 a183:=Tryz.isAgg272
 z183:=Tryz.sizeOf272
 v183:=Tryz.zeroValue272
 t218:=underlying288
 a218:=Tryz.isAgg288
 z218:=Tryz.sizeOf288
 v218:=Tryz.zeroValue288
 t222:=underlying292
 a222:=Tryz.isAgg292
 z222:=Tryz.sizeOf292
 v222:=Tryz.zeroValue292
 t228:=underlying302
 a228:=Tryz.isAgg302
 z228:=Tryz.sizeOf302
 v228:=Tryz.zeroValue302
 t229:=underlying285
 a229:=Tryz.isAgg285
 z229:=Tryz.sizeOf285
 v229:=Tryz.zeroValue285}
open Go.Sort Go.RowKit in
theorem Tryz.slices_Sort_int (blk off cap:Nat)(zs:List Int)(w:World)(o:Holds (Value.int .i64) w blk off zs.toArray)(j:blk<w.heap.size)(l:zs.length<4611686018427387904):
 Calls prog 105 #[.slice (some ⟨blk,off,none⟩) zs.length cap] w fun e C=>
  e=.returned (.tuple #[])∧∃n os,C=grow (putRow (Value.int .i64) (Sort.ahead w n) blk off (zs.mergeSort fun x y=>decide (x≤y)).toArray) os:=Any.slices_Sort_int Tryz.lays189 blk off cap zs w o j l
def Tryz.laysNm215_ren:Go.Shelf.Ren:=⟨fun|15=>50|n=>n,fun|22=>45|3=>3|4=>4|n=>n,fun|n=>n⟩
theorem Tryz.laysNm215:Go.Proofs.Lays2.n15 prog Tryz.laysNm215_ren:= {
 mixed:=by kernel_rfl
 f15:=func50.trans (congrArg some (by kernel_rfl))
 t3:=underlying3
 a3:=Tryz.isAgg3
 z3:=Tryz.sizeOf3
 v3:=Tryz.zeroValue3
 t4:=underlying4
 a4:=Tryz.isAgg4
 z4:=Tryz.sizeOf4
 v4:=Tryz.zeroValue4
 t22:=underlying45
 a22:=Tryz.isAgg45
 z22:=Tryz.sizeOf45
 v22:=Tryz.zeroValue45
 i3:=by kernel_rfl}
open Go.RowKit Go.Lib in
theorem Tryz.slices_Clone_int (b off n c:Nat)(zs:List Int)(w:World)(J:n≤zs.length)(l:n*8≤140737488355328)(R:∀j,j<zs.length→w.cell? ⟨b,off+j,none⟩=some (.int .i64 (zs.getD j 0))):
 Calls prog 50 #[.slice (some ⟨b,off,none⟩) n c] w fun e C=>∃o,e=.returned o∧C.ownsRow w.heap.size 3 1 o n ((zs.take n).map (Value.int .i64))∧o≠.slice none 0 0∧Below w.heap.size w C:=Any.slices_Clone_int Tryz.laysNm215 b off n c zs w J l R
end
end Go.Proofs.YtncdbjponknakaaGreatDoor
