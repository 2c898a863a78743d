/- Part 21 of the proof of CallsShallow (its last part says what is proved). No condition. -/
import Derived.Test.YtncdbjponknakaaGreatDoorK19
namespace Go.Proofs.YtncdbjponknakaaGreatDoor
set_option maxRecDepth 100000
set_option maxHeartbeats 8000000
open Go.RowKit Go.Proofs.Tryz
theorem qy {w:World}{g:Nat}{e:TypeId}{l:List Int}{B:Nat}(h:al w g e (aI l).toArray)(o:B≤g)(hw:∀x∈l,(Lit.int .i64 x).wf=true)(C:l.length≤1000):aK (fun g=>B≤g∧g<w.heap.size) w (.slice (some ⟨g,0,none⟩) l.length l.length) l:=
 Sl.of_blk h ⟨o,h.lt⟩ (cf _) (by unfold maxLen;omega) (by omega) fun i x j=>⟨.int .i64 x,by simp[aI,j],rfl,hw x (mG j)⟩
theorem Je (S:Nat→Prop)(bv:Value)(b:aw)(w:World)(hb:bW S w bv b.Ng)(hG:gY b):
 Calls prog 66 #[.agg #[.int .i64 b.params,.int .i64 b.vars,bv]] w (EN b w):=by
 obtain⟨iI,c9,d7,d8,d9⟩:=info_parts kt;have II:=J4 c9 d7 d8 d9;clear c9 d7 d8 d9;obtain⟨iR,c9,d7,d8,d9⟩:=info_parts vm;have IR:=J4 c9 d7 d8 d9;clear c9 d7 d8 d9;have h6:=bg.la hb;obtain⟨B1,d1,rfl,m5,m6,m7,_⟩:=hb;unfold maxLen at*;obtain⟨W0,e2⟩:=eQ (w.alloc (.cells #[.int .i64 b.params,.int .i64 b.vars,.slice B1 b.Ng.length d1] 43));have e7:aa All w W0:=by rw[e2];exact kR.alloc _
 have bB:al W0 w.heap.size 43 #[.int .i64 b.params,.int .i64 b.vars,.slice B1 b.Ng.length d1]:=by rw[e2];exact ac rfl
 obtain⟨b0,b1,b2⟩:=bB.c3;have j4:=e7.size;have j5:=hG.blk.2;have HG:=oH hG;have HW:=J4 e2 e7 bB h6;clear e2 e7 bB h6 hG;go_enter func66,ntmps66;go_upto_region 1 with fail;rw[←HW.1];go_wp2_with fail;go_loopg [4,12] b.Ng.length (fun g s4 s5 wr=>∃j:Nat,j≤b.Ng.length∧g=b.Ng.length-j∧s5=.int .i64 j∧aa All W0 wr∧dR 1 45 (eT aK) W0.heap.size wr s4 ((bM b).take j));·exact⟨0,by omega,by omega,rfl,kR,by rw[List.take_zero];exact dR.nil⟩
 obtain⟨j,hj,rfl,rfl,c5,a7⟩:=hrel;have e3:=HW.2.1.trans c5;obtain⟨E,ep,rfl⟩:=a7.form;have b9:((bM b).take j).length=j:=by rw[fN,cS];omega
 rw[b9] at a7⊢;have h7:=HW.2.2.1.kept c5 trivial;clear b0 b1 b2;obtain⟨b0,b1,b2⟩:=h7.c3;clear h7;have j2:=c5.size;by_cases i5:j<b.Ng.length;·(
 obtain⟨l,hl⟩:=eG i5;have e4:=mG hl;obtain⟨rb,ro,rv,rfl,i6,j6,e8⟩:=bn (HW.2.2.2 wr e3) hl;obtain⟨q1,q2,q3⟩:=HG.out.some_ l e4;have e0:=(lC q1).2;have hrefs:=HG.out.ref l e4;have c1:=HG.out.Ni l e4;have h8:(bM b).take (j+1)=(bM b).take j++[eJ (iW l)]:=by rw[cU,Cn hl];rfl
 generalize iW l=x at*;obtain⟨LA,lc,rfl,l1,l2,l3,_⟩:=id e8;unfold maxLen at l2;obtain⟨m,hm⟩:∃m:Nat,l.length=m+1:=⟨l.length-1,by omega⟩;rw[show l.length-1=m by omega] at e0;obtain⟨xb,xo,j7,rfl,i7,h9,b8,xa,xf,rfl,j0,j1,i0⟩:=aZ e8 e0;obtain⟨ua,uc,rfl,_⟩:=j0;obtain⟨va,vc,rfl,_⟩:=j1;have z0:=b8 0 _ rfl;rw[dj] at z0;have z1:=b8 1 _ rfl;have z2:=b8 2 _ rfl;have z3:=b8 3 _ rfl;have z4:=b8 4 _ rfl;have z5:=b8 5 _ rfl;have z6:=b8 6 _ rfl;have z7:=b8 7 _ rfl;have z8:=b8 8 _ rfl;have tl:((l.length:Int)==0)=false:=by rw[bE];omega
 have tm:(l.length:Int)-1=(m:Int):=by omega
 have j8:m<l.length:=by omega
 obtain⟨Y,e5⟩:=eQ (wr.alloc (.cells #[.int .u8 x.kind,.int .u8 x.op,.int .i64 x.dst,.int .i64 x.ref,.int .i64 x.Ni,.slice ua x.args.length uc,.slice va x.Nh.length vc,.int .i64 x.num,.int .i64 x.Nj] 47));have e9:aa All wr Y:=by rw[e5];exact kR.alloc _
 have b5:al Y wr.heap.size 47 #[.int .u8 x.kind,.int .u8 x.op,.int .i64 x.dst,.int .i64 x.ref,.int .i64 x.Ni,.slice ua x.args.length uc,.slice va x.Nh.length vc,.int .i64 x.num,.int .i64 x.Nj]:=by rw[e5];exact ac rfl
 have j9:=e9.size;have HX:=oH (show∀wn,aa All Y wn→wn.cell? ⟨wr.heap.size,0,none⟩=some (.int .u8 x.kind)∧wn.cell? ⟨wr.heap.size,3,none⟩=some (.int .i64 x.ref)∧wn.cell? ⟨wr.heap.size,4,none⟩=some (.int .i64 x.Ni) from fun wn hk=>⟨(b5.kept hk trivial).cell 0,(b5.kept hk trivial).cell 3,(b5.kept hk trivial).cell 4⟩);have HA:=J6 c5 a7 e5 e9 h8 i0;obtain⟨_,i1⟩:=a7.own;have HO:=oH i1;clear c5 a7 e5 e9 b5 h8 hl e4 e8 e0 b8 i0 e3 i6 i7 h9 i1;go_upto_region 9 with fail;rw[←HA.2.2.1];clear z0 z1 z2 z3 z4 z5 z6 z7 z8;obtain⟨c0,c3,c4⟩:=HX.out Y kR;by_cases e6:x.kind=13;·(
 have t12:=nK x.kind 12 (by omega);have t11:=nK x.kind 11 (by omega);have t13:=wK x.kind 13 (by omega);have c6:=oH (show eJ x=[] by unfold eJ;rw[ae (by omega),ae (by omega)]);clear hrefs c1 e6;obtain⟨X9,C⟩:∃X,X=Y.alloc (.cells #[.slice none 0 0] 45):=⟨_,rfl⟩;have J:aa All Y X9:=by rw[C];exact kR.alloc _
 have a8:al X9 Y.heap.size 45 #[.slice none 0 0]:=by rw[C];exact ac rfl
 have R:X9.heap.size=Y.heap.size+1:=by rw[C];simp
 have c7:=eE R;have c8:=eE R.symm;have Z:aa All wr X9:=HA.2.2.2.1.trans ((aa.refl All Y).trans J);have o:=HA.2.1.keep (aS ah) Z fun _ _ _=>trivial;have b3:aK (fun g=>Y.heap.size≤g∧g<Y.heap.size) X9 (.slice none 0 0) (([]:List Int)):=ah.keep J.all (Sl.nil);have h0:=Z.size;have H9:=J5 C a8 o b3 Z;clear C J a8 R o b3 Z;go_wp2_with (
  at_builtin;go_loud (
  rw[←H9.1];refine bN (E:=eT aK) _ (aS ah) rfl (.tmp 57) (.tmp 59) 54 rfl iR _ 24 underlying54 IR.1 IR.2.1 IR.2.2.1 IR.2.2.2 rfl (by decide) _ _ rfl H9.2.2.1 Y.heap.size 0 1 rfl [.slice none 0 0] (([]:List Int)) rfl ?_ ?_ (by rw[b9];omega) (by omega) (by omega) (fun g=>Y.heap.size≤g∧g<Y.heap.size) ?_ ⟨_,rfl,H9.2.2.2.1⟩ ?_;·intro j u hu;rw[cN,H9.2.1.cell,List.getElem?_toArray];exact hu
  ·intro u hu
   rw[cx.1 hu];rfl
  ·intro g hg;have h1:Y.heap.size≤g∧g<Y.heap.size:=hg;exact⟨by omega,by omega,fun e=>by have:=(aD HO.out e).2;omega⟩
  intro D2 h2 w9 o b4 b6;have HZ:=J3 o b4 b6;clear o b4 b6))
 go_roundg (b.Ng.length-(j+1));·refine⟨j+1,by omega,rfl,by go_num,(HA.1.trans H9.2.2.2.2).grown HZ.2.1 fun b hb=>.inr (HZ.2.2 b hb),?_⟩;rw[HA.2.2.2.2.1,c6.out];have h3:=HZ.1;rw[b9] at h3;exact h3
 omega)
 by_cases e1:x.kind=12;·(
 by_cases ea:x.Ni=x.ref;·(
 have t12:=yK x.kind 12 (by omega);have t11:=nK x.kind 11 (by omega);have t13:=mK x.kind 13 (by omega);have t5:(x.Ni !=x.ref)=false:=by rw[gj];exact ea
 have c6:=oH (show eJ x=[x.ref] by unfold eJ;rw[ae (fun h=>h.2 ea),ap (.inl e1)]);clear hrefs c1 e6 e1 ea;obtain⟨X1,a6⟩:∃X,X=Y.alloc (.cells #[.int .i64 x.ref] 3):=⟨_,rfl⟩;have a1:aa All Y X1:=by rw[a6];exact kR.alloc _
 have c2:al X1 Y.heap.size 3 (aI [x.ref]).toArray:=by rw[a6];exact ac rfl
 have i2:=a1.size;have b7:=J3 a6 a1 c2;clear a6 a1 c2;go_upto_region 15 with fail;rw[←b7.1];obtain⟨X9,C⟩:∃X,X=X1.alloc (.cells #[.slice (some ⟨Y.heap.size,0,none⟩) 1 1] 45):=⟨_,rfl⟩;have J:aa All X1 X9:=by rw[C];exact kR.alloc _
 have a8:al X9 X1.heap.size 45 #[.slice (some ⟨Y.heap.size,0,none⟩) 1 1]:=by rw[C];exact ac rfl
 have R:X9.heap.size=X1.heap.size+1:=by rw[C];simp
 have c7:=eE R;have c8:=eE R.symm;have Z:aa All wr X9:=HA.2.2.2.1.trans (b7.2.1.trans J);have o:=HA.2.1.keep (aS ah) Z fun _ _ _=>trivial;have b3:aK (fun g=>Y.heap.size≤g∧g<X1.heap.size) X9 (.slice (some ⟨Y.heap.size,0,none⟩) 1 1) ([x.ref]):=ah.keep J.all (qy (l:=[x.ref]) b7.2.2 (cf _) (fun y hy=>by rcases fX.1 hy with rfl|hy<;>first|exact iw HA.2.2.2.2.2.ref|(rw[cx.1 hy];exact iw HA.2.2.2.2.2.Ni)|cases hy) (by simp));have h0:=Z.size;have H9:=J5 C a8 o b3 Z;clear C J a8 R o b3 Z;go_wp2_with (
  at_builtin;go_loud (
  rw[←H9.1];refine bN (E:=eT aK) _ (aS ah) rfl (.tmp 57) (.tmp 59) 54 rfl iR _ 24 underlying54 IR.1 IR.2.1 IR.2.2.1 IR.2.2.2 rfl (by decide) _ _ rfl H9.2.2.1 X1.heap.size 0 1 rfl [.slice (some ⟨Y.heap.size,0,none⟩) 1 1] ([x.ref]) rfl ?_ ?_ (by rw[b9];omega) (by omega) (by omega) (fun g=>Y.heap.size≤g∧g<X1.heap.size) ?_ ⟨_,rfl,H9.2.2.2.1⟩ ?_;·intro j u hu;rw[cN,H9.2.1.cell,List.getElem?_toArray];exact hu
  ·intro u hu
   rw[cx.1 hu];rfl
  ·intro g hg;have h1:Y.heap.size≤g∧g<X1.heap.size:=hg;exact⟨by omega,by omega,fun e=>by have:=(aD HO.out e).2;omega⟩
  intro D2 h2 w9 o b4 b6;have HZ:=J3 o b4 b6;clear o b4 b6))
 go_roundg (b.Ng.length-(j+1));·refine⟨j+1,by omega,rfl,by go_num,(HA.1.trans H9.2.2.2.2).grown HZ.2.1 fun b hb=>.inr (HZ.2.2 b hb),?_⟩;rw[HA.2.2.2.2.1,c6.out];have h3:=HZ.1;rw[b9] at h3;exact h3
 omega)
 have t12:=yK x.kind 12 (by omega);have t11:=nK x.kind 11 (by omega);have t13:=mK x.kind 13 (by omega);have t5:(x.Ni !=x.ref)=true:=by rw[bne_iff_ne];exact ea
 have c6:=oH (show eJ x=[x.ref,x.Ni] by unfold eJ;rw[ap ⟨e1,ea⟩]);clear hrefs c1 e6 e1 ea;obtain⟨X1,a6⟩:∃X,X=Y.alloc (.cells #[.int .i64 x.ref,.int .i64 x.Ni] 3):=⟨_,rfl⟩;have a1:aa All Y X1:=by rw[a6];exact kR.alloc _
 have c2:al X1 Y.heap.size 3 (aI [x.ref,x.Ni]).toArray:=by rw[a6];exact ac rfl
 have i2:=a1.size;have b7:=J3 a6 a1 c2;clear a6 a1 c2;go_upto_region 15 with fail;rw[←b7.1];obtain⟨X9,C⟩:∃X,X=X1.alloc (.cells #[.slice (some ⟨Y.heap.size,0,none⟩) 2 2] 45):=⟨_,rfl⟩;have J:aa All X1 X9:=by rw[C];exact kR.alloc _
 have a8:al X9 X1.heap.size 45 #[.slice (some ⟨Y.heap.size,0,none⟩) 2 2]:=by rw[C];exact ac rfl
 have R:X9.heap.size=X1.heap.size+1:=by rw[C];simp
 have c7:=eE R;have c8:=eE R.symm;have Z:aa All wr X9:=HA.2.2.2.1.trans (b7.2.1.trans J);have o:=HA.2.1.keep (aS ah) Z fun _ _ _=>trivial;have b3:aK (fun g=>Y.heap.size≤g∧g<X1.heap.size) X9 (.slice (some ⟨Y.heap.size,0,none⟩) 2 2) ([x.ref,x.Ni]):=ah.keep J.all (qy (l:=[x.ref,x.Ni]) b7.2.2 (cf _) (fun y hy=>by rcases fX.1 hy with rfl|hy<;>first|exact iw HA.2.2.2.2.2.ref|(rw[cx.1 hy];exact iw HA.2.2.2.2.2.Ni)|cases hy) (by simp));have h0:=Z.size;have H9:=J5 C a8 o b3 Z;clear C J a8 R o b3 Z;go_wp2_with (
  at_builtin;go_loud (
  rw[←H9.1];refine bN (E:=eT aK) _ (aS ah) rfl (.tmp 57) (.tmp 59) 54 rfl iR _ 24 underlying54 IR.1 IR.2.1 IR.2.2.1 IR.2.2.2 rfl (by decide) _ _ rfl H9.2.2.1 X1.heap.size 0 1 rfl [.slice (some ⟨Y.heap.size,0,none⟩) 2 2] ([x.ref,x.Ni]) rfl ?_ ?_ (by rw[b9];omega) (by omega) (by omega) (fun g=>Y.heap.size≤g∧g<X1.heap.size) ?_ ⟨_,rfl,H9.2.2.2.1⟩ ?_;·intro j u hu;rw[cN,H9.2.1.cell,List.getElem?_toArray];exact hu
  ·intro u hu
   rw[cx.1 hu];rfl
  ·intro g hg;have h1:Y.heap.size≤g∧g<X1.heap.size:=hg;exact⟨by omega,by omega,fun e=>by have:=(aD HO.out e).2;omega⟩
  intro D2 h2 w9 o b4 b6;have HZ:=J3 o b4 b6;clear o b4 b6))
 go_roundg (b.Ng.length-(j+1));·refine⟨j+1,by omega,rfl,by go_num,(HA.1.trans H9.2.2.2.2).grown HZ.2.1 fun b hb=>.inr (HZ.2.2 b hb),?_⟩;rw[HA.2.2.2.2.1,c6.out];have h3:=HZ.1;rw[b9] at h3;exact h3
 omega)
 have t12:=nK x.kind 12 (by omega);have t11:=yK x.kind 11 (by omega);have t13:=mK x.kind 13 (by omega);have c6:=oH (show eJ x=[x.ref] by unfold eJ;rw[ae (by omega),ap (by omega)]);clear hrefs c1 e6 e1;obtain⟨X1,a6⟩:∃X,X=Y.alloc (.cells #[.int .i64 x.ref] 3):=⟨_,rfl⟩;have a1:aa All Y X1:=by rw[a6];exact kR.alloc _
 have c2:al X1 Y.heap.size 3 (aI [x.ref]).toArray:=by rw[a6];exact ac rfl
 have i2:=a1.size;have b7:=J3 a6 a1 c2;clear a6 a1 c2;go_upto_region 15 with fail;rw[←b7.1];obtain⟨X9,C⟩:∃X,X=X1.alloc (.cells #[.slice (some ⟨Y.heap.size,0,none⟩) 1 1] 45):=⟨_,rfl⟩;have J:aa All X1 X9:=by rw[C];exact kR.alloc _
 have a8:al X9 X1.heap.size 45 #[.slice (some ⟨Y.heap.size,0,none⟩) 1 1]:=by rw[C];exact ac rfl
 have R:X9.heap.size=X1.heap.size+1:=by rw[C];simp
 have c7:=eE R;have c8:=eE R.symm;have Z:aa All wr X9:=HA.2.2.2.1.trans (b7.2.1.trans J);have o:=HA.2.1.keep (aS ah) Z fun _ _ _=>trivial;have b3:aK (fun g=>Y.heap.size≤g∧g<X1.heap.size) X9 (.slice (some ⟨Y.heap.size,0,none⟩) 1 1) ([x.ref]):=ah.keep J.all (qy (l:=[x.ref]) b7.2.2 (cf _) (fun y hy=>by rcases fX.1 hy with rfl|hy<;>first|exact iw HA.2.2.2.2.2.ref|(rw[cx.1 hy];exact iw HA.2.2.2.2.2.Ni)|cases hy) (by simp));have h0:=Z.size;have H9:=J5 C a8 o b3 Z;clear C J a8 R o b3 Z;go_wp2_with (
  at_builtin;go_loud (
  rw[←H9.1];refine bN (E:=eT aK) _ (aS ah) rfl (.tmp 57) (.tmp 59) 54 rfl iR _ 24 underlying54 IR.1 IR.2.1 IR.2.2.1 IR.2.2.2 rfl (by decide) _ _ rfl H9.2.2.1 X1.heap.size 0 1 rfl [.slice (some ⟨Y.heap.size,0,none⟩) 1 1] ([x.ref]) rfl ?_ ?_ (by rw[b9];omega) (by omega) (by omega) (fun g=>Y.heap.size≤g∧g<X1.heap.size) ?_ ⟨_,rfl,H9.2.2.2.1⟩ ?_;·intro j u hu;rw[cN,H9.2.1.cell,List.getElem?_toArray];exact hu
  ·intro u hu
   rw[cx.1 hu];rfl
  ·intro g hg;have h1:Y.heap.size≤g∧g<X1.heap.size:=hg;exact⟨by omega,by omega,fun e=>by have:=(aD HO.out e).2;omega⟩
  intro D2 h2 w9 o b4 b6;have HZ:=J3 o b4 b6;clear o b4 b6))
 go_roundg (b.Ng.length-(j+1));·refine⟨j+1,by omega,rfl,by go_num,(HA.1.trans H9.2.2.2.2).grown HZ.2.1 fun b hb=>.inr (HZ.2.2 b hb),?_⟩;rw[HA.2.2.2.2.1,c6.out];have h3:=HZ.1;rw[b9] at h3;exact h3
 omega)
 obtain rfl:j=b.Ng.length:=by omega
 rw[oF (by rw[cS];omega)] at a7;have h4:=jT (a7.read (bw:=24) (aS ah) (by rw[cS];omega));have HQ:=J3 c5 e3 (aq.wide (fun g (hg:W0.heap.size≤g∧g<wr.heap.size)=>show w.heap.size≤g∧g<wr.heap.size by omega) h4);have HC:=oH (gt _ _ (bM b) wr h4);clear c5 e3 a7 h4;skip;go_wp2_with fail;refine HC.out.mono ?_;rintro e w2 ⟨rfl,h5⟩;rw[bL (gd HG.out)];have i4:=oH h5;have j3:=h5.size;clear h5;go_wp2_with fail;go_ret2;exact⟨_,rfl,aq.wide (fun g (hg:w.heap.size≤g∧g<wr.heap.size)=>show w.heap.size≤g∧g<w2.heap.size by omega) (aq.keep i4.out.all HQ.2.2),HQ.2.1.trans i4.out⟩
section
open Classical in
theorem pL {P Q:Nat→Prop}{n:Nat}(h:∀k,k<n→(P k↔Q k)):cV P n=cV Q n:=by
 rcases jX P n with ⟨e,g⟩|⟨k,e,l,C,hm⟩;·rw[e,hZ fun k l o=>g k l ((h k l).2 o)]
 rw[e,lO l (fun j J o=>hm j J ((h j (by omega)).2 o)) ((h k l).1 C)]
noncomputable def qx (l:List Bool):Int:=cV (fun k=>l[k]? =some false) l.length
theorem Jk (l:List Bool): -1≤qx l∧qx l<l.length:=by rcases jX (fun k=>l[k]? =some false) l.length with ⟨e,_⟩|⟨k,e,j,_⟩<;>unfold qx<;>rw[e]<;>omega
theorem Ao (S:Nat→Prop)(va:Value)(l:List Bool)(w:World)(ha:gD S w va l):
 Calls prog 144 #[va,.bool false] w fun e w'=>e=.returned (.int .i64 (qx l))∧w'=w:=by
 obtain⟨a,cap,rfl,h1,h2,_,h⟩:=ha;unfold maxLen at h2;have hl:l.length≤9223372036854775807:=by omega
 have H:=oH h;clear h;go_enter func144,ntmps144;go_wp2_with fail;go_loopg [5,8] l.length (fun g s5 s8 wr=>∃k:Nat,k≤l.length∧g=l.length-k∧s8=.int .i64 k∧wr=w∧∀j,j<k→l[j]?≠some false);·exact⟨0,by omega,by omega,rfl,rfl,fun j hj=>by omega⟩
 obtain⟨k,hk,rfl,rfl,hw,J⟩:=hrel;have R:=hw.symm;subst R;have o:=oH J;clear J;by_cases C:k<l.length;·(
 obtain⟨b,off,c,rfl,hs,hc,Y⟩:=H.out k l[k] (lG C);have hg:l[k]? =some l[k]:=lG C;have Hg:=oH hg;clear hg;generalize l[k]=y at*;obtain rfl:c=.bool y:=Y;cases y with
 |false=>have Z:=oH (lO C o.out Hg.out);go_wp2_with fail;go_ret;exact⟨by unfold qx;rw[Z.out];rfl,rfl⟩
 |true=>
  go_wp2_with fail;go_roundg (l.length-(k+1))
  ·refine⟨k+1,by omega,rfl,by go_num,rfl,fun j hj=>?_⟩;by_cases e:j=k;·subst e;rw[Hg.out];simp
   exact o.out j (by omega)
  omega)
 obtain rfl:k=l.length:=by omega
 have Z:=oH (hZ o.out);go_wp2_with fail;go_ret;exact⟨by unfold qx;rw[Z.out];rfl,rfl⟩
theorem uZ (S:Nat→Prop)(o:Value)(l:List Bool)(w:World)(C:gD S w o l):
 Calls prog 100 #[o] w fun e R=>e=.returned (.tuple #[.int .i64 (max (qx l) 0),.bool (decide (0≤qx l))])∧R=w:=by
 have J:=oH (Ao S o l w C);have Y:=Jk l;obtain⟨a,cap,rfl,h1,Z,_,h⟩:=C;unfold maxLen at Z;clear h;generalize qx l=x at*;by_cases hx:0≤x
 ·have t1:decide (x<0)=false:=by simp;omega
  have t2:decide (x≥0)=true:=by simp;omega
  have t3:decide (0≤x)=true:=by simp;omega
  have t4:max x 0=x:=by omega
  rw[t3,t4];clear t3 t4;go_enter func100,ntmps100;go_wp2_with fail;refine J.out.mono ?_;rintro e w2 ⟨rfl,hw⟩;have j:=hw.symm;subst j;go_wp2_with fail;go_ret2;exact⟨rfl,rfl⟩
 obtain rfl:x= -1:=by omega
 go_enter func100,ntmps100;go_wp2_with fail;refine J.out.mono ?_;rintro e w2 ⟨rfl,hw⟩;have j:=hw.symm;subst j;go_wp2_with fail;go_ret2;exact⟨rfl,rfl⟩
theorem An {ll:List (List Int)}:qx (en ll 0)=cV (kO ll) ll.length:=by
 have j:(en ll 0).length=ll.length:=by simp[en]
 unfold qx;rw[j];refine pL fun k l=>?_;have:(en ll 0)[k]? =some (ay ll 0 k):=by simp[en,l]
 rw[this];unfold kO;by_cases o:aQ ll 0 k;·simp[ay,o]
 simp[ay,o,l]
def uz (x:Int)(w:World):Ending→World→Prop:=fun e w'=>e=.returned (.tuple #[.int .i64 (max x 0),.bool (decide (0≤x))])∧aa All w w'
theorem yC (S:Nat→Prop)(v:Value)(ll:List (List Int))(w:World)(R:Rows S w v ll)(J:aP ll):
 Calls prog 68 #[v] w (uz (cV (kO ll) ll.length) w):=by
 have j:=gt S v ll w R;rw[bL J] at j;have l:=fun Y (hk:aa All w Y)=>ri S v ll 0 Y (aq.keep hk.all R) J J.1;obtain⟨a,cap,rfl,h1,h2,Z,h⟩:=R;have hl:ll.length≤256:=J.2.1;have HR:=J2 j l;clear h h1 h2 Z j l;go_enter func68,ntmps68;go_wp2_with fail;refine HR.1.mono ?_;rintro e Y ⟨rfl,o⟩;have HK:=oH o;clear o;go_wp2_with fail;refine(HR.2 _ HK.out).mono ?_;rintro e w2 ⟨u,rfl,C,hb⟩;have HF:=oH (uZ _ u _ w2 hb);have HB:=oH (HK.out.trans C);clear C hb;go_wp2_with fail;refine HF.out.mono ?_;rintro e w3 ⟨rfl,hw⟩;have a1:=hw.symm;subst a1;rw[An];go_wp2_with fail;go_ret2;exact⟨rfl,HB.out⟩
end
def jg (E:Nat→Nat→Prop)(i:Nat)(s:List Nat):Prop:=∀(k:Nat) x,s[k]? =some x→(∃m y,k<m∧s[m]? =some y∧E y x)∨E i x
theorem GG (E:Nat→Nat→Prop)(i:Nat):jg E i []:=fun k x h=>by simp at h
theorem GF {E:Nat→Nat→Prop}{i c:Nat}{s C:List Nat}(h:jg E i s)(R:jg E c C)(he:E i c):jg E i (s++(C++[c])):=by
 intro k x j;by_cases Y:k<s.length
 ·rw[ma Y] at j;rcases h k x j with ⟨m,y,hm,J,l⟩|l
  ·have o:=(lS.1 J).1
   exact .inl ⟨m,y,hm,by rw[ma o];exact J,l⟩
  exact .inr l
 rw[kH (by omega)] at j;by_cases Z:k-s.length<C.length
 ·rw[ma Z] at j;rcases R _ x j with ⟨m,y,hm,J,l⟩|l
  ·have o:=(lS.1 J).1
   refine .inl ⟨s.length+m,y,by omega,?_,l⟩;rw[kH (by omega),Nat.add_sub_cancel_left,ma o];exact J
  refine .inl ⟨s.length+C.length,c,by omega,?_,l⟩;rw[kH (by omega),Nat.add_sub_cancel_left,kH (cf _),Nat.sub_self];rfl
 rw[kH (by omega)] at j;have hz:k-s.length-C.length=0:=by have:=(lS.1 j).1;simp at this;omega
 rw[hz] at j;cases j;exact .inr he
theorem Dw {l:List Nat}(h:l.Nodup){i j:Nat}{x:Nat}(hi:l[i]? =some x)(Z:l[j]? =some x):i=j:=by
 obtain⟨o,C⟩:=lS.1 hi;obtain⟨J,R⟩:=lS.1 Z;have Y:=List.pairwise_iff_getElem.1 (List.nodup_iff_pairwise_ne.1 h);rcases Nat.lt_trichotomy i j with h|h|h;·exact absurd (by rw[C,R]) (Y i j o J h)
 ·exact h
 exact absurd (by rw[C,R]) (Y j i J o h)
theorem Lb {l:List Nat}(h:l.Nodup){i x:Nat}(hi:l[i]? =some x):l.idxOf x=i:=by
 have o:x∈l:=mG hi;have j:l.idxOf x<l.length:=List.idxOf_lt_length_iff.2 o;have:l[l.idxOf x]? =some x:=by rw[lG j,List.getElem_idxOf]
 exact Dw h this hi
theorem Dn {l:List Nat}{n:Nat}(h:l.Nodup)(hm:∀x,x∈l↔x<n):l.length=n:=by
 have:l.Perm (List.range n):=(List.perm_ext_iff_of_nodup h List.nodup_range).2 fun x=>by rw[hm,fg]
 simpa using this.length_eq
theorem Lu {E:Nat→Nat→Prop}{n:Nat}{s:List Nat}(hE:∀a b,E a b→a<n∧b<n)(h:jg E 0 s)(hn:(s++[0]).Nodup)(hm:∀x,x∈s++[0]↔x<n):
 zJ E n (fun x=>(s++[0]).reverse.idxOf x)∧(s++[0]).reverse.length=n∧(s++[0]).reverse[0]? =some 0∧∀(m:Nat) x,(s++[0]).reverse[m]? =some x→(s++[0]).reverse.idxOf x=m:=by
 have hr:(s++[0]).reverse.Nodup:=by rw[List.nodup_iff_pairwise_ne,List.pairwise_reverse];exact(List.nodup_iff_pairwise_ne.1 hn).imp fun h=>h.symm
 have J:=Dn hn hm;have l:∀(m:Nat) x,(s++[0]).reverse[m]? =some x→(s++[0]).reverse.idxOf x=m:=fun m x h=>Lb hr h;have h0:(s++[0]).reverse[0]? =some 0:=by simp
 have R:∀x,x<n→∃m,(s++[0]).reverse[m]? =some x:=fun x hx=>cY.1 (List.mem_reverse.2 ((hm x).2 hx));have Y:(s++[0]).reverse.length=n:=by rw[List.length_reverse];exact J
 refine⟨⟨?_,l 0 0 h0,fun a b ha hb e=>?_,fun a ha=>?_,hE,fun k hk a1=>?_⟩,Y,h0,l⟩;·rw[←J];simp
 ·obtain⟨i,hi⟩:=R a ha;obtain⟨j,C⟩:=R b hb;simp only[l i a hi,l j b C] at e;subst e;rw[hi] at C;exact kJ C
 ·rw[←Y]
  exact List.idxOf_lt_length_iff.2 (List.mem_reverse.2 ((hm a).2 ha))
 have a6:k∈s:=by
  have:=(hm k).2 hk;rcases eD.1 this with h|h;·exact h
  exact absurd (cx.1 h) a1
 have o:∀j y,s[j]? =some y→(s++[0]).reverse.idxOf y=s.length-j:=by(
 intro j y Z;have C:=(lS.1 Z).1;refine l _ y ?_;rw[List.getElem?_reverse (by simp;omega)];have e:(s++[0]).length-1-(s.length-j)=j:=by simp;omega
 rw[e,ma C];exact Z)
 obtain⟨j,C⟩:=cY.1 a6;have a7:=(lS.1 C).1;rcases h j k C with ⟨m,y,a8,Z,he⟩|he
 ·refine⟨y,he,?_⟩
  have b0:=(lS.1 Z).1;simp only[o j k C,o m y Z];omega
 refine⟨0,he,?_⟩;simp only[o j k C,l 0 0 h0];omega
def lA (s:Nat→Int)(l:List Nat)(v:Int):Prop:=
 (v= -1∧∀p∈l,¬my s p)∨∃c:Nat,v=c∧(∃p∈l,my s p)∧∀x,ig s c x↔∀p∈l,my s p→ig s p x
theorem Dv (s:Nat→Int):lA s [] (-1):=.inl ⟨rfl,fun p j=>by cases j⟩
theorem AG {s:Nat→Int}{l:List Nat}{v:Int}{p:Nat}(h:lA s l v)(C:¬my s p):lA s (l++[p]) v:=by
 rcases h with ⟨rfl,h⟩|⟨c,rfl,⟨q,j,o⟩,h⟩
 ·refine .inl ⟨rfl,fun q j=>?_⟩
  rcases eD.1 j with j|j;·exact h q j
  rw[cx.1 j];exact C
 refine .inr ⟨c,rfl,⟨q,eD.2 (.inl j),o⟩,fun x=>(h x).trans ⟨fun g q j o=>?_,fun g q j=>g q (eD.2 (.inl j))⟩⟩;rcases eD.1 j with j|j;·exact g q j o
 rw[cx.1 j] at o;exact absurd o C
theorem rd {s:Nat→Int}{l:List Nat}{v:Int}{p:Nat}(h:lA s l v)(J:v<0)(C:my s p):lA s (l++[p]) p:=by
 rcases h with ⟨rfl,h⟩|⟨c,rfl,_⟩
 ·refine .inr ⟨p,rfl,⟨p,eD.2 (.inr (cx.2 rfl)),C⟩,fun x=>⟨fun g q j o=>?_,fun g=>g p (eD.2 (.inr (cx.2 rfl))) C⟩⟩
  rcases eD.1 j with j|j;·exact absurd o (h q j)
  rw[cx.1 j];exact g
 omega
theorem sY {s:Nat→Int}{l:List Nat}{c m:Nat}{p:Nat}(h:lA s l c)(C:my s p)(hm:∀x,ig s m x↔ig s c x∧ig s p x):lA s (l++[p]) m:=by
 rcases h with ⟨h,_⟩|⟨J,e,_,h⟩;·omega
 have e:=Int.ofNat.inj e;subst e;refine .inr ⟨m,rfl,⟨p,eD.2 (.inr (cx.2 rfl)),C⟩,fun x=>(hm x).trans ⟨fun⟨g1,g2⟩ q j o=>?_,fun g=>⟨(h x).2 fun q j o=>g q (eD.2 (.inl j)) o,g p (eD.2 (.inr (cx.2 rfl))) C⟩⟩⟩;rcases eD.1 j with j|j;·exact(h x).1 g1 q j o
 rw[cx.1 j];exact g2
theorem Dt {E:Nat→Nat→Prop}{s:Nat→Int}{l:List Nat}{v:Int}{k:Nat}(h:lA s l v)(o:∀p,p∈l↔E p k)(C:∃p,E p k∧my s p):Io E s k v:=by
 rcases h with ⟨_,h⟩|⟨c,rfl,_,h⟩
 ·obtain⟨p,he,j⟩:=C
  exact absurd j (h p ((o p).2 he))
 exact⟨c,rfl,fun x=>(h x).trans ⟨fun g p j=>g p ((o p).2 j),fun g p j=>g p ((o p).1 j)⟩⟩
theorem AF {n:Nat}{pl:Nat→Nat}{s:Nat→Int}{l:List Nat}{c:Nat}(G:fU n pl s)(o:∀p∈l,p<n)(h:lA s l c):c<n∧my s c:=by
 rcases h with ⟨h,_⟩|⟨J,e,⟨p,j,C⟩,h⟩;·omega
 have e:=Int.ofNat.inj e;subst e;have:=(h c).1 (.refl _) p j C;exact⟨(oL G (o p j) this).1,BL G (o p j) C this⟩
theorem Du {s:Nat→Int}{l:List Nat}{v:Int}(h:lA s l v):v= -1∨∃c:Nat,v=c:=by
 rcases h with ⟨h,_⟩|⟨c,h,_⟩;·exact .inl h
 exact .inr ⟨c,h⟩
def kp (t:Nat→Int):Nat→Nat→List Nat
 |0,j=>[j]
 |f+1,j=>j::if t j<0 then [] else kp t f (t j).toNat
theorem uL (t:Nat→Int):∀(f j:Nat),(kp t f j).length≤f+1
 |0,_=>by simp[kp]
 |f+1,j=>by rw[kp];have:=uL t f (t j).toNat;split<;>simp<;>omega
theorem uM {n:Nat}{pl:Nat→Nat}{t:Nat→Int}(G:fU n pl t)(x:Nat):∀(f j:Nat),j<n→pl j≤f→(x∈kp t f j↔ig t j x):=by
 intro f;induction f with
 |zero=>
  intro j l C;have Y:t j<0:=by refine Classical.byContradiction fun h=>?_;obtain⟨p,_,_,o,_⟩:=G.low j l (by omega);omega
  rw[kp,cx];constructor;·rintro rfl;exact .refl _
  intro h;cases h with
  |refl=>rfl
  |up e _=>omega
 |succ f J=>
  intro j l C;rw[kp,fX];by_cases h:t j<0;·(
 rw[ap h];constructor
 ·rintro(rfl|h)
  ·exact .refl _
  cases h
 intro h';cases h' with
 |refl=>exact .inl rfl
 |up e _=>omega)
  obtain⟨p,e,R,o,_⟩:=G.low j l (by omega);rw[ae h,e,dP,J p R (by omega)];constructor
  ·rintro(rfl|h);·exact .refl _
   exact .up e h
  intro h';rcases oM G l e h' with h|h;·exact .inl h
  exact .inr h
end Go.Proofs.YtncdbjponknakaaGreatDoor
