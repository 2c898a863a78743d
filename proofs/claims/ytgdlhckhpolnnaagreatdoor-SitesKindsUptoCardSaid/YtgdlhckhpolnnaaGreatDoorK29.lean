/- Part 30 of the proof (its last part says what is proved). No condition. -/
import Derived.Test.YtgdlhckhpolnnaaGreatDoorK20
namespace Go.Proofs.YtgdlhckhpolnnaaGreatDoor
set_option maxRecDepth 100000
set_option maxHeartbeats 8000000
open Go.RowKit Go.Proofs.Tryz
theorem qy {w:World}{g:Nat}{e:TypeId}{l:List Int}{B:Nat}(h:al w g e (aI l).toArray)(o:B≤g)(hw:∀x∈l,(Lit.int .i64 x).wf=true)(C:l.length≤1000):aK (fun g=>B≤g∧g<w.heap.size) w (.slice (some ⟨g,0,none⟩) l.length l.length) l:=
 Sl.of_blk h ⟨o,h.lt⟩ (cf _) (by unfold maxLen;omega) (by omega) fun i x j=>⟨.int .i64 x,by simp[aI,j],rfl,hw x (mG j)⟩
theorem Je (S:Nat→Prop)(bv:Value)(b:aw)(w:World)(hb:bW S w bv b.Ng)(hG:gY b):
 Calls prog 101 #[.agg #[.int .i64 b.params,.int .i64 b.vars,bv]] w (EN b w):=by
 obtain⟨iI,II⟩:=iH kt;obtain⟨iR,IR⟩:=iH vm;have h2:=bg.la hb;obtain⟨B1,d1,rfl,m5,m6,m7,_⟩:=hb;unfold maxLen at*;obtain⟨W0,d9⟩:=eQ (w.alloc (.cells #[.int .i64 b.params,.int .i64 b.vars,.slice B1 b.Ng.length d1] 42));have e4:=aC1 d9;have bB:=aA0 d9;obtain⟨b0,b1,b2⟩:=bB.c3;have j8:=e4.size;have j9:=hG.blk.2;have HG:=oH hG;have HW:=J4 d9 e4 bB h2;clear d9 e4 bB h2 hG;go_enter func101,ntmps101;go_upto_region 1 with fail;rw[←HW.1];go_wp2_with fail;go_loopg [4,12] b.Ng.length (fun g s4 s5 wr=>∃j:Nat,j≤b.Ng.length∧g=b.Ng.length-j∧s5=.int .i64 j∧aa All W0 wr∧dR 1 54 (eT aK) W0.heap.size wr s4 ((bM b).take j));·exact⟨0,by omega,by omega,rfl,kR,by rw[List.take_zero];exact dR.nil⟩
 obtain⟨j,hj,rfl,rfl,c6,a7⟩:=hrel;have e0:=HW.2.1.trans c6;obtain⟨E,ep,rfl⟩:=a7.form;have b9:((bM b).take j).length=j:=by rw[fN,cS];omega
 rw[b9] at a7⊢;have h4:=HW.2.2.1.kept c6 trivial;clear b0 b1 b2;obtain⟨b0,b1,b2⟩:=h4.c3;clear h4;have j6:=c6.size;by_cases j1:j<b.Ng.length;·(
 obtain⟨l,hl⟩:=eG j1;have e1:=mG hl;obtain⟨rb,ro,rv,rfl,j2,k0,e5⟩:=bn (HW.2.2.2 wr e0) hl;obtain⟨q1,q2,q3⟩:=HG.out.some_ l e1;have d7:=(lC q1).2;have hrefs:=HG.out.ref l e1;have c1:=HG.out.Ni l e1;have h5:(bM b).take (j+1)=(bM b).take j++[eJ (iW l)]:=by rw[cU,Cn hl];rfl
 generalize iW l=x at*;obtain⟨LA,lc,rfl,l1,l2,l3,_⟩:=id e5;unfold maxLen at l2;obtain⟨m,hm⟩:∃m:Nat,l.length=m+1:=⟨l.length-1,by omega⟩;rw[show l.length-1=m by omega] at d7;obtain⟨xb,xo,k1,rfl,j3,h6,b8,xa,xf,rfl,j4,j5,h7⟩:=aZ e5 d7;obtain⟨ua,uc,rfl,_⟩:=j4;obtain⟨va,vc,rfl,_⟩:=j5;have z0:=b8 0 _ rfl;rw[dj] at z0;have z1:=b8 1 _ rfl;have z2:=b8 2 _ rfl;have z3:=b8 3 _ rfl;have z4:=b8 4 _ rfl;have z5:=b8 5 _ rfl;have z6:=b8 6 _ rfl;have z7:=b8 7 _ rfl;have z8:=b8 8 _ rfl;have tl:((l.length:Int)==0)=false:=by rw[bE];omega
 have tm:(l.length:Int)-1=(m:Int):=by omega
 have k2:m<l.length:=by omega
 obtain⟨Y,e2⟩:=eQ (wr.alloc (.cells #[.int .u8 x.kind,.int .u8 x.op,.int .i64 x.dst,.int .i64 x.ref,.int .i64 x.Ni,.slice ua x.args.length uc,.slice va x.Nh.length vc,.int .i64 x.num,.int .i64 x.Nj] 56));have e6:=aC1 e2;have b5:=aA0 e2;have k3:=e6.size;have HX:=oH (show∀wn,aa All Y wn→wn.cell? ⟨wr.heap.size,0,none⟩=some (.int .u8 x.kind)∧wn.cell? ⟨wr.heap.size,3,none⟩=some (.int .i64 x.ref)∧wn.cell? ⟨wr.heap.size,4,none⟩=some (.int .i64 x.Ni) from fun wn hk=>⟨(b5.kept hk trivial).cell 0,(b5.kept hk trivial).cell 3,(b5.kept hk trivial).cell 4⟩);have HA:=J6 c6 a7 e2 e6 h5 h7;obtain⟨_,h8⟩:=a7.own;have HO:=oH h8;clear c6 a7 e2 e6 b5 h5 hl e1 e5 d7 b8 h7 e0 j2 j3 h6 h8;go_upto_region 9 with fail;rw[←HA.2.2.1];clear z0 z1 z2 z3 z4 z5 z6 z7 z8;obtain⟨c0,c3,c4⟩:=HX.out Y kR;by_cases e3:x.kind=13;·(
 have t12:=nK x.kind 12 (by omega);have t11:=nK x.kind 11 (by omega);have t13:=wK x.kind 13 (by omega);have c7:=oH (show eJ x=[] by unfold eJ;rw[ae (by omega),ae (by omega)]);clear hrefs c1 e3;obtain⟨X9,C⟩:∃X,X=Y.alloc (.cells #[.slice none 0 0] 54):=⟨_,rfl⟩;have I:=aC1 C;have a8:=aA0 C;have J:=aD1 C;have c8:=eE J;have c9:=eE J.symm;have R:aa All wr X9:=HA.2.2.2.1.trans ((aa.refl All Y).trans I);have o:=HA.2.1.keep (aS ah) R fun _ _ _=>trivial;have b3:aK (fun g=>Y.heap.size≤g∧g<Y.heap.size) X9 (.slice none 0 0) (([]:List Int)):=ah.keep I.all (Sl.nil);have e7:=R.size;have H9:=J5 C a8 o b3 R;clear C I a8 J o b3 R;go_wp2_with (
  at_builtin;go_loud (
  rw[←H9.1];refine bN (E:=eT aK) _ (aS ah) rfl (.tmp 57) (.tmp 59) 142 rfl iR _ 24 underlying142 IR.1 IR.2.1 IR.2.2.1 IR.2.2.2 rfl (by decide) _ _ rfl H9.2.2.1 Y.heap.size 0 1 rfl [.slice none 0 0] (([]:List Int)) rfl ?_ ?_ (by rw[b9];omega) (by omega) (by omega) (fun g=>Y.heap.size≤g∧g<Y.heap.size) ?_ ⟨_,rfl,H9.2.2.2.1⟩ ?_;·intro j u hu;rw[cN,H9.2.1.cell,List.getElem?_toArray];exact hu
  ·intro u hu
   rw[cx.1 hu];rfl
  ·intro g hg;have e8:Y.heap.size≤g∧g<Y.heap.size:=hg;exact⟨by omega,by omega,fun e=>by have:=(aD HO.out e).2;omega⟩
  intro D2 e9 w9 o b4 b6;have HZ:=J3 o b4 b6;clear o b4 b6))
 go_roundg (b.Ng.length-(j+1));·refine⟨j+1,by omega,rfl,by go_num,(HA.1.trans H9.2.2.2.2).grown HZ.2.1 fun b hb=>.inr (HZ.2.2 b hb),?_⟩;rw[HA.2.2.2.2.1,c7.out];have h3:=HZ.1;rw[b9] at h3;exact h3
 omega)
 by_cases d8:x.kind=12;·(
 by_cases ea:x.Ni=x.ref;·(
 have t12:=yK x.kind 12 (by omega);have t11:=nK x.kind 11 (by omega);have t13:=mK x.kind 13 (by omega);have t5:(x.Ni !=x.ref)=false:=by rw[gj];exact ea
 have c7:=oH (show eJ x=[x.ref] by unfold eJ;rw[ae (fun h=>h.2 ea),ap (.inl d8)]);clear hrefs c1 e3 d8 ea;obtain⟨X1,a6⟩:∃X,X=Y.alloc (.cells #[.int .i64 x.ref] 3):=⟨_,rfl⟩;have a1:=aC1 a6;have c5:al X1 Y.heap.size 3 (aI [x.ref]).toArray:=by rw[a6];exact ac rfl
 have h9:=a1.size;have b7:=J3 a6 a1 c5;clear a6 a1 c5;go_upto_region 15 with fail;rw[←b7.1];obtain⟨X9,C⟩:∃X,X=X1.alloc (.cells #[.slice (some ⟨Y.heap.size,0,none⟩) 1 1] 54):=⟨_,rfl⟩;have I:=aC1 C;have a8:=aA0 C;have J:=aD1 C;have c8:=eE J;have c9:=eE J.symm;have R:aa All wr X9:=HA.2.2.2.1.trans (b7.2.1.trans I);have o:=HA.2.1.keep (aS ah) R fun _ _ _=>trivial;have b3:aK (fun g=>Y.heap.size≤g∧g<X1.heap.size) X9 (.slice (some ⟨Y.heap.size,0,none⟩) 1 1) ([x.ref]):=ah.keep I.all (qy (l:=[x.ref]) b7.2.2 (cf _) (fun y hy=>by rcases fX.1 hy with rfl|hy<;>first|exact iw HA.2.2.2.2.2.ref|(rw[cx.1 hy];exact iw HA.2.2.2.2.2.Ni)|cases hy) (by simp));have e7:=R.size;have H9:=J5 C a8 o b3 R;clear C I a8 J o b3 R;go_wp2_with (
  at_builtin;go_loud (
  rw[←H9.1];refine bN (E:=eT aK) _ (aS ah) rfl (.tmp 57) (.tmp 59) 142 rfl iR _ 24 underlying142 IR.1 IR.2.1 IR.2.2.1 IR.2.2.2 rfl (by decide) _ _ rfl H9.2.2.1 X1.heap.size 0 1 rfl [.slice (some ⟨Y.heap.size,0,none⟩) 1 1] ([x.ref]) rfl ?_ ?_ (by rw[b9];omega) (by omega) (by omega) (fun g=>Y.heap.size≤g∧g<X1.heap.size) ?_ ⟨_,rfl,H9.2.2.2.1⟩ ?_;·intro j u hu;rw[cN,H9.2.1.cell,List.getElem?_toArray];exact hu
  ·intro u hu
   rw[cx.1 hu];rfl
  ·intro g hg;have e8:Y.heap.size≤g∧g<X1.heap.size:=hg;exact⟨by omega,by omega,fun e=>by have:=(aD HO.out e).2;omega⟩
  intro D2 e9 w9 o b4 b6;have HZ:=J3 o b4 b6;clear o b4 b6))
 go_roundg (b.Ng.length-(j+1));·refine⟨j+1,by omega,rfl,by go_num,(HA.1.trans H9.2.2.2.2).grown HZ.2.1 fun b hb=>.inr (HZ.2.2 b hb),?_⟩;rw[HA.2.2.2.2.1,c7.out];have h3:=HZ.1;rw[b9] at h3;exact h3
 omega)
 have t12:=yK x.kind 12 (by omega);have t11:=nK x.kind 11 (by omega);have t13:=mK x.kind 13 (by omega);have t5:(x.Ni !=x.ref)=true:=by rw[bne_iff_ne];exact ea
 have c7:=oH (show eJ x=[x.ref,x.Ni] by unfold eJ;rw[ap ⟨d8,ea⟩]);clear hrefs c1 e3 d8 ea;obtain⟨X1,a6⟩:∃X,X=Y.alloc (.cells #[.int .i64 x.ref,.int .i64 x.Ni] 3):=⟨_,rfl⟩;have a1:=aC1 a6;have c5:al X1 Y.heap.size 3 (aI [x.ref,x.Ni]).toArray:=by rw[a6];exact ac rfl
 have h9:=a1.size;have b7:=J3 a6 a1 c5;clear a6 a1 c5;go_upto_region 15 with fail;rw[←b7.1];obtain⟨X9,C⟩:∃X,X=X1.alloc (.cells #[.slice (some ⟨Y.heap.size,0,none⟩) 2 2] 54):=⟨_,rfl⟩;have I:=aC1 C;have a8:=aA0 C;have J:=aD1 C;have c8:=eE J;have c9:=eE J.symm;have R:aa All wr X9:=HA.2.2.2.1.trans (b7.2.1.trans I);have o:=HA.2.1.keep (aS ah) R fun _ _ _=>trivial;have b3:aK (fun g=>Y.heap.size≤g∧g<X1.heap.size) X9 (.slice (some ⟨Y.heap.size,0,none⟩) 2 2) ([x.ref,x.Ni]):=ah.keep I.all (qy (l:=[x.ref,x.Ni]) b7.2.2 (cf _) (fun y hy=>by rcases fX.1 hy with rfl|hy<;>first|exact iw HA.2.2.2.2.2.ref|(rw[cx.1 hy];exact iw HA.2.2.2.2.2.Ni)|cases hy) (by simp));have e7:=R.size;have H9:=J5 C a8 o b3 R;clear C I a8 J o b3 R;go_wp2_with (
  at_builtin;go_loud (
  rw[←H9.1];refine bN (E:=eT aK) _ (aS ah) rfl (.tmp 57) (.tmp 59) 142 rfl iR _ 24 underlying142 IR.1 IR.2.1 IR.2.2.1 IR.2.2.2 rfl (by decide) _ _ rfl H9.2.2.1 X1.heap.size 0 1 rfl [.slice (some ⟨Y.heap.size,0,none⟩) 2 2] ([x.ref,x.Ni]) rfl ?_ ?_ (by rw[b9];omega) (by omega) (by omega) (fun g=>Y.heap.size≤g∧g<X1.heap.size) ?_ ⟨_,rfl,H9.2.2.2.1⟩ ?_;·intro j u hu;rw[cN,H9.2.1.cell,List.getElem?_toArray];exact hu
  ·intro u hu
   rw[cx.1 hu];rfl
  ·intro g hg;have e8:Y.heap.size≤g∧g<X1.heap.size:=hg;exact⟨by omega,by omega,fun e=>by have:=(aD HO.out e).2;omega⟩
  intro D2 e9 w9 o b4 b6;have HZ:=J3 o b4 b6;clear o b4 b6))
 go_roundg (b.Ng.length-(j+1));·refine⟨j+1,by omega,rfl,by go_num,(HA.1.trans H9.2.2.2.2).grown HZ.2.1 fun b hb=>.inr (HZ.2.2 b hb),?_⟩;rw[HA.2.2.2.2.1,c7.out];have h3:=HZ.1;rw[b9] at h3;exact h3
 omega)
 have t12:=nK x.kind 12 (by omega);have t11:=yK x.kind 11 (by omega);have t13:=mK x.kind 13 (by omega);have c7:=oH (show eJ x=[x.ref] by unfold eJ;rw[ae (by omega),ap (by omega)]);clear hrefs c1 e3 d8;obtain⟨X1,a6⟩:∃X,X=Y.alloc (.cells #[.int .i64 x.ref] 3):=⟨_,rfl⟩;have a1:=aC1 a6;have c5:al X1 Y.heap.size 3 (aI [x.ref]).toArray:=by rw[a6];exact ac rfl
 have h9:=a1.size;have b7:=J3 a6 a1 c5;clear a6 a1 c5;go_upto_region 15 with fail;rw[←b7.1];obtain⟨X9,C⟩:∃X,X=X1.alloc (.cells #[.slice (some ⟨Y.heap.size,0,none⟩) 1 1] 54):=⟨_,rfl⟩;have I:=aC1 C;have a8:=aA0 C;have J:=aD1 C;have c8:=eE J;have c9:=eE J.symm;have R:aa All wr X9:=HA.2.2.2.1.trans (b7.2.1.trans I);have o:=HA.2.1.keep (aS ah) R fun _ _ _=>trivial;have b3:aK (fun g=>Y.heap.size≤g∧g<X1.heap.size) X9 (.slice (some ⟨Y.heap.size,0,none⟩) 1 1) ([x.ref]):=ah.keep I.all (qy (l:=[x.ref]) b7.2.2 (cf _) (fun y hy=>by rcases fX.1 hy with rfl|hy<;>first|exact iw HA.2.2.2.2.2.ref|(rw[cx.1 hy];exact iw HA.2.2.2.2.2.Ni)|cases hy) (by simp));have e7:=R.size;have H9:=J5 C a8 o b3 R;clear C I a8 J o b3 R;go_wp2_with (
  at_builtin;go_loud (
  rw[←H9.1];refine bN (E:=eT aK) _ (aS ah) rfl (.tmp 57) (.tmp 59) 142 rfl iR _ 24 underlying142 IR.1 IR.2.1 IR.2.2.1 IR.2.2.2 rfl (by decide) _ _ rfl H9.2.2.1 X1.heap.size 0 1 rfl [.slice (some ⟨Y.heap.size,0,none⟩) 1 1] ([x.ref]) rfl ?_ ?_ (by rw[b9];omega) (by omega) (by omega) (fun g=>Y.heap.size≤g∧g<X1.heap.size) ?_ ⟨_,rfl,H9.2.2.2.1⟩ ?_;·intro j u hu;rw[cN,H9.2.1.cell,List.getElem?_toArray];exact hu
  ·intro u hu
   rw[cx.1 hu];rfl
  ·intro g hg;have e8:Y.heap.size≤g∧g<X1.heap.size:=hg;exact⟨by omega,by omega,fun e=>by have:=(aD HO.out e).2;omega⟩
  intro D2 e9 w9 o b4 b6;have HZ:=J3 o b4 b6;clear o b4 b6))
 go_roundg (b.Ng.length-(j+1));·refine⟨j+1,by omega,rfl,by go_num,(HA.1.trans H9.2.2.2.2).grown HZ.2.1 fun b hb=>.inr (HZ.2.2 b hb),?_⟩;rw[HA.2.2.2.2.1,c7.out];have h3:=HZ.1;rw[b9] at h3;exact h3
 omega)
 obtain rfl:j=b.Ng.length:=by omega
 rw[oF (by rw[cS];omega)] at a7;have h0:=jT (a7.read (bw:=24) (aS ah) (by rw[cS];omega));have HQ:=J3 c6 e0 (aq.wide (fun g (hg:W0.heap.size≤g∧g<wr.heap.size)=>show w.heap.size≤g∧g<wr.heap.size by omega) h0);have HC:=oH (gt _ _ (bM b) wr h0);clear c6 e0 a7 h0;skip;go_wp2_with fail;refine HC.out.mono ?_;rintro e w2 ⟨rfl,h1⟩;rw[bL (qam HG.out)];have j0:=oH h1;have j7:=h1.size;clear h1;go_wp2_with fail;go_ret2;exact⟨_,rfl,aq.wide (fun g (hg:w.heap.size≤g∧g<wr.heap.size)=>show w.heap.size≤g∧g<w2.heap.size by omega) (aq.keep j0.out.all HQ.2.2),HQ.2.1.trans j0.out⟩
section
open Classical in
theorem pL {P Q:Nat→Prop}{n:Nat}(h:∀k,k<n→(P k↔Q k)):cV P n=cV Q n:=by
 rcases jX P n with ⟨e,g⟩|⟨k,e,o,I,hm⟩;·rw[e,hZ fun k o C=>g k o ((h k o).2 C)]
 rw[e,lO o (fun j J C=>hm j J ((h j (by omega)).2 C)) ((h k o).1 I)]
noncomputable def qx (l:List Bool):Int:=cV (fun k=>l[k]? =some false) l.length
theorem Jk (l:List Bool): -1≤qx l∧qx l<l.length:=by rcases jX (fun k=>l[k]? =some false) l.length with ⟨e,_⟩|⟨k,e,j,_⟩<;>unfold qx<;>rw[e]<;>omega
theorem Ao (S:Nat→Prop)(va:Value)(o:List Bool)(w:World)(ha:gD S w va o):
 Calls prog 206 #[va,.bool false] w fun e w'=>e=.returned (.int .i64 (qx o))∧w'=w:=by
 obtain⟨a,cap,rfl,h1,h2,_,h⟩:=ha;unfold maxLen at h2;have hl:o.length≤9223372036854775807:=by omega
 have H:=oH h;clear h;go_enter func206,ntmps206;go_wp2_with fail;go_loopg [5,8] o.length (fun g s5 s8 wr=>∃k:Nat,k≤o.length∧g=o.length-k∧s8=.int .i64 k∧wr=w∧∀j,j<k→o[j]?≠some false);·exact⟨0,by omega,by omega,rfl,rfl,fun j hj=>by omega⟩
 obtain⟨k,hk,rfl,rfl,hw,J⟩:=hrel;have R:=hw.symm;subst R;have C:=oH J;clear J;by_cases I:k<o.length;·(
 obtain⟨b,off,c,rfl,hs,hc,Y⟩:=H.out k o[k] (lG I);have hg:o[k]? =some o[k]:=lG I;have Hg:=oH hg;clear hg;generalize o[k]=y at*;obtain rfl:c=.bool y:=Y;cases y with
 |false=>have HV:=oH (lO I C.out Hg.out);go_wp2_with fail;go_ret;exact⟨by unfold qx;rw[HV.out];rfl,rfl⟩
 |true=>
  go_wp2_with fail;go_roundg (o.length-(k+1))
  ·refine⟨k+1,by omega,rfl,by go_num,rfl,fun j hj=>?_⟩;by_cases e:j=k;·subst e;rw[Hg.out];simp
   exact C.out j (by omega)
  omega)
 obtain rfl:k=o.length:=by omega
 have HV:=oH (hZ C.out);go_wp2_with fail;go_ret;exact⟨by unfold qx;rw[HV.out];rfl,rfl⟩
theorem uZ (S:Nat→Prop)(C:Value)(o:List Bool)(w:World)(I:gD S w C o):
 Calls prog 167 #[C] w fun e w'=>e=.returned (.tuple #[.int .i64 (max (qx o) 0),.bool (decide (0≤qx o))])∧w'=w:=by
 have J:=oH (Ao S C o w I);have R:=Jk o;obtain⟨a,cap,rfl,h1,Y,_,h⟩:=I;unfold maxLen at Y;clear h;generalize qx o=x at*;by_cases hx:0≤x
 ·have t1:decide (x<0)=false:=by simp;omega
  have t2:decide (x≥0)=true:=by simp;omega
  have t3:decide (0≤x)=true:=by simp;omega
  have t4:max x 0=x:=by omega
  rw[t3,t4];clear t3 t4;go_enter func167,ntmps167;go_wp2_with fail;refine J.out.mono ?_;rintro e w2 ⟨rfl,hw⟩;have j:=hw.symm;subst j;go_wp2_with fail;go_ret2;exact⟨rfl,rfl⟩
 obtain rfl:x= -1:=by omega
 go_enter func167,ntmps167;go_wp2_with fail;refine J.out.mono ?_;rintro e w2 ⟨rfl,hw⟩;have j:=hw.symm;subst j;go_wp2_with fail;go_ret2;exact⟨rfl,rfl⟩
theorem An {ll:List (List Int)}:qx (en ll 0)=cV (kO ll) ll.length:=by
 have hlen:(en ll 0).length=ll.length:=by simp[en]
 unfold qx;rw[hlen];refine pL fun k j=>?_;have:(en ll 0)[k]? =some (ay ll 0 k):=by simp[en,j]
 rw[this];unfold kO;by_cases hr:aQ ll 0 k;·simp[ay,hr]
 simp[ay,hr,j]
def uz (x:Int)(w:World):Ending→World→Prop:=fun e w'=>e=.returned (.tuple #[.int .i64 (max x 0),.bool (decide (0≤x))])∧aa All w w'
theorem yC (S:Nat→Prop)(v:Value)(ll:List (List Int))(w:World)(R:Rows S w v ll)(J:aP ll):
 Calls prog 103 #[v] w (uz (cV (kO ll) ll.length) w):=by
 have j:=gt S v ll w R;rw[bL J] at j;have o:=fun Y (hk:aa All w Y)=>ri S v ll 0 Y (aq.keep hk.all R) J J.1;obtain⟨a,cap,rfl,h1,h2,a1,h⟩:=R;have hl:ll.length≤256:=J.2.1;have HR:=J2 j o;clear h h1 h2 a1 j o;go_enter func103,ntmps103;go_wp2_with fail;refine HR.1.mono ?_;rintro e Y ⟨rfl,C⟩;have HK:=oH C;clear C;go_wp2_with fail;refine(HR.2 _ HK.out).mono ?_;rintro e w2 ⟨u,rfl,I,hb⟩;have HF:=oH (uZ _ u _ w2 hb);have HB:=oH (HK.out.trans I);clear I hb;go_wp2_with fail;refine HF.out.mono ?_;rintro e w3 ⟨rfl,hw⟩;have a6:=hw.symm;subst a6;rw[An];go_wp2_with fail;go_ret2;exact⟨rfl,HB.out⟩
end
end Go.Proofs.YtgdlhckhpolnnaaGreatDoor
