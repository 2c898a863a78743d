/- Part 17 of the proof of CallsTo (its last part says what is proved). No condition. -/
import Derived.Test.YtceloincoomjeaaGreatDoorK15
namespace Go.Proofs.YtceloincoomjeaaGreatDoor
set_option maxRecDepth 100000
set_option maxHeartbeats 8000000
open Go.RowKit Go.Proofs.Tryz
theorem kt:(prog.info? 3).map (fun i=>(i.zero,i.size,i.bytes))=some (some (.int .i64 0),1,8):=by kernel_rfl
theorem vm:(prog.info? 50).map (fun i=>(i.zero,i.size,i.bytes))=some (some (.slice none 0 0),1,24):=by kernel_rfl
def EN (b:aw)(w:World)(e:Ending)(w':World):Prop:=∃u,e=.returned (.tuple #[u,.bool true])∧Rows (fun g=>w.heap.size≤g∧g<w'.heap.size) w' u (bM b)∧aa All w w'
theorem oT {w:World}{B:Nat}{e:TypeId}{v:Value}{l:List Int}(h:w.ownsRow B e 1 v l.length (aI l))(hw:∀x∈l,(Lit.int .i64 x).wf=true)(o:l.length≤1000):aK (fun g=>B≤g∧g<w.heap.size) w v l:=
 jr h rfl (by omega) (fun g j=>aD h j) hw
theorem JH (S:Nat→Prop)(bv:Value)(b:aw)(w:World)(hb:bW S w bv b.Ng)(hG:gY b):
 Calls prog 41 #[.agg #[.int .i64 b.params,.int .i64 b.vars,bv]] w (EN b w):=by
 obtain⟨iI,e6,e7,e8,e9⟩:=info_parts kt;have II:=J4 e6 e7 e8 e9;clear e6 e7 e8 e9;obtain⟨iR,e6,e7,e8,e9⟩:=info_parts vm;have IR:=J4 e6 e7 e8 e9;clear e6 e7 e8 e9;have j3:=bg.la hb;obtain⟨B1,d1,rfl,m5,m6,m7,_⟩:=hb;unfold maxLen at*;obtain⟨W0,h4⟩:=eQ (w.alloc (.cells #[.int .i64 b.params,.int .i64 b.vars,.slice B1 b.Ng.length d1] 48));have i2:aa All w W0:=by rw[h4];exact kR.alloc _
 have bB:al W0 w.heap.size 48 #[.int .i64 b.params,.int .i64 b.vars,.slice B1 b.Ng.length d1]:=by rw[h4];exact ac rfl
 obtain⟨b0,b1,b2⟩:=bB.c3;have l5:=i2.size;have l6:=hG.blk.2;have HG:=oH hG;have HW:=J4 h4 i2 bB j3;clear h4 i2 bB j3 hG;go_enter func41,ntmps41;go_upto_region 1 with fail;rw[←HW.1];go_wp2_with fail;go_loopg [4,5] b.Ng.length (fun g s4 s5 wr=>∃j:Nat,j≤b.Ng.length∧g=b.Ng.length-j∧s5=.int .i64 j∧aa All W0 wr∧dR 1 50 (eT aK) W0.heap.size wr s4 ((bM b).take j));·exact⟨0,by omega,by omega,rfl,kR,by rw[List.take_zero];exact dR.nil⟩
 obtain⟨j,hj,rfl,rfl,c9,a8⟩:=hrel;have h5:=HW.2.1.trans c9;obtain⟨E,ep,rfl⟩:=a8.form;have c5:((bM b).take j).length=j:=by rw[fN,cS];omega
 rw[c5] at a8⊢;have j4:=HW.2.2.1.kept c9 trivial;clear b0 b1 b2;obtain⟨b0,b1,b2⟩:=j4.c3;clear j4;have k9:=c9.size;by_cases k4:j<b.Ng.length;·(
 obtain⟨l,hl⟩:=eG k4;have h6:=mG hl;obtain⟨rb,ro,rv,rfl,k5,l7,i4⟩:=bn (HW.2.2.2 wr h5) hl;obtain⟨q1,q2,q3⟩:=HG.out.some_ l h6;have h0:=(lC q1).2;have hrefs:=HG.out.ref l h6;have c6:=HG.out.Ni l h6;have j5:(bM b).take (j+1)=(bM b).take j++[eJ (iW l)]:=by rw[cU,Cn hl];rfl
 generalize iW l=x at*;obtain⟨LA,lc,rfl,l1,l2,l3,_⟩:=id i4;unfold maxLen at l2;obtain⟨m,hm⟩:∃m:Nat,l.length=m+1:=⟨l.length-1,by omega⟩;rw[show l.length-1=m by omega] at h0;obtain⟨xb,xo,l8,rfl,k6,j6,c1,xa,xf,rfl,k7,k8,j7⟩:=aZ i4 h0;obtain⟨ua,uc,rfl,_⟩:=k7;obtain⟨va,vc,rfl,_⟩:=k8;have z0:=c1 0 _ rfl;rw[dj] at z0;have z1:=c1 1 _ rfl;have z2:=c1 2 _ rfl;have z3:=c1 3 _ rfl;have z4:=c1 4 _ rfl;have z5:=c1 5 _ rfl;have z6:=c1 6 _ rfl;have z7:=c1 7 _ rfl;have z8:=c1 8 _ rfl;have tl:((l.length:Int)==0)=false:=by rw[bE];omega
 have tm:(l.length:Int)-1=(m:Int):=by omega
 have l9:m<l.length:=by omega
 obtain⟨C,h7⟩:=eQ (wr.alloc (.cells #[.int .u8 x.kind,.int .u8 x.op,.int .i64 x.dst,.int .i64 x.ref,.int .i64 x.Ni,.slice ua x.args.length uc,.slice va x.Nh.length vc,.int .i64 x.num,.int .i64 x.Nj] 52));have i5:aa All wr C:=by rw[h7];exact kR.alloc _
 have b5:al C wr.heap.size 52 #[.int .u8 x.kind,.int .u8 x.op,.int .i64 x.dst,.int .i64 x.ref,.int .i64 x.Ni,.slice ua x.args.length uc,.slice va x.Nh.length vc,.int .i64 x.num,.int .i64 x.Nj]:=by rw[h7];exact ac rfl
 have m0:=i5.size;have HX:=oH (show∀wn,aa All C wn→wn.cell? ⟨wr.heap.size,0,none⟩=some (.int .u8 x.kind)∧wn.cell? ⟨wr.heap.size,3,none⟩=some (.int .i64 x.ref)∧wn.cell? ⟨wr.heap.size,4,none⟩=some (.int .i64 x.Ni) from fun wn hk=>⟨(b5.kept hk trivial).cell 0,(b5.kept hk trivial).cell 3,(b5.kept hk trivial).cell 4⟩);have HA:=J6 c9 a8 h7 i5 j5 j7;obtain⟨_,j8⟩:=a8.own;have HO:=oH j8;clear c9 a8 h7 i5 b5 j5 hl h6 i4 h0 c1 j7 h5 k5 k6 j6 j8;go_upto_region 9 with fail;rw[←HA.2.2.1];clear z0 z1 z2 z3 z4 z5 z6 z7 z8;obtain⟨c0,c3,c4⟩:=HX.out C kR;have t1:decide ((x.kind:Int)<11)=false:=by simp;omega
 have t2:decide ((13:Int)<(x.kind:Int))=false:=by simp;omega
 by_cases h8:x.kind=13;·(
 have t3:=wK x.kind 13 (by omega);have t4:=nK x.kind 12 (by omega);have d7:=oH (show eJ x=[] by unfold eJ;rw[ae (by omega),ae (by omega)]);clear hrefs c6 h8;obtain⟨X9,I⟩:∃X,X=C.alloc (.cells #[.slice none 0 0] 50):=⟨_,rfl⟩;have J:aa All C X9:=by rw[I];exact kR.alloc _
 have b4:al X9 C.heap.size 50 #[.slice none 0 0]:=by rw[I];exact ac rfl
 have R:X9.heap.size=C.heap.size+1:=by rw[I];simp
 have d8:=eE R;have d9:=eE R.symm;have Z:aa All wr X9:=HA.2.2.2.1.trans ((aa.refl All C).trans J);have o:=HA.2.1.keep (aS ah) Z fun _ _ _=>trivial;have b6:aK (fun g=>C.heap.size≤g∧g<C.heap.size) X9 (.slice none 0 0) (([]:List Int)):=ah.keep J.all (Sl.nil);have i6:=Z.size;have H9:=J5 I b4 o b6 Z;clear I J b4 R o b6 Z;go_wp2_with (
  at_builtin;go_loud (
  rw[←H9.1];refine bN (E:=eT aK) _ (aS ah) rfl (.tmp 64) (.tmp 66) 32 rfl iR _ 24 underlying32 IR.1 IR.2.1 IR.2.2.1 IR.2.2.2 rfl (by decide) _ _ rfl H9.2.2.1 C.heap.size 0 1 rfl [.slice none 0 0] (([]:List Int)) rfl ?_ ?_ (by rw[c5];omega) (by omega) (by omega) (fun g=>C.heap.size≤g∧g<C.heap.size) ?_ ⟨_,rfl,H9.2.2.2.1⟩ ?_;·intro j u hu;rw[cN,H9.2.1.cell,List.getElem?_toArray];exact hu
  ·intro u hu
   rw[cx.1 hu];rfl
  ·intro g hg;have b3:C.heap.size≤g∧g<C.heap.size:=hg;exact⟨by omega,by omega,fun e=>by have:=(aD HO.out e).2;omega⟩
  intro D2 i7 w9 o b7 b8;have HZ:=J3 o b7 b8;clear o b7 b8))
 go_roundg (b.Ng.length-(j+1));·refine⟨j+1,by omega,rfl,by go_num,(HA.1.trans H9.2.2.2.2).grown HZ.2.1 fun b hb=>.inr (HZ.2.2 b hb),?_⟩;rw[HA.2.2.2.2.1,d7.out];have h3:=HZ.1;rw[c5] at h3;exact h3
 omega)
 by_cases h1:x.kind=12;·(
 by_cases ea:x.Ni=x.ref;·(
 have t3:=mK x.kind 13 (by omega);have t4:=yK x.kind 12 (by omega);have t5:(x.Ni !=x.ref)=false:=by rw[gj];exact ea
 have d7:=oH (show eJ x=[x.ref] by unfold eJ;rw[ae (fun h=>h.2 ea),ap (.inl h1)]);clear hrefs c6 h8 h1 ea;obtain⟨X1,a7⟩:∃X,X=C.alloc (.cells #[.int .i64 x.ref] 3):=⟨_,rfl⟩;have a1:aa All C X1:=by rw[a7];exact kR.alloc _
 have c7:al X1 C.heap.size 3 #[.int .i64 x.ref]:=by rw[a7];exact ac rfl
 have i1:=a1.size;have b9:=J3 a7 a1 c7;clear a7 a1 c7
 go_upto_region 14 with (at_builtin
                         go_loud (
                         rw[←b9.1];refine aR _ rfl (.tmp 44) (.tmp 47) 50 rfl C.heap.size 3 iI _ 1 8 underlying50 II.1 II.2.1 II.2.2.1 II.2.2.2 rfl (by decide) _ 0 [] rfl ⟨rfl,.inl ⟨rfl,rfl⟩⟩ (some ⟨C.heap.size,0,none⟩) 1 1 [.int .i64 x.ref] rfl rfl ?_ ?_ (by unfold maxLen;omega) (by omega) (by omega) ?_;·(
 intro _;exact⟨_,_,rfl,fun j u hu=>by
  rcases j with _|j;·rw[cN,b9.2.2.cell];exact hu
  simp at hu⟩)
                         ·intro u hu;rw[cx.1 hu];rfl
                         intro v1 w1 Y b3 c8;obtain⟨C1,c2,rfl⟩:=aU Y;have a6:aa All C w1:=((aa.refl All C).trans b9.2.1).grown b3 fun b hb=>.inr (by cases hb);obtain⟨e0,e3,e4⟩:=HX.out w1 a6;have j9:=a6.size;simp only[cN,mF] at Y⊢;clear b3 c8))
 obtain⟨X9,I⟩:∃X,X=w1.alloc (.cells #[.slice C1 1 c2] 50):=⟨_,rfl⟩;have J:aa All w1 X9:=by rw[I];exact kR.alloc _
 have b4:al X9 w1.heap.size 50 #[.slice C1 1 c2]:=by rw[I];exact ac rfl
 have R:X9.heap.size=w1.heap.size+1:=by rw[I];simp
 have d8:=eE R;have d9:=eE R.symm;have Z:aa All wr X9:=HA.2.2.2.1.trans (a6.trans J);have o:=HA.2.1.keep (aS ah) Z fun _ _ _=>trivial;have b6:aK (fun g=>C.heap.size≤g∧g<w1.heap.size) X9 (.slice C1 1 c2) ([x.ref]):=ah.keep J.all (oT (l:=[x.ref]) Y (fun y hy=>by rcases fX.1 hy with rfl|hy<;>first|exact iw HA.2.2.2.2.2.ref|(rw[cx.1 hy];exact iw HA.2.2.2.2.2.Ni)|cases hy) (by simp));have i6:=Z.size;have H9:=J5 I b4 o b6 Z;clear I J b4 R o b6 Z;go_wp2_with (
  at_builtin;go_loud (
  rw[←H9.1];refine bN (E:=eT aK) _ (aS ah) rfl (.tmp 64) (.tmp 66) 32 rfl iR _ 24 underlying32 IR.1 IR.2.1 IR.2.2.1 IR.2.2.2 rfl (by decide) _ _ rfl H9.2.2.1 w1.heap.size 0 1 rfl [.slice C1 1 c2] ([x.ref]) rfl ?_ ?_ (by rw[c5];omega) (by omega) (by omega) (fun g=>C.heap.size≤g∧g<w1.heap.size) ?_ ⟨_,rfl,H9.2.2.2.1⟩ ?_;·intro j u hu;rw[cN,H9.2.1.cell,List.getElem?_toArray];exact hu
  ·intro u hu
   rw[cx.1 hu];rfl
  ·intro g hg;have b3:C.heap.size≤g∧g<w1.heap.size:=hg;exact⟨by omega,by omega,fun e=>by have:=(aD HO.out e).2;omega⟩
  intro D2 i7 w9 o b7 b8;have HZ:=J3 o b7 b8;clear o b7 b8))
 go_roundg (b.Ng.length-(j+1));·refine⟨j+1,by omega,rfl,by go_num,(HA.1.trans H9.2.2.2.2).grown HZ.2.1 fun b hb=>.inr (HZ.2.2 b hb),?_⟩;rw[HA.2.2.2.2.1,d7.out];have h3:=HZ.1;rw[c5] at h3;exact h3
 omega)
 have t3:=mK x.kind 13 (by omega);have t4:=yK x.kind 12 (by omega);have t5:(x.Ni !=x.ref)=true:=by rw[bne_iff_ne];exact ea
 have d7:=oH (show eJ x=[x.ref,x.Ni] by unfold eJ;rw[ap ⟨h1,ea⟩]);clear hrefs c6 h8 h1 ea;obtain⟨X1,a7⟩:∃X,X=C.alloc (.cells #[.int .i64 x.ref] 3):=⟨_,rfl⟩;have a1:aa All C X1:=by rw[a7];exact kR.alloc _
 have c7:al X1 C.heap.size 3 #[.int .i64 x.ref]:=by rw[a7];exact ac rfl
 have i1:=a1.size;have b9:=J3 a7 a1 c7;clear a7 a1 c7
 go_upto_region 14 with (at_builtin
                         go_loud (
                         rw[←b9.1];refine aR _ rfl (.tmp 44) (.tmp 47) 50 rfl C.heap.size 3 iI _ 1 8 underlying50 II.1 II.2.1 II.2.2.1 II.2.2.2 rfl (by decide) _ 0 [] rfl ⟨rfl,.inl ⟨rfl,rfl⟩⟩ (some ⟨C.heap.size,0,none⟩) 1 1 [.int .i64 x.ref] rfl rfl ?_ ?_ (by unfold maxLen;omega) (by omega) (by omega) ?_;·(
 intro _;exact⟨_,_,rfl,fun j u hu=>by
  rcases j with _|j;·rw[cN,b9.2.2.cell];exact hu
  simp at hu⟩)
                         ·intro u hu;rw[cx.1 hu];rfl
                         intro v1 w1 Y b3 c8;obtain⟨C1,c2,rfl⟩:=aU Y;have a6:aa All C w1:=((aa.refl All C).trans b9.2.1).grown b3 fun b hb=>.inr (by cases hb);obtain⟨e0,e3,e4⟩:=HX.out w1 a6;have j9:=a6.size;simp only[cN,mF] at Y⊢;clear b3 c8))
 obtain⟨X2,h9⟩:∃X,X=w1.alloc (.cells #[.int .i64 x.Ni] 3):=⟨_,rfl⟩;have e2:aa All w1 X2:=by rw[h9];exact kR.alloc _
 have k0:al X2 w1.heap.size 3 #[.int .i64 x.Ni]:=by rw[h9];exact ac rfl
 have l0:=e2.size;have j0:=J3 h9 e2 k0;have e5:=be Y e2 (fun _ _=>trivial);clear h9 e2 k0
 go_upto_region 16 with (at_builtin
                         go_loud (
                         rw[←j0.1];refine aR _ rfl (.tmp 59) (.tmp 62) 50 rfl C.heap.size 3 iI _ 1 8 underlying50 II.1 II.2.1 II.2.2.1 II.2.2.2 rfl (by decide) _ 1 [.int .i64 x.ref] rfl e5 (some ⟨w1.heap.size,0,none⟩) 1 1 [.int .i64 x.Ni] rfl rfl ?_ ?_ (by unfold maxLen;omega) (by omega) (by omega) ?_;·(
 intro _;exact⟨_,_,rfl,fun j u hu=>by
  rcases j with _|j;·rw[cN,j0.2.2.cell];exact hu
  simp at hu⟩)
                         ·intro u hu;rw[cx.1 hu];rfl
                         intro v2 w2 e1 k1 k2;obtain⟨C2,i0,rfl⟩:=aU e1;have h2:aa All C w2:=(a6.trans j0.2.1).grown k1 fun b hb=>.inr (by exact(aD e5 hb).1);obtain⟨e0,e3,e4⟩:=HX.out w2 h2;have m1:=h2.size;simp only[List.cons_append,mF] at e1⊢;clear k1 k2))
 obtain⟨X9,I⟩:∃X,X=w2.alloc (.cells #[.slice C2 2 i0] 50):=⟨_,rfl⟩;have J:aa All w2 X9:=by rw[I];exact kR.alloc _
 have b4:al X9 w2.heap.size 50 #[.slice C2 2 i0]:=by rw[I];exact ac rfl
 have R:X9.heap.size=w2.heap.size+1:=by rw[I];simp
 have d8:=eE R;have d9:=eE R.symm;have Z:aa All wr X9:=HA.2.2.2.1.trans (h2.trans J);have o:=HA.2.1.keep (aS ah) Z fun _ _ _=>trivial;have b6:aK (fun g=>C.heap.size≤g∧g<w2.heap.size) X9 (.slice C2 2 i0) ([x.ref,x.Ni]):=ah.keep J.all (oT (l:=[x.ref,x.Ni]) e1 (fun y hy=>by rcases fX.1 hy with rfl|hy<;>first|exact iw HA.2.2.2.2.2.ref|(rw[cx.1 hy];exact iw HA.2.2.2.2.2.Ni)|cases hy) (by simp));have i6:=Z.size;have H9:=J5 I b4 o b6 Z;clear I J b4 R o b6 Z;go_wp2_with (
  at_builtin;go_loud (
  rw[←H9.1];refine bN (E:=eT aK) _ (aS ah) rfl (.tmp 64) (.tmp 66) 32 rfl iR _ 24 underlying32 IR.1 IR.2.1 IR.2.2.1 IR.2.2.2 rfl (by decide) _ _ rfl H9.2.2.1 w2.heap.size 0 1 rfl [.slice C2 2 i0] ([x.ref,x.Ni]) rfl ?_ ?_ (by rw[c5];omega) (by omega) (by omega) (fun g=>C.heap.size≤g∧g<w2.heap.size) ?_ ⟨_,rfl,H9.2.2.2.1⟩ ?_;·intro j u hu;rw[cN,H9.2.1.cell,List.getElem?_toArray];exact hu
  ·intro u hu
   rw[cx.1 hu];rfl
  ·intro g hg;have b3:C.heap.size≤g∧g<w2.heap.size:=hg;exact⟨by omega,by omega,fun e=>by have:=(aD HO.out e).2;omega⟩
  intro D2 i7 w9 o b7 b8;have HZ:=J3 o b7 b8;clear o b7 b8))
 go_roundg (b.Ng.length-(j+1));·refine⟨j+1,by omega,rfl,by go_num,(HA.1.trans H9.2.2.2.2).grown HZ.2.1 fun b hb=>.inr (HZ.2.2 b hb),?_⟩;rw[HA.2.2.2.2.1,d7.out];have h3:=HZ.1;rw[c5] at h3;exact h3
 omega)
 have t3:=mK x.kind 13 (by omega);have t4:=nK x.kind 12 (by omega);have d7:=oH (show eJ x=[x.ref] by unfold eJ;rw[ae (by omega),ap (by omega)]);clear hrefs c6 h8 h1;obtain⟨X1,a7⟩:∃X,X=C.alloc (.cells #[.int .i64 x.ref] 3):=⟨_,rfl⟩;have a1:aa All C X1:=by rw[a7];exact kR.alloc _
 have c7:al X1 C.heap.size 3 #[.int .i64 x.ref]:=by rw[a7];exact ac rfl
 have i1:=a1.size;have b9:=J3 a7 a1 c7;clear a7 a1 c7
 go_upto_region 14 with (at_builtin
                         go_loud (
                         rw[←b9.1];refine aR _ rfl (.tmp 44) (.tmp 47) 50 rfl C.heap.size 3 iI _ 1 8 underlying50 II.1 II.2.1 II.2.2.1 II.2.2.2 rfl (by decide) _ 0 [] rfl ⟨rfl,.inl ⟨rfl,rfl⟩⟩ (some ⟨C.heap.size,0,none⟩) 1 1 [.int .i64 x.ref] rfl rfl ?_ ?_ (by unfold maxLen;omega) (by omega) (by omega) ?_;·(
 intro _;exact⟨_,_,rfl,fun j u hu=>by
  rcases j with _|j;·rw[cN,b9.2.2.cell];exact hu
  simp at hu⟩)
                         ·intro u hu;rw[cx.1 hu];rfl
                         intro v1 w1 Y b3 c8;obtain⟨C1,c2,rfl⟩:=aU Y;have a6:aa All C w1:=((aa.refl All C).trans b9.2.1).grown b3 fun b hb=>.inr (by cases hb);obtain⟨e0,e3,e4⟩:=HX.out w1 a6;have j9:=a6.size;simp only[cN,mF] at Y⊢;clear b3 c8))
 obtain⟨X9,I⟩:∃X,X=w1.alloc (.cells #[.slice C1 1 c2] 50):=⟨_,rfl⟩;have J:aa All w1 X9:=by rw[I];exact kR.alloc _
 have b4:al X9 w1.heap.size 50 #[.slice C1 1 c2]:=by rw[I];exact ac rfl
 have R:X9.heap.size=w1.heap.size+1:=by rw[I];simp
 have d8:=eE R;have d9:=eE R.symm;have Z:aa All wr X9:=HA.2.2.2.1.trans (a6.trans J);have o:=HA.2.1.keep (aS ah) Z fun _ _ _=>trivial;have b6:aK (fun g=>C.heap.size≤g∧g<w1.heap.size) X9 (.slice C1 1 c2) ([x.ref]):=ah.keep J.all (oT (l:=[x.ref]) Y (fun y hy=>by rcases fX.1 hy with rfl|hy<;>first|exact iw HA.2.2.2.2.2.ref|(rw[cx.1 hy];exact iw HA.2.2.2.2.2.Ni)|cases hy) (by simp));have i6:=Z.size;have H9:=J5 I b4 o b6 Z;clear I J b4 R o b6 Z;go_wp2_with (
  at_builtin;go_loud (
  rw[←H9.1];refine bN (E:=eT aK) _ (aS ah) rfl (.tmp 64) (.tmp 66) 32 rfl iR _ 24 underlying32 IR.1 IR.2.1 IR.2.2.1 IR.2.2.2 rfl (by decide) _ _ rfl H9.2.2.1 w1.heap.size 0 1 rfl [.slice C1 1 c2] ([x.ref]) rfl ?_ ?_ (by rw[c5];omega) (by omega) (by omega) (fun g=>C.heap.size≤g∧g<w1.heap.size) ?_ ⟨_,rfl,H9.2.2.2.1⟩ ?_;·intro j u hu;rw[cN,H9.2.1.cell,List.getElem?_toArray];exact hu
  ·intro u hu
   rw[cx.1 hu];rfl
  ·intro g hg;have b3:C.heap.size≤g∧g<w1.heap.size:=hg;exact⟨by omega,by omega,fun e=>by have:=(aD HO.out e).2;omega⟩
  intro D2 i7 w9 o b7 b8;have HZ:=J3 o b7 b8;clear o b7 b8))
 go_roundg (b.Ng.length-(j+1));·refine⟨j+1,by omega,rfl,by go_num,(HA.1.trans H9.2.2.2.2).grown HZ.2.1 fun b hb=>.inr (HZ.2.2 b hb),?_⟩;rw[HA.2.2.2.2.1,d7.out];have h3:=HZ.1;rw[c5] at h3;exact h3
 omega)
 obtain rfl:j=b.Ng.length:=by omega
 rw[oF (by rw[cS];omega)] at a8;have j1:=jT (a8.read (bw:=24) (aS ah) (by rw[cS];omega));have HQ:=J3 c9 h5 (aq.wide (fun g (hg:W0.heap.size≤g∧g<wr.heap.size)=>show w.heap.size≤g∧g<wr.heap.size by omega) j1);have HC:=oH (pV _ _ (bM b) wr j1);clear c9 h5 a8 j1;skip;go_wp2_with fail;refine HC.out.mono ?_;rintro e w2 ⟨rfl,j2⟩;rw[bL (gd HG.out)];have k3:=oH j2;have l4:=j2.size;clear j2;go_wp2_with fail;go_ret2;exact⟨_,rfl,aq.wide (fun g (hg:w.heap.size≤g∧g<wr.heap.size)=>show w.heap.size≤g∧g<w2.heap.size by omega) (aq.keep k3.out.all HQ.2.2),HQ.2.1.trans k3.out⟩
theorem qy {w:World}{g:Nat}{e:TypeId}{l:List Int}{B:Nat}(h:al w g e (aI l).toArray)(o:B≤g)(hw:∀x∈l,(Lit.int .i64 x).wf=true)(C:l.length≤1000):aK (fun g=>B≤g∧g<w.heap.size) w (.slice (some ⟨g,0,none⟩) l.length l.length) l:=
 Sl.of_blk h ⟨o,h.lt⟩ (cf _) (by unfold maxLen;omega) (by omega) fun i x j=>⟨.int .i64 x,by simp[aI,j],rfl,hw x (mG j)⟩
theorem Je (S:Nat→Prop)(bv:Value)(b:aw)(w:World)(hb:bW S w bv b.Ng)(hG:gY b):
 Calls prog 49 #[.agg #[.int .i64 b.params,.int .i64 b.vars,bv]] w (EN b w):=by
 obtain⟨iI,c8,c9,d7,d8⟩:=info_parts kt;have II:=J4 c8 c9 d7 d8;clear c8 c9 d7 d8;obtain⟨iR,c8,c9,d7,d8⟩:=info_parts vm;have IR:=J4 c8 c9 d7 d8;clear c8 c9 d7 d8;have h5:=bg.la hb;obtain⟨B1,d1,rfl,m5,m6,m7,_⟩:=hb;unfold maxLen at*;obtain⟨W0,e1⟩:=eQ (w.alloc (.cells #[.int .i64 b.params,.int .i64 b.vars,.slice B1 b.Ng.length d1] 48));have e6:aa All w W0:=by rw[e1];exact kR.alloc _
 have bB:al W0 w.heap.size 48 #[.int .i64 b.params,.int .i64 b.vars,.slice B1 b.Ng.length d1]:=by rw[e1];exact ac rfl
 obtain⟨b0,b1,b2⟩:=bB.c3;have j3:=e6.size;have j4:=hG.blk.2;have HG:=oH hG;have HW:=J4 e1 e6 bB h5;clear e1 e6 bB h5 hG;go_enter func49,ntmps49;go_upto_region 1 with fail;rw[←HW.1];go_wp2_with fail;go_loopg [4,12] b.Ng.length (fun g s4 s5 wr=>∃j:Nat,j≤b.Ng.length∧g=b.Ng.length-j∧s5=.int .i64 j∧aa All W0 wr∧dR 1 50 (eT aK) W0.heap.size wr s4 ((bM b).take j));·exact⟨0,by omega,by omega,rfl,kR,by rw[List.take_zero];exact dR.nil⟩
 obtain⟨j,hj,rfl,rfl,c2,a6⟩:=hrel;have e2:=HW.2.1.trans c2;obtain⟨E,ep,rfl⟩:=a6.form;have b8:((bM b).take j).length=j:=by rw[fN,cS];omega
 rw[b8] at a6⊢;have h6:=HW.2.2.1.kept c2 trivial;clear b0 b1 b2;obtain⟨b0,b1,b2⟩:=h6.c3;clear h6;have j1:=c2.size;by_cases i4:j<b.Ng.length;·(
 obtain⟨l,hl⟩:=eG i4;have e3:=mG hl;obtain⟨rb,ro,rv,rfl,i5,j5,e7⟩:=bn (HW.2.2.2 wr e2) hl;obtain⟨q1,q2,q3⟩:=HG.out.some_ l e3;have d9:=(lC q1).2;have hrefs:=HG.out.ref l e3;have b9:=HG.out.Ni l e3;have h7:(bM b).take (j+1)=(bM b).take j++[eJ (iW l)]:=by rw[cU,Cn hl];rfl
 generalize iW l=x at*;obtain⟨LA,lc,rfl,l1,l2,l3,_⟩:=id e7;unfold maxLen at l2;obtain⟨m,hm⟩:∃m:Nat,l.length=m+1:=⟨l.length-1,by omega⟩;rw[show l.length-1=m by omega] at d9;obtain⟨xb,xo,j6,rfl,i6,h8,b7,xa,xf,rfl,i7,j0,h9⟩:=aZ e7 d9;obtain⟨ua,uc,rfl,_⟩:=i7;obtain⟨va,vc,rfl,_⟩:=j0;have z0:=b7 0 _ rfl;rw[dj] at z0;have z1:=b7 1 _ rfl;have z2:=b7 2 _ rfl;have z3:=b7 3 _ rfl;have z4:=b7 4 _ rfl;have z5:=b7 5 _ rfl;have z6:=b7 6 _ rfl;have z7:=b7 7 _ rfl;have z8:=b7 8 _ rfl;have tl:((l.length:Int)==0)=false:=by rw[bE];omega
 have tm:(l.length:Int)-1=(m:Int):=by omega
 have j7:m<l.length:=by omega
 obtain⟨R,e4⟩:=eQ (wr.alloc (.cells #[.int .u8 x.kind,.int .u8 x.op,.int .i64 x.dst,.int .i64 x.ref,.int .i64 x.Ni,.slice ua x.args.length uc,.slice va x.Nh.length vc,.int .i64 x.num,.int .i64 x.Nj] 52));have e8:aa All wr R:=by rw[e4];exact kR.alloc _
 have b5:al R wr.heap.size 52 #[.int .u8 x.kind,.int .u8 x.op,.int .i64 x.dst,.int .i64 x.ref,.int .i64 x.Ni,.slice ua x.args.length uc,.slice va x.Nh.length vc,.int .i64 x.num,.int .i64 x.Nj]:=by rw[e4];exact ac rfl
 have j8:=e8.size;have HX:=oH (show∀wn,aa All R wn→wn.cell? ⟨wr.heap.size,0,none⟩=some (.int .u8 x.kind)∧wn.cell? ⟨wr.heap.size,3,none⟩=some (.int .i64 x.ref)∧wn.cell? ⟨wr.heap.size,4,none⟩=some (.int .i64 x.Ni) from fun wn hk=>⟨(b5.kept hk trivial).cell 0,(b5.kept hk trivial).cell 3,(b5.kept hk trivial).cell 4⟩);have HA:=J6 c2 a6 e4 e8 h7 h9;obtain⟨_,i0⟩:=a6.own;have HO:=oH i0;clear c2 a6 e4 e8 b5 h7 hl e3 e7 d9 b7 h9 e2 i5 i6 h8 i0;go_upto_region 9 with fail;rw[←HA.2.2.1];clear z0 z1 z2 z3 z4 z5 z6 z7 z8;obtain⟨c0,c3,c4⟩:=HX.out R kR;by_cases e5:x.kind=13;·(
 have t12:=nK x.kind 12 (by omega);have t11:=nK x.kind 11 (by omega);have t13:=wK x.kind 13 (by omega);have c5:=oH (show eJ x=[] by unfold eJ;rw[ae (by omega),ae (by omega)]);clear hrefs b9 e5;obtain⟨X9,C⟩:∃X,X=R.alloc (.cells #[.slice none 0 0] 50):=⟨_,rfl⟩;have I:aa All R X9:=by rw[C];exact kR.alloc _
 have a7:al X9 R.heap.size 50 #[.slice none 0 0]:=by rw[C];exact ac rfl
 have J:X9.heap.size=R.heap.size+1:=by rw[C];simp
 have c6:=eE J;have c7:=eE J.symm;have Y:aa All wr X9:=HA.2.2.2.1.trans ((aa.refl All R).trans I);have o:=HA.2.1.keep (aS ah) Y fun _ _ _=>trivial;have a8:aK (fun g=>R.heap.size≤g∧g<R.heap.size) X9 (.slice none 0 0) (([]:List Int)):=ah.keep I.all (Sl.nil);have e9:=Y.size;have H9:=J5 C a7 o a8 Y;clear C I a7 J o a8 Y;go_wp2_with (
  at_builtin;go_loud (
  rw[←H9.1];refine bN (E:=eT aK) _ (aS ah) rfl (.tmp 57) (.tmp 59) 32 rfl iR _ 24 underlying32 IR.1 IR.2.1 IR.2.2.1 IR.2.2.2 rfl (by decide) _ _ rfl H9.2.2.1 R.heap.size 0 1 rfl [.slice none 0 0] (([]:List Int)) rfl ?_ ?_ (by rw[b8];omega) (by omega) (by omega) (fun g=>R.heap.size≤g∧g<R.heap.size) ?_ ⟨_,rfl,H9.2.2.2.1⟩ ?_;·intro j u hu;rw[cN,H9.2.1.cell,List.getElem?_toArray];exact hu
  ·intro u hu
   rw[cx.1 hu];rfl
  ·intro g hg;have h0:R.heap.size≤g∧g<R.heap.size:=hg;exact⟨by omega,by omega,fun e=>by have:=(aD HO.out e).2;omega⟩
  intro D2 h1 w9 o b3 b4;have HZ:=J3 o b3 b4;clear o b3 b4))
 go_roundg (b.Ng.length-(j+1));·refine⟨j+1,by omega,rfl,by go_num,(HA.1.trans H9.2.2.2.2).grown HZ.2.1 fun b hb=>.inr (HZ.2.2 b hb),?_⟩;rw[HA.2.2.2.2.1,c5.out];have h3:=HZ.1;rw[b8] at h3;exact h3
 omega)
 by_cases e0:x.kind=12;·(
 by_cases ea:x.Ni=x.ref;·(
 have t12:=yK x.kind 12 (by omega);have t11:=nK x.kind 11 (by omega);have t13:=mK x.kind 13 (by omega);have t5:(x.Ni !=x.ref)=false:=by rw[gj];exact ea
 have c5:=oH (show eJ x=[x.ref] by unfold eJ;rw[ae (fun h=>h.2 ea),ap (.inl e0)]);clear hrefs b9 e5 e0 ea;obtain⟨X1,a1⟩:∃X,X=R.alloc (.cells #[.int .i64 x.ref] 3):=⟨_,rfl⟩;have Z:aa All R X1:=by rw[a1];exact kR.alloc _
 have c1:al X1 R.heap.size 3 (aI [x.ref]).toArray:=by rw[a1];exact ac rfl
 have i1:=Z.size;have b6:=J3 a1 Z c1;clear a1 Z c1;go_upto_region 15 with fail;rw[←b6.1];obtain⟨X9,C⟩:∃X,X=X1.alloc (.cells #[.slice (some ⟨R.heap.size,0,none⟩) 1 1] 50):=⟨_,rfl⟩;have I:aa All X1 X9:=by rw[C];exact kR.alloc _
 have a7:al X9 X1.heap.size 50 #[.slice (some ⟨R.heap.size,0,none⟩) 1 1]:=by rw[C];exact ac rfl
 have J:X9.heap.size=X1.heap.size+1:=by rw[C];simp
 have c6:=eE J;have c7:=eE J.symm;have Y:aa All wr X9:=HA.2.2.2.1.trans (b6.2.1.trans I);have o:=HA.2.1.keep (aS ah) Y fun _ _ _=>trivial;have a8:aK (fun g=>R.heap.size≤g∧g<X1.heap.size) X9 (.slice (some ⟨R.heap.size,0,none⟩) 1 1) ([x.ref]):=ah.keep I.all (qy (l:=[x.ref]) b6.2.2 (cf _) (fun y hy=>by rcases fX.1 hy with rfl|hy<;>first|exact iw HA.2.2.2.2.2.ref|(rw[cx.1 hy];exact iw HA.2.2.2.2.2.Ni)|cases hy) (by simp));have e9:=Y.size;have H9:=J5 C a7 o a8 Y;clear C I a7 J o a8 Y;go_wp2_with (
  at_builtin;go_loud (
  rw[←H9.1];refine bN (E:=eT aK) _ (aS ah) rfl (.tmp 57) (.tmp 59) 32 rfl iR _ 24 underlying32 IR.1 IR.2.1 IR.2.2.1 IR.2.2.2 rfl (by decide) _ _ rfl H9.2.2.1 X1.heap.size 0 1 rfl [.slice (some ⟨R.heap.size,0,none⟩) 1 1] ([x.ref]) rfl ?_ ?_ (by rw[b8];omega) (by omega) (by omega) (fun g=>R.heap.size≤g∧g<X1.heap.size) ?_ ⟨_,rfl,H9.2.2.2.1⟩ ?_;·intro j u hu;rw[cN,H9.2.1.cell,List.getElem?_toArray];exact hu
  ·intro u hu
   rw[cx.1 hu];rfl
  ·intro g hg;have h0:R.heap.size≤g∧g<X1.heap.size:=hg;exact⟨by omega,by omega,fun e=>by have:=(aD HO.out e).2;omega⟩
  intro D2 h1 w9 o b3 b4;have HZ:=J3 o b3 b4;clear o b3 b4))
 go_roundg (b.Ng.length-(j+1));·refine⟨j+1,by omega,rfl,by go_num,(HA.1.trans H9.2.2.2.2).grown HZ.2.1 fun b hb=>.inr (HZ.2.2 b hb),?_⟩;rw[HA.2.2.2.2.1,c5.out];have h3:=HZ.1;rw[b8] at h3;exact h3
 omega)
 have t12:=yK x.kind 12 (by omega);have t11:=nK x.kind 11 (by omega);have t13:=mK x.kind 13 (by omega);have t5:(x.Ni !=x.ref)=true:=by rw[bne_iff_ne];exact ea
 have c5:=oH (show eJ x=[x.ref,x.Ni] by unfold eJ;rw[ap ⟨e0,ea⟩]);clear hrefs b9 e5 e0 ea;obtain⟨X1,a1⟩:∃X,X=R.alloc (.cells #[.int .i64 x.ref,.int .i64 x.Ni] 3):=⟨_,rfl⟩;have Z:aa All R X1:=by rw[a1];exact kR.alloc _
 have c1:al X1 R.heap.size 3 (aI [x.ref,x.Ni]).toArray:=by rw[a1];exact ac rfl
 have i1:=Z.size;have b6:=J3 a1 Z c1;clear a1 Z c1;go_upto_region 15 with fail;rw[←b6.1];obtain⟨X9,C⟩:∃X,X=X1.alloc (.cells #[.slice (some ⟨R.heap.size,0,none⟩) 2 2] 50):=⟨_,rfl⟩;have I:aa All X1 X9:=by rw[C];exact kR.alloc _
 have a7:al X9 X1.heap.size 50 #[.slice (some ⟨R.heap.size,0,none⟩) 2 2]:=by rw[C];exact ac rfl
 have J:X9.heap.size=X1.heap.size+1:=by rw[C];simp
 have c6:=eE J;have c7:=eE J.symm;have Y:aa All wr X9:=HA.2.2.2.1.trans (b6.2.1.trans I);have o:=HA.2.1.keep (aS ah) Y fun _ _ _=>trivial;have a8:aK (fun g=>R.heap.size≤g∧g<X1.heap.size) X9 (.slice (some ⟨R.heap.size,0,none⟩) 2 2) ([x.ref,x.Ni]):=ah.keep I.all (qy (l:=[x.ref,x.Ni]) b6.2.2 (cf _) (fun y hy=>by rcases fX.1 hy with rfl|hy<;>first|exact iw HA.2.2.2.2.2.ref|(rw[cx.1 hy];exact iw HA.2.2.2.2.2.Ni)|cases hy) (by simp));have e9:=Y.size;have H9:=J5 C a7 o a8 Y;clear C I a7 J o a8 Y;go_wp2_with (
  at_builtin;go_loud (
  rw[←H9.1];refine bN (E:=eT aK) _ (aS ah) rfl (.tmp 57) (.tmp 59) 32 rfl iR _ 24 underlying32 IR.1 IR.2.1 IR.2.2.1 IR.2.2.2 rfl (by decide) _ _ rfl H9.2.2.1 X1.heap.size 0 1 rfl [.slice (some ⟨R.heap.size,0,none⟩) 2 2] ([x.ref,x.Ni]) rfl ?_ ?_ (by rw[b8];omega) (by omega) (by omega) (fun g=>R.heap.size≤g∧g<X1.heap.size) ?_ ⟨_,rfl,H9.2.2.2.1⟩ ?_;·intro j u hu;rw[cN,H9.2.1.cell,List.getElem?_toArray];exact hu
  ·intro u hu
   rw[cx.1 hu];rfl
  ·intro g hg;have h0:R.heap.size≤g∧g<X1.heap.size:=hg;exact⟨by omega,by omega,fun e=>by have:=(aD HO.out e).2;omega⟩
  intro D2 h1 w9 o b3 b4;have HZ:=J3 o b3 b4;clear o b3 b4))
 go_roundg (b.Ng.length-(j+1));·refine⟨j+1,by omega,rfl,by go_num,(HA.1.trans H9.2.2.2.2).grown HZ.2.1 fun b hb=>.inr (HZ.2.2 b hb),?_⟩;rw[HA.2.2.2.2.1,c5.out];have h3:=HZ.1;rw[b8] at h3;exact h3
 omega)
 have t12:=nK x.kind 12 (by omega);have t11:=yK x.kind 11 (by omega);have t13:=mK x.kind 13 (by omega);have c5:=oH (show eJ x=[x.ref] by unfold eJ;rw[ae (by omega),ap (by omega)]);clear hrefs b9 e5 e0;obtain⟨X1,a1⟩:∃X,X=R.alloc (.cells #[.int .i64 x.ref] 3):=⟨_,rfl⟩;have Z:aa All R X1:=by rw[a1];exact kR.alloc _
 have c1:al X1 R.heap.size 3 (aI [x.ref]).toArray:=by rw[a1];exact ac rfl
 have i1:=Z.size;have b6:=J3 a1 Z c1;clear a1 Z c1;go_upto_region 15 with fail;rw[←b6.1];obtain⟨X9,C⟩:∃X,X=X1.alloc (.cells #[.slice (some ⟨R.heap.size,0,none⟩) 1 1] 50):=⟨_,rfl⟩;have I:aa All X1 X9:=by rw[C];exact kR.alloc _
 have a7:al X9 X1.heap.size 50 #[.slice (some ⟨R.heap.size,0,none⟩) 1 1]:=by rw[C];exact ac rfl
 have J:X9.heap.size=X1.heap.size+1:=by rw[C];simp
 have c6:=eE J;have c7:=eE J.symm;have Y:aa All wr X9:=HA.2.2.2.1.trans (b6.2.1.trans I);have o:=HA.2.1.keep (aS ah) Y fun _ _ _=>trivial;have a8:aK (fun g=>R.heap.size≤g∧g<X1.heap.size) X9 (.slice (some ⟨R.heap.size,0,none⟩) 1 1) ([x.ref]):=ah.keep I.all (qy (l:=[x.ref]) b6.2.2 (cf _) (fun y hy=>by rcases fX.1 hy with rfl|hy<;>first|exact iw HA.2.2.2.2.2.ref|(rw[cx.1 hy];exact iw HA.2.2.2.2.2.Ni)|cases hy) (by simp));have e9:=Y.size;have H9:=J5 C a7 o a8 Y;clear C I a7 J o a8 Y;go_wp2_with (
  at_builtin;go_loud (
  rw[←H9.1];refine bN (E:=eT aK) _ (aS ah) rfl (.tmp 57) (.tmp 59) 32 rfl iR _ 24 underlying32 IR.1 IR.2.1 IR.2.2.1 IR.2.2.2 rfl (by decide) _ _ rfl H9.2.2.1 X1.heap.size 0 1 rfl [.slice (some ⟨R.heap.size,0,none⟩) 1 1] ([x.ref]) rfl ?_ ?_ (by rw[b8];omega) (by omega) (by omega) (fun g=>R.heap.size≤g∧g<X1.heap.size) ?_ ⟨_,rfl,H9.2.2.2.1⟩ ?_;·intro j u hu;rw[cN,H9.2.1.cell,List.getElem?_toArray];exact hu
  ·intro u hu
   rw[cx.1 hu];rfl
  ·intro g hg;have h0:R.heap.size≤g∧g<X1.heap.size:=hg;exact⟨by omega,by omega,fun e=>by have:=(aD HO.out e).2;omega⟩
  intro D2 h1 w9 o b3 b4;have HZ:=J3 o b3 b4;clear o b3 b4))
 go_roundg (b.Ng.length-(j+1));·refine⟨j+1,by omega,rfl,by go_num,(HA.1.trans H9.2.2.2.2).grown HZ.2.1 fun b hb=>.inr (HZ.2.2 b hb),?_⟩;rw[HA.2.2.2.2.1,c5.out];have h3:=HZ.1;rw[b8] at h3;exact h3
 omega)
 obtain rfl:j=b.Ng.length:=by omega
 rw[oF (by rw[cS];omega)] at a6;have h2:=jT (a6.read (bw:=24) (aS ah) (by rw[cS];omega));have HQ:=J3 c2 e2 (aq.wide (fun g (hg:W0.heap.size≤g∧g<wr.heap.size)=>show w.heap.size≤g∧g<wr.heap.size by omega) h2);have HC:=oH (gt _ _ (bM b) wr h2);clear c2 e2 a6 h2;skip;go_wp2_with fail;refine HC.out.mono ?_;rintro e w2 ⟨rfl,h4⟩;rw[bL (gd HG.out)];have i2:=oH h4;have j2:=h4.size;clear h4;go_wp2_with fail;go_ret2;exact⟨_,rfl,aq.wide (fun g (hg:w.heap.size≤g∧g<wr.heap.size)=>show w.heap.size≤g∧g<w2.heap.size by omega) (aq.keep i2.out.all HQ.2.2),HQ.2.1.trans i2.out⟩
section
open Classical in
theorem pL {P Q:Nat→Prop}{n:Nat}(h:∀k,k<n→(P k↔Q k)):cV P n=cV Q n:=by
 rcases jX P n with ⟨e,g⟩|⟨k,e,l,C,hm⟩;·rw[e,hZ fun k l o=>g k l ((h k l).2 o)]
 rw[e,lO l (fun j I o=>hm j I ((h j (by omega)).2 o)) ((h k l).1 C)]
noncomputable def qx (l:List Bool):Int:=cV (fun k=>l[k]? =some false) l.length
theorem Jk (l:List Bool): -1≤qx l∧qx l<l.length:=by rcases jX (fun k=>l[k]? =some false) l.length with ⟨e,_⟩|⟨k,e,j,_⟩<;>unfold qx<;>rw[e]<;>omega
theorem Ao (S:Nat→Prop)(Z:Value)(l:List Bool)(w:World)(ha:gD S w Z l):
 Calls prog 113 #[Z,.bool false] w fun e w'=>e=.returned (.int .i64 (qx l))∧w'=w:=by
 obtain⟨a,cap,rfl,h1,h2,_,h⟩:=ha;unfold maxLen at h2;have hl:l.length≤9223372036854775807:=by omega
 have H:=oH h;clear h;go_enter func113,ntmps113;go_wp2_with fail;go_loopg [5,8] l.length (fun g s5 s8 wr=>∃k:Nat,k≤l.length∧g=l.length-k∧s8=.int .i64 k∧wr=w∧∀j,j<k→l[j]?≠some false);·exact⟨0,by omega,by omega,rfl,rfl,fun j hj=>by omega⟩
 obtain⟨k,hk,rfl,rfl,hw,I⟩:=hrel;have J:=hw.symm;subst J;have o:=oH I;clear I;by_cases C:k<l.length;·(
 obtain⟨b,off,c,rfl,hs,hc,R⟩:=H.out k l[k] (lG C);have hg:l[k]? =some l[k]:=lG C;have Hg:=oH hg;clear hg;generalize l[k]=y at*;obtain rfl:c=.bool y:=R;cases y with
 |false=>have Y:=oH (lO C o.out Hg.out);go_wp2_with fail;go_ret;exact⟨by unfold qx;rw[Y.out];rfl,rfl⟩
 |true=>
  go_wp2_with fail;go_roundg (l.length-(k+1))
  ·refine⟨k+1,by omega,rfl,by go_num,rfl,fun j hj=>?_⟩;by_cases e:j=k;·subst e;rw[Hg.out];simp
   exact o.out j (by omega)
  omega)
 obtain rfl:k=l.length:=by omega
 have Y:=oH (hZ o.out);go_wp2_with fail;go_ret;exact⟨by unfold qx;rw[Y.out];rfl,rfl⟩
theorem uZ (S:Nat→Prop)(o:Value)(l:List Bool)(w:World)(C:gD S w o l):
 Calls prog 81 #[o] w fun e J=>e=.returned (.tuple #[.int .i64 (max (qx l) 0),.bool (decide (0≤qx l))])∧J=w:=by
 have I:=oH (Ao S o l w C);have R:=Jk l;obtain⟨a,cap,rfl,h1,Y,_,h⟩:=C;unfold maxLen at Y;clear h;generalize qx l=x at*;by_cases hx:0≤x
 ·have t1:decide (x<0)=false:=by simp;omega
  have t2:decide (x≥0)=true:=by simp;omega
  have t3:decide (0≤x)=true:=by simp;omega
  have t4:max x 0=x:=by omega
  rw[t3,t4];clear t3 t4;go_enter func81,ntmps81;go_wp2_with fail;refine I.out.mono ?_;rintro e Z ⟨rfl,hw⟩;have j:=hw.symm;subst j;go_wp2_with fail;go_ret2;exact⟨rfl,rfl⟩
 obtain rfl:x= -1:=by omega
 go_enter func81,ntmps81;go_wp2_with fail;refine I.out.mono ?_;rintro e Z ⟨rfl,hw⟩;have j:=hw.symm;subst j;go_wp2_with fail;go_ret2;exact⟨rfl,rfl⟩
theorem An {ll:List (List Int)}:qx (en ll 0)=cV (kO ll) ll.length:=by
 have j:(en ll 0).length=ll.length:=by simp[en]
 unfold qx;rw[j];refine pL fun k l=>?_;have:(en ll 0)[k]? =some (ay ll 0 k):=by simp[en,l]
 rw[this];unfold kO;by_cases o:aQ ll 0 k;·simp[ay,o]
 simp[ay,o,l]
def uz (x:Int)(w:World):Ending→World→Prop:=fun e w'=>e=.returned (.tuple #[.int .i64 (max x 0),.bool (decide (0≤x))])∧aa All w w'
theorem yC (S:Nat→Prop)(v:Value)(ll:List (List Int))(w:World)(J:Rows S w v ll)(I:aP ll):
 Calls prog 51 #[v] w (uz (cV (kO ll) ll.length) w):=by
 have j:=gt S v ll w J;rw[bL I] at j;have l:=fun R (hk:aa All w R)=>ri S v ll 0 R (aq.keep hk.all J) I I.1;obtain⟨a,cap,rfl,h1,h2,Y,h⟩:=J;have hl:ll.length≤256:=I.2.1;have HR:=J2 j l;clear h h1 h2 Y j l;go_enter func51,ntmps51;go_wp2_with fail;refine HR.1.mono ?_;rintro e R ⟨rfl,o⟩;have HK:=oH o;clear o;go_wp2_with fail;refine(HR.2 _ HK.out).mono ?_;rintro e w2 ⟨u,rfl,C,hb⟩;have HF:=oH (uZ _ u _ w2 hb);have HB:=oH (HK.out.trans C);clear C hb;go_wp2_with fail;refine HF.out.mono ?_;rintro e w3 ⟨rfl,hw⟩;have Z:=hw.symm;subst Z;rw[An];go_wp2_with fail;go_ret2;exact⟨rfl,HB.out⟩
end
def jg (E:Nat→Nat→Prop)(i:Nat)(s:List Nat):Prop:=∀(k:Nat) x,s[k]? =some x→(∃m y,k<m∧s[m]? =some y∧E y x)∨E i x
theorem GG (E:Nat→Nat→Prop)(i:Nat):jg E i []:=fun k x h=>by simp at h
theorem GF {E:Nat→Nat→Prop}{i c:Nat}{s C:List Nat}(h:jg E i s)(J:jg E c C)(he:E i c):jg E i (s++(C++[c])):=by
 intro k x j;by_cases R:k<s.length
 ·rw[ma R] at j;rcases h k x j with ⟨m,y,hm,I,l⟩|l
  ·have o:=(lS.1 I).1
   exact .inl ⟨m,y,hm,by rw[ma o];exact I,l⟩
  exact .inr l
 rw[kH (by omega)] at j;by_cases Y:k-s.length<C.length
 ·rw[ma Y] at j;rcases J _ x j with ⟨m,y,hm,I,l⟩|l
  ·have o:=(lS.1 I).1
   refine .inl ⟨s.length+m,y,by omega,?_,l⟩;rw[kH (by omega),Nat.add_sub_cancel_left,ma o];exact I
  refine .inl ⟨s.length+C.length,c,by omega,?_,l⟩;rw[kH (by omega),Nat.add_sub_cancel_left,kH (cf _),Nat.sub_self];rfl
 rw[kH (by omega)] at j;have Z:k-s.length-C.length=0:=by have:=(lS.1 j).1;simp at this;omega
 rw[Z] at j;cases j;exact .inr he
theorem Dw {l:List Nat}(h:l.Nodup){i j:Nat}{x:Nat}(hi:l[i]? =some x)(Y:l[j]? =some x):i=j:=by
 obtain⟨o,C⟩:=lS.1 hi;obtain⟨I,J⟩:=lS.1 Y;have R:=List.pairwise_iff_getElem.1 (List.nodup_iff_pairwise_ne.1 h);rcases Nat.lt_trichotomy i j with h|h|h;·exact absurd (by rw[C,J]) (R i j o I h)
 ·exact h
 exact absurd (by rw[C,J]) (R j i I o h)
theorem Lb {l:List Nat}(h:l.Nodup){i x:Nat}(hi:l[i]? =some x):l.idxOf x=i:=by
 have o:x∈l:=mG hi;have j:l.idxOf x<l.length:=List.idxOf_lt_length_iff.2 o;have:l[l.idxOf x]? =some x:=by rw[lG j,List.getElem_idxOf]
 exact Dw h this hi
theorem Dn {l:List Nat}{n:Nat}(h:l.Nodup)(hm:∀x,x∈l↔x<n):l.length=n:=by
 have:l.Perm (List.range n):=(List.perm_ext_iff_of_nodup h List.nodup_range).2 fun x=>by rw[hm,fg]
 simpa using this.length_eq
theorem Lu {E:Nat→Nat→Prop}{n:Nat}{s:List Nat}(hE:∀a b,E a b→a<n∧b<n)(h:jg E 0 s)(hn:(s++[0]).Nodup)(hm:∀x,x∈s++[0]↔x<n):
 zJ E n (fun x=>(s++[0]).reverse.idxOf x)∧(s++[0]).reverse.length=n∧(s++[0]).reverse[0]? =some 0∧∀(m:Nat) x,(s++[0]).reverse[m]? =some x→(s++[0]).reverse.idxOf x=m:=by
 have hr:(s++[0]).reverse.Nodup:=by rw[List.nodup_iff_pairwise_ne,List.pairwise_reverse];exact(List.nodup_iff_pairwise_ne.1 hn).imp fun h=>h.symm
 have I:=Dn hn hm;have l:∀(m:Nat) x,(s++[0]).reverse[m]? =some x→(s++[0]).reverse.idxOf x=m:=fun m x h=>Lb hr h;have Z:(s++[0]).reverse[0]? =some 0:=by simp
 have J:∀x,x<n→∃m,(s++[0]).reverse[m]? =some x:=fun x hx=>cY.1 (List.mem_reverse.2 ((hm x).2 hx));have R:(s++[0]).reverse.length=n:=by rw[List.length_reverse];exact I
 refine⟨⟨?_,l 0 0 Z,fun a b ha hb e=>?_,fun a ha=>?_,hE,fun k hk a1=>?_⟩,R,Z,l⟩;·rw[←I];simp
 ·obtain⟨i,hi⟩:=J a ha;obtain⟨j,C⟩:=J b hb;simp only[l i a hi,l j b C] at e;subst e;rw[hi] at C;exact kJ C
 ·rw[←R]
  exact List.idxOf_lt_length_iff.2 (List.mem_reverse.2 ((hm a).2 ha))
 have a6:k∈s:=by
  have:=(hm k).2 hk;rcases eD.1 this with h|h;·exact h
  exact absurd (cx.1 h) a1
 have o:∀j y,s[j]? =some y→(s++[0]).reverse.idxOf y=s.length-j:=by(
 intro j y Y;have C:=(lS.1 Y).1;refine l _ y ?_;rw[List.getElem?_reverse (by simp;omega)];have e:(s++[0]).length-1-(s.length-j)=j:=by simp;omega
 rw[e,ma C];exact Y)
 obtain⟨j,C⟩:=cY.1 a6;have a7:=(lS.1 C).1;rcases h j k C with ⟨m,y,a8,Y,he⟩|he
 ·refine⟨y,he,?_⟩
  have b0:=(lS.1 Y).1;simp only[o j k C,o m y Y];omega
 refine⟨0,he,?_⟩;simp only[o j k C,l 0 0 Z];omega
end Go.Proofs.YtceloincoomjeaaGreatDoor
