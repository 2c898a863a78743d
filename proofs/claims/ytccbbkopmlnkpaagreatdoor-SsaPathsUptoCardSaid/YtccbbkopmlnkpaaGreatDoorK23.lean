/- Part 24 of the proof (its last part says what is proved). No condition. -/
import Derived.Test.YtccbbkopmlnkpaaGreatDoorK18
import Derived.Test.YtccbbkopmlnkpaaGreatDoorK21
import Derived.Test.YtccbbkopmlnkpaaGreatDoorK22
namespace Go.Proofs.YtccbbkopmlnkpaaGreatDoor
set_option maxRecDepth 100000
set_option maxHeartbeats 8000000
open Go.RowKit Go.Proofs.Tryz
def Cs (p:aI)(c:aU)(w:World)(e:Ending)(w':World):Prop:=∃(A1:Option Addr) (n1 c1:Nat) (A2:Option Addr) (n2 c2:Nat) (n:Int),e=.returned (.tuple #[.agg #[.slice A1 n1 c1,.slice A2 n2 c2],.int .i64 n])∧(n=0↔eN p c)∧aa All w w'
theorem Al (S:Nat→Prop)(pv cv:Value)(p:aI)(c:aU)(w:World)(hp:gR S w pv p)(hc:mu S w cv c)(hl:cP w)(hS:∀b,S b→b<w.heap.size)(h6:jU p)(hz:iH c):
 Calls prog 32 #[pv,cv] w (Cs p c w):=by
 have e4:=bG.la hp;have e5:=fJ.la hc;obtain⟨j7,vu,vi,vo,rfl,h7,h8,h9,i1,i6⟩:=hp;obtain⟨a1,n1,rfl,_⟩:=h7;obtain⟨a2,n2,rfl,_⟩:=h8;obtain⟨a3,n3,rfl,_⟩:=h9;obtain⟨a4,n4,rfl,_⟩:=i1;obtain⟨ka,kf,rfl,b2,b4,b6⟩:=hc;have e6:=cr.la b2;have e7:=cE.la b4;obtain⟨A1,c1,rfl,_⟩:=b2;obtain⟨A2,c2,rfl,_⟩:=b4;obtain⟨W0,a6⟩:=eQ (((w.alloc (.cells #[.slice a1 p.Ng.length n1,.slice a2 p.up.length n2,.slice a3 p.Ni.length n3,.slice a4 p.Nh.length n4,.int .i64 p.Nj] 26)).alloc (.cells #[.slice A1 c.Nk.length c1,.slice A2 c.Nl.length c2,.int .i64 c.main] 30)).alloc (.cells #[.slice none 0 0,.slice none 0 0] 81));have j8:w.heap.size+3≤W0.heap.size:=by rw[a6];simp
 have e8:aa All w W0:=by rw[a6];exact((kR.alloc _).alloc _).alloc _
 have bP:al W0 w.heap.size 26 #[.slice a1 p.Ng.length n1,.slice a2 p.up.length n2,.slice a3 p.Ni.length n3,.slice a4 p.Nh.length n4,.int .i64 p.Nj]:=by rw[a6];exact((al.new _ _ _).alloc _).alloc _
 have bK:al W0 (w.heap.size+1) 30 #[.slice A1 c.Nk.length c1,.slice A2 c.Nl.length c2,.int .i64 c.main]:=by rw[a6];exact(ac (by simp)).alloc _
 have bQ:al W0 (w.heap.size+1+1) 81 #[.slice none 0 0,.slice none 0 0]:=by rw[a6];exact ac (by simp)
 have I:=J5 a6 e8 bP bK bQ;have HP:=J6 e4 e5 e6 e7 hl b6;clear a6 e8 bP bK bQ e4 e5 e6 e7 hl i6 b6;go_enter func32,ntmps32;go_upto_region 1 with fail;rw[←I.1];obtain⟨p0,p1,p2,p3,p4⟩:=I.2.2.1.c5;obtain⟨k0,k1,k2⟩:=I.2.2.2.1.c3;have HR:=oH (lU S _ p W0 (HP.1 W0 I.2.1) (HP.2.2.2.2.1.keep I.2.1));by_cases a8:dZ p;·(
 rw[aw a8] at HR;have i7:=oH a8;clear a8;go_wp2_with fail;refine HR.out.mono ?_;rintro e w1 ⟨rfl,b7⟩;have J:=oH b7;clear b7 k0 k1 k2 p0 p1 p2 p3 p4;have Y:=I.2.2.2.1.kept J.out trivial;obtain⟨k0,k1,k2⟩:=Y.c3;clear Y;by_cases hf:c.Nl.length≤64;·(
 have t1:decide ((64:Int)<(c.Nl.length:Int))=false:=by simp;omega
 by_cases ha:c.Nk.length≤16;·(
 have t2:decide ((16:Int)<(c.Nk.length:Int))=false:=by simp;omega
 have e9:=J2 hf ha;clear hf ha;have c9:=oH (I.2.1.trans J.out);have b8:=I.2.2.1.kept J.out trivial;obtain⟨p0,p1,p2,p3,p4⟩:=b8.c5;clear b8;have HC:=oH (DO S _ _ p c w1 (HP.1 w1 c9.out) (HP.2.1 w1 c9.out) h6 hz);go_wp2_with fail;refine HC.out.mono ?_;rintro e w2 ⟨B1,m1,d1,B2,m2,d2,b,rfl,hb,d8,h0⟩;have h1:=oH (J.out.trans d8);have j0:=oH h0;have j6:=oH d8;clear d8 h0 t1 t2 k0 k1 k2 p0 p1 p2 p3 p4;obtain⟨W3,b9⟩:=eQ (w2.alloc (.cells #[.slice B1 m1 d1,.slice B2 m2 d2] 81));have d9:aa All w2 W3:=by rw[b9];exact kR.alloc _
 have b3:al W3 w2.heap.size 81 #[.slice B1 m1 d1,.slice B2 m2 d2]:=by rw[b9];exact ac rfl
 have j9:w2.heap.size+1≤W3.heap.size:=by rw[b9];simp
 have k3:=h1.out.size;have H3:=J4 b9 (h1.out.trans d9) b3 d9;clear b9 d9 b3;by_cases R:pi p c;·(
 obtain rfl:b=true:=by rw[hb];exact aw R
 have d7:=oH R;clear R hb;have j1:=oH (lf.keep (H3.2.2.2.all) (j0.out d7.out));have c0:=oH (I.2.1.trans H3.2.1);go_upto_region 4 with fail;rw[←H3.1];have b8:=I.2.2.1.kept H3.2.1 trivial;obtain⟨p0,p1,p2,p3,p4⟩:=b8.c5;obtain⟨q0,q1⟩:=H3.2.2.1.c2;clear b8;have k4:=c0.out.size;have j2:=oH (rm (fun b=>b<W3.heap.size) _ _ p (cg p c) W3 (bG.wide (fun b hb=>by have:=hS b hb;show b<_;omega) (HP.1 W3 c0.out)) (lf.wide (fun b (hb:w1.heap.size≤b∧b<w2.heap.size)=>by show b<_;omega) j1.out) (HP.2.2.2.2.1.keep c0.out) (fun _ h=>h));go_wp2_with fail;refine j2.out.mono ?_;rintro e w4 ⟨e0,R1,r1,s1,R2,r2,s2,mm,k5,n,rfl,C,c3⟩;clear p0 p1 p2 p3 p4 q0 q1;obtain⟨W5,c6⟩:=eQ (w4.alloc (.cells #[.slice R1 r1 s1,.slice R2 r2 s2,.int .i64 mm] 30));have c7:aa All w4 W5:=by rw[c6];exact kR.alloc _
 have b5:al W5 w4.heap.size 30 #[.slice R1 r1 s1,.slice R2 r2 s2,.int .i64 mm]:=by rw[c6];exact ac rfl
 have H5:=J5 c6 (H3.2.1.trans (e0.trans c7)) b5 c7 (e0.trans c7);clear c6 c7 b5 e0;by_cases hr:mx p (cg p c);·(
 obtain⟨rfl,e1⟩:=c3 hr;obtain⟨v1,v2,hv,b2,b4,b6⟩:=e1;iterate 2 injection hv with hv
 simp only[List.cons.injEq,Value.int.injEq,true_and,and_true] at hv;obtain⟨rfl,rfl,rfl⟩:=hv;have a7:=J4 hr (cr.keep H5.2.2.2.1.all b2) (cE.keep H5.2.2.2.1.all b4) b6;clear hr b2 b4 b6 C c3;have h2:=oH (I.2.1.trans H5.2.1);go_upto_region 7 with fail;rw[←H5.1];obtain⟨r0,r1,r2⟩:=H5.2.2.1.c3;have Y:=I.2.2.2.1.kept H5.2.1 trivial;obtain⟨k0,k1,k2⟩:=Y.c3;clear Y;obtain⟨M,hM⟩:=eR ((iu p (cg p c)).main);rw[hM] at r2;by_cases hm:M=c.main
 ·have tm:(M !=c.main)=false:=by simpa using hm
  have HM:=oH (hM.trans hm);clear hm hM;have HQ:=oH (xX _ _ _ _ _ c.Nk W5 a7.2.1 (HP.2.2.1 W5 h2.out));go_wp2_with fail;refine HQ.out.mono ?_;rintro e w6 ⟨rfl,e2⟩;have c4:=oH (H5.2.1.trans e2);have c5:=oH e2;clear e2;by_cases b0:(iu p (cg p c)).Nk=c.Nk
  ·rw[be b0];have j3:=oH b0;clear b0;clear r0 r1 r2 k0 k1 k2;have Y:=I.2.2.2.1.kept c4.out trivial;obtain⟨k0,k1,k2⟩:=Y.c3;have h3:=H5.2.2.1.kept c5.out trivial;obtain⟨r0,r1,r2⟩:=h3.c3;clear Y h3;skip;have j4:=oH (wC _ _ _ _ _ c.Nl w6 (cE.keep c5.out.all a7.2.2.1) (HP.2.2.2.1 w6 (I.2.1.trans c4.out)));go_wp2_with fail;refine j4.out.mono ?_;rintro e w7 ⟨rfl,e3⟩;have c8:=oH (c4.out.trans e3);have h4:=oH (c5.out.trans e3);clear e3;by_cases b1:(iu p (cg p c)).Nl.map eD=c.Nl.map eD;·rw[aw b1];have j5:=oH b1;clear b1;clear r0 r1 r2 k0 k1 k2;have h5:=(H3.2.2.1.kept (H5.2.2.2.2.trans h4.out) trivial);obtain⟨q0,q1⟩:=h5.c2;clear h5;have o:=I.2.2.2.2.kept c8.out trivial;obtain⟨x0,x1⟩:=o.c2;have f0:=o.free 0;have f1:=o.free 1;have j:=(o.set 0 (.slice B1 m1 d1)).set 1 (.slice B2 m2 d2);have g0:=j.cell 0;have g1:=j.cell 1;simp only[ga,gc] at g0 g1;have HE:=oH (aq ((((I.2.1.trans c8.out).all (S:=fun b=>b<w.heap.size)).setCell (p:=⟨w.heap.size+1+1,0,none⟩) (.inl (by show¬(w.heap.size+1+1<w.heap.size);omega)) (.slice B1 m1 d1)).setCell (p:=⟨w.heap.size+1+1,1,none⟩) (.inl (by show¬(w.heap.size+1+1<w.heap.size);omega)) (.slice B2 m2 d2)));clear o j;go_wp2_with fail;exact bodyPost_ret (v:=.tuple #[.agg #[.slice B1 m1 d1,.slice B2 m2 d2],.int .i64 0]) (by simp[results,Tryz.f32,go_sem,g0,g1]) rfl ⟨B1,m1,d1,B2,m2,d2,0,rfl,⟨fun _=>⟨i7.out,e9.1,e9.2,d7.out,a7.1.2.1,a7.1.2.2,HM.out,j3.out,j5.out⟩,fun _=>rfl⟩,HE.out⟩
   rw[az b1];have HN:=oH b1;clear b1 r0 r1 r2 k0 k1 k2;have C:=oH (show¬eN p c from fun h=>HN.out h.2.2.2.2.2.2.2.2);have o:=I.2.2.2.2.kept (c8.out) trivial;obtain⟨x0,x1⟩:=o.c2;have f0:=o.free 0;have f1:=o.free 1;have j:=(o.set 0 (.slice none 0 0)).set 1 (.slice none 0 0);have g0:=j.cell 0;have g1:=j.cell 1;simp only[ga,gc] at g0 g1;have HE:=oH (aq ((((I.2.1.trans (c8.out)).all (S:=fun b=>b<w.heap.size)).setCell (p:=⟨w.heap.size+1+1,0,none⟩) (.inl (by show¬(w.heap.size+1+1<w.heap.size);omega)) (.slice none 0 0)).setCell (p:=⟨w.heap.size+1+1,1,none⟩) (.inl (by show¬(w.heap.size+1+1<w.heap.size);omega)) (.slice none 0 0)));clear o j;go_wp2_with fail;exact bodyPost_ret (v:=.tuple #[.agg #[.slice none 0 0,.slice none 0 0],.int .i64 1]) (by simp[results,Tryz.f32,go_sem,g0,g1]) rfl ⟨none,0,0,none,0,0,1,rfl,⟨fun h=>absurd h (by decide),fun h=>absurd h C.out⟩,HE.out⟩
  rw[cN b0];have HN:=oH b0;clear b0 r0 r1 r2 k0 k1 k2 tm;have C:=oH (show¬eN p c from fun h=>HN.out h.2.2.2.2.2.2.2.1);have o:=I.2.2.2.2.kept (c4.out) trivial;obtain⟨x0,x1⟩:=o.c2;have f0:=o.free 0;have f1:=o.free 1;have j:=(o.set 0 (.slice none 0 0)).set 1 (.slice none 0 0);have g0:=j.cell 0;have g1:=j.cell 1;simp only[ga,gc] at g0 g1;have HE:=oH (aq ((((I.2.1.trans (c4.out)).all (S:=fun b=>b<w.heap.size)).setCell (p:=⟨w.heap.size+1+1,0,none⟩) (.inl (by show¬(w.heap.size+1+1<w.heap.size);omega)) (.slice none 0 0)).setCell (p:=⟨w.heap.size+1+1,1,none⟩) (.inl (by show¬(w.heap.size+1+1<w.heap.size);omega)) (.slice none 0 0)));clear o j;go_wp2_with fail;exact bodyPost_ret (v:=.tuple #[.agg #[.slice none 0 0,.slice none 0 0],.int .i64 1]) (by simp[results,Tryz.f32,go_sem,g0,g1]) rfl ⟨none,0,0,none,0,0,1,rfl,⟨fun h=>absurd h (by decide),fun h=>absurd h C.out⟩,HE.out⟩
 have tm:(M !=c.main)=true:=by simpa using hm
 have HN:=oH (show¬(iu p (cg p c)).main=c.main from fun h=>hm (hM▸h));clear hm hM;have C:=oH (show¬eN p c from fun h=>HN.out h.2.2.2.2.2.2.1);have o:=I.2.2.2.2.kept (H5.2.1) trivial;obtain⟨x0,x1⟩:=o.c2;have f0:=o.free 0;have f1:=o.free 1;have j:=(o.set 0 (.slice none 0 0)).set 1 (.slice none 0 0);have g0:=j.cell 0;have g1:=j.cell 1;simp only[ga,gc] at g0 g1;have HE:=oH (aq ((((I.2.1.trans (H5.2.1)).all (S:=fun b=>b<w.heap.size)).setCell (p:=⟨w.heap.size+1+1,0,none⟩) (.inl (by show¬(w.heap.size+1+1<w.heap.size);omega)) (.slice none 0 0)).setCell (p:=⟨w.heap.size+1+1,1,none⟩) (.inl (by show¬(w.heap.size+1+1<w.heap.size);omega)) (.slice none 0 0)));clear o j;go_wp2_with fail;exact bodyPost_ret (v:=.tuple #[.agg #[.slice none 0 0,.slice none 0 0],.int .i64 1]) (by simp[results,Tryz.f32,go_sem,g0,g1]) rfl ⟨none,0,0,none,0,0,1,rfl,⟨fun h=>absurd h (by decide),fun h=>absurd h C.out⟩,HE.out⟩)
 have hn:=C hr;have tn:(n !=0)=true:=by simpa using hn
 have HN:=oH hr;clear hr hn C c3;go_upto_region 7 with fail;rw[←H5.1];have C:=oH (show¬eN p c from fun h=>HN.out ⟨h.1,h.2.2.2.2.1,h.2.2.2.2.2.1⟩);have o:=I.2.2.2.2.kept (H5.2.1) trivial;obtain⟨x0,x1⟩:=o.c2;have f0:=o.free 0;have f1:=o.free 1;have j:=(o.set 0 (.slice none 0 0)).set 1 (.slice none 0 0);have g0:=j.cell 0;have g1:=j.cell 1;simp only[ga,gc] at g0 g1;have HE:=oH (aq ((((I.2.1.trans (H5.2.1)).all (S:=fun b=>b<w.heap.size)).setCell (p:=⟨w.heap.size+1+1,0,none⟩) (.inl (by show¬(w.heap.size+1+1<w.heap.size);omega)) (.slice none 0 0)).setCell (p:=⟨w.heap.size+1+1,1,none⟩) (.inl (by show¬(w.heap.size+1+1<w.heap.size);omega)) (.slice none 0 0)));clear o j;go_wp2_with fail;exact bodyPost_ret (v:=.tuple #[.agg #[.slice none 0 0,.slice none 0 0],.int .i64 1]) (by simp[results,Tryz.f32,go_sem,g0,g1]) rfl ⟨none,0,0,none,0,0,1,rfl,⟨fun h=>absurd h (by decide),fun h=>absurd h C.out⟩,HE.out⟩)
 obtain rfl:b=false:=by rw[hb];exact az R
 have HN:=oH R;clear R hb;go_upto_region 4 with fail;rw[←H3.1];have C:=oH (show¬eN p c from fun h=>HN.out h.2.2.2.1);have o:=I.2.2.2.2.kept (H3.2.1) trivial;obtain⟨x0,x1⟩:=o.c2;have f0:=o.free 0;have f1:=o.free 1;have j:=(o.set 0 (.slice none 0 0)).set 1 (.slice none 0 0);have g0:=j.cell 0;have g1:=j.cell 1;simp only[ga,gc] at g0 g1;have HE:=oH (aq ((((I.2.1.trans (H3.2.1)).all (S:=fun b=>b<w.heap.size)).setCell (p:=⟨w.heap.size+1+1,0,none⟩) (.inl (by show¬(w.heap.size+1+1<w.heap.size);omega)) (.slice none 0 0)).setCell (p:=⟨w.heap.size+1+1,1,none⟩) (.inl (by show¬(w.heap.size+1+1<w.heap.size);omega)) (.slice none 0 0)));clear o j;go_wp2_with fail;exact bodyPost_ret (v:=.tuple #[.agg #[.slice none 0 0,.slice none 0 0],.int .i64 1]) (by simp[results,Tryz.f32,go_sem,g0,g1]) rfl ⟨none,0,0,none,0,0,1,rfl,⟨fun h=>absurd h (by decide),fun h=>absurd h C.out⟩,HE.out⟩)
 have t2:decide ((16:Int)<(c.Nk.length:Int))=true:=by simp;omega
 have HN:=oH ha;clear ha;have C:=oH (show¬eN p c from fun h=>HN.out h.2.2.1);have o:=I.2.2.2.2.kept (J.out) trivial;obtain⟨x0,x1⟩:=o.c2;have f0:=o.free 0;have f1:=o.free 1;have j:=(o.set 0 (.slice none 0 0)).set 1 (.slice none 0 0);have g0:=j.cell 0;have g1:=j.cell 1;simp only[ga,gc] at g0 g1;have HE:=oH (aq ((((I.2.1.trans (J.out)).all (S:=fun b=>b<w.heap.size)).setCell (p:=⟨w.heap.size+1+1,0,none⟩) (.inl (by show¬(w.heap.size+1+1<w.heap.size);omega)) (.slice none 0 0)).setCell (p:=⟨w.heap.size+1+1,1,none⟩) (.inl (by show¬(w.heap.size+1+1<w.heap.size);omega)) (.slice none 0 0)));clear o j;go_wp2_with fail;exact bodyPost_ret (v:=.tuple #[.agg #[.slice none 0 0,.slice none 0 0],.int .i64 1]) (by simp[results,Tryz.f32,go_sem,g0,g1]) rfl ⟨none,0,0,none,0,0,1,rfl,⟨fun h=>absurd h (by decide),fun h=>absurd h C.out⟩,HE.out⟩)
 have t1:decide ((64:Int)<(c.Nl.length:Int))=true:=by simp;omega
 have HN:=oH hf;clear hf;have C:=oH (show¬eN p c from fun h=>HN.out h.2.1);have o:=I.2.2.2.2.kept (J.out) trivial;obtain⟨x0,x1⟩:=o.c2;have f0:=o.free 0;have f1:=o.free 1;have j:=(o.set 0 (.slice none 0 0)).set 1 (.slice none 0 0);have g0:=j.cell 0;have g1:=j.cell 1;simp only[ga,gc] at g0 g1;have HE:=oH (aq ((((I.2.1.trans (J.out)).all (S:=fun b=>b<w.heap.size)).setCell (p:=⟨w.heap.size+1+1,0,none⟩) (.inl (by show¬(w.heap.size+1+1<w.heap.size);omega)) (.slice none 0 0)).setCell (p:=⟨w.heap.size+1+1,1,none⟩) (.inl (by show¬(w.heap.size+1+1<w.heap.size);omega)) (.slice none 0 0)));clear o j;go_wp2_with fail;exact bodyPost_ret (v:=.tuple #[.agg #[.slice none 0 0,.slice none 0 0],.int .i64 1]) (by simp[results,Tryz.f32,go_sem,g0,g1]) rfl ⟨none,0,0,none,0,0,1,rfl,⟨fun h=>absurd h (by decide),fun h=>absurd h C.out⟩,HE.out⟩)
 rw[az a8] at HR;have HN:=oH a8;clear a8;go_wp2_with fail;refine HR.out.mono ?_;rintro e w1 ⟨rfl,b7⟩;have J:=oH b7;clear b7 p0 p1 p2 p3 p4 k0 k1 k2;have C:=oH (show¬eN p c from fun h=>HN.out h.1);have o:=I.2.2.2.2.kept (J.out) trivial;obtain⟨x0,x1⟩:=o.c2;have f0:=o.free 0;have f1:=o.free 1;have j:=(o.set 0 (.slice none 0 0)).set 1 (.slice none 0 0);have g0:=j.cell 0;have g1:=j.cell 1;simp only[ga,gc] at g0 g1;have HE:=oH (aq ((((I.2.1.trans (J.out)).all (S:=fun b=>b<w.heap.size)).setCell (p:=⟨w.heap.size+1+1,0,none⟩) (.inl (by show¬(w.heap.size+1+1<w.heap.size);omega)) (.slice none 0 0)).setCell (p:=⟨w.heap.size+1+1,1,none⟩) (.inl (by show¬(w.heap.size+1+1<w.heap.size);omega)) (.slice none 0 0)));clear o j;go_wp2_with fail;exact bodyPost_ret (v:=.tuple #[.agg #[.slice none 0 0,.slice none 0 0],.int .i64 1]) (by simp[results,Tryz.f32,go_sem,g0,g1]) rfl ⟨none,0,0,none,0,0,1,rfl,⟨fun h=>absurd h (by decide),fun h=>absurd h C.out⟩,HE.out⟩
theorem Am (S:Nat→Prop)(pv cv:Value)(p:aI)(c:aU)(w:World)(hp:gR S w pv p)(hc:mu S w cv c)(hl:cP w)(hS:∀b,S b→b<w.heap.size)(a7:jU p)(hz:iH c):
 Calls prog 20 #[pv,cv] w fun e w'=>e=.returned (.bool (pB (eN p c)))∧aa All w w':=by
 have J:=bG.la hp;have R:=fJ.la hc;obtain⟨b8,vu,vi,vo,rfl,a8,b0,b1,b2,b3⟩:=hp;obtain⟨a1,n1,rfl,_⟩:=a8;obtain⟨a2,n2,rfl,_⟩:=b0;obtain⟨a3,n3,rfl,_⟩:=b1;obtain⟨a4,n4,rfl,_⟩:=b2;obtain⟨ka,kf,rfl,b4,b5,b6⟩:=hc;obtain⟨A1,c1,rfl,_⟩:=b4;obtain⟨A2,c2,rfl,_⟩:=b5;obtain⟨I,C⟩:=eQ ((w.alloc (.cells #[.slice a1 p.Ng.length n1,.slice a2 p.up.length n2,.slice a3 p.Ni.length n3,.slice a4 p.Nh.length n4,.int .i64 p.Nj] 26)).alloc (.cells #[.slice A1 c.Nk.length c1,.slice A2 c.Nl.length c2,.int .i64 c.main] 30));have j:aa All w I:=by rw[C];exact(kR.alloc _).alloc _
 have b7:=j.size;have o:=Al S _ _ p c I (J I j) (R I j) (hl.keep j) (fun b hb=>by have:=hS b hb;omega) a7 hz;have Y:=J3 o j C;clear J R b3 b6 j C o b7 hl hS;go_enter func20,ntmps20;go_upto_region 1 with fail;rw[←Y.2.2];have bP:al I w.heap.size 26 #[.slice a1 p.Ng.length n1,.slice a2 p.up.length n2,.slice a3 p.Ni.length n3,.slice a4 p.Nh.length n4,.int .i64 p.Nj]:=by rw[Y.2.2];exact(al.new _ _ _).alloc _
 have bK:al I (w.heap.size+1) 30 #[.slice A1 c.Nk.length c1,.slice A2 c.Nl.length c2,.int .i64 c.main]:=by rw[Y.2.2];exact ac (by simp)
 obtain⟨p0,p1,p2,p3,p4⟩:=bP.c5;obtain⟨k0,k1,k2⟩:=bK.c3;clear bP bK;go_wp2_with fail;refine Y.1.mono ?_;rintro e w1 ⟨B1,m1,d1,B2,m2,d2,n,rfl,hn,a6⟩;have HN:=J2 (Y.2.1.trans a6) (show decide (n=0)=pB (eN p c) by
  by_cases h:n=0;·rw[be h,aw (hn.1 h)]
  rw[cN h,az fun h'=>h (hn.2 h')])
 clear hn a6;go_wp2_with fail;go_ret;exact⟨by rw[←HN.2]<;>rfl,HN.1.alloc _⟩
section
attribute [local go_sem] Lu Lv lY wD pz
end
section
attribute [local go_sem] ko pZ uy iD ni nq nj nk Kl lY rq nl wD pz
attribute [local go_sem] ny jo gj kP List.getElem?_toArray List.getElem?_cons_zero
end

section
theorem JR (n:Nat)(h:n<256):IntKind.u8.wrap (n:Int)=n:=by simp[IntKind.wrap,IntKind.bits,IntKind.signed];omega
section
variable {P:Program} {w:World} (t:TypeId) (x:UInt8)
theorem wm (m:Nat)(hm:m<256):(binOp .and t (.int .u8 (x.toNat:Int)) (.int .u8 (m:Int))).run P w=.ok (.int .u8 ((x.toNat&&&m:Nat):Int)) w:=by
 show Result.ok (Value.int .u8 (IntKind.u8.wrap ((BitVec.ofInt 8 (x.toNat:Int)&&&BitVec.ofInt 8 (m:Int)).toNat:Int))) w=_;have j:=x.toNat_lt;have e:(BitVec.ofInt 8 (x.toNat:Int)&&&BitVec.ofInt 8 (m:Int)).toNat=x.toNat&&&m:=by rw[BitVec.toNat_and,BitVec.toNat_ofInt,BitVec.toNat_ofInt];congr 1<;>omega
 rw[e,JR _ (Nat.lt_of_le_of_lt Nat.and_le_left j)]
theorem JZ:(binOp .and t (.int .u8 (x.toNat:Int)) (.int .u8 31)).run P w=.ok (.int .u8 ((x.toNat%32:Nat):Int)) w:=by rw[←Nat.and_two_pow_sub_one_eq_mod x.toNat 5];exact wm t x 31 (by decide)
theorem Ka:(binOp .and t (.int .u8 (x.toNat:Int)) (.int .u8 63)).run P w=.ok (.int .u8 ((x.toNat%64:Nat):Int)) w:=by rw[←Nat.and_two_pow_sub_one_eq_mod x.toNat 6];exact wm t x 63 (by decide)
theorem JY:(binOp .and t (.int .u8 (x.toNat:Int)) (.int .u8 15)).run P w=.ok (.int .u8 ((x.toNat%16:Nat):Int)) w:=by rw[←Nat.and_two_pow_sub_one_eq_mod x.toNat 4];exact wm t x 15 (by decide)
theorem LQ:(binOp .and t (.int .u8 (x.toNat:Int)) (.int .u8 7)).run P w=.ok (.int .u8 ((x.toNat%8:Nat):Int)) w:=by rw[←Nat.and_two_pow_sub_one_eq_mod x.toNat 3];exact wm t x 7 (by decide)
end
attribute [local go_sem] JZ Ka JY LQ
end
section
attribute [local go_sem] JZ Ka JY LQ
end






def JW (s:ByteArray):Prop:=s.size≤140737488355328
def JS (l:List (ByteArray×Int)):Prop:=∀x∈l,JW x.1
structure LL (p:aI):Prop where
 Ng:∀s∈p.Ng,JW s
 Ni:JS p.Ni
 Nh:JS p.Nh
def EN (p:aI)(c:aU)(b:av)(next:Int)(x:bI)(w:World)(e:Ending)(w':World):Prop:=∃(n:Int) (ok:Bool),e=.returned (.tuple #[.int .i64 n,.bool ok])∧ok=pB (ul p c b next x)∧(ul p c b next x→n=if cD x=true then next+1 else next)∧aa All w w'
theorem EN.no {p:aI}{c:aU}{b:av}{next:Int}{x:bI}{w j:World}{n:Int}(h:¬ul p c b next x)(o:aa All w j):EN p c b next x w (.returned (.tuple #[.int .i64 n,.bool false])) j:=
 ⟨n,false,rfl,(az h).symm,fun h'=>absurd h' h,o⟩



def EB (p:aI)(c:aU)(b:av):Prop:=ox p c b∧∀l∈b.Nm,l.length≤4096
def xr (p:aI)(c:aU)(b:av)(w:World)(e:Ending)(w':World):Prop:=∃(n:Int) (ok:Bool),e=.returned (.tuple #[.int .i64 n,.bool ok])∧ok=pB (EB p c b)∧(EB p c b→n=nA b)∧(0≤n∧n≤1000000)∧aa All w w'
theorem xr.no {p:aI}{c:aU}{b:av}{w j:World}(h:¬EB p c b)(o:aa All w j):xr p c b w (.returned (.tuple #[.int .i64 0,.bool false])) j:=
 ⟨0,false,rfl,(az h).symm,fun h'=>absurd h' h,by omega,o⟩

section
open Classical in
noncomputable def kV (p:aI)(c:aU):Int×Int×Int:=if eT p c then mi c.Nl 0 else(0,0,1)
theorem BF {p:aI}{c:aU}(h:¬eT p c):kV p c=(0,0,1):=by unfold kV;rw[ah h]
theorem kW {p:aI}{c:aU}(h:eT p c):kV p c=mi c.Nl 0:=by unfold kV;rw[am h]
theorem zK {l:List av}{i:Nat}:(mi l i).2.2=0↔∀b∈l,(oK b).2=0:=by
 constructor;·(
 intro h;induction l generalizing i with
 |nil=>intro b j;cases j
 |cons a l C=>
  intro b j;rw[mi] at h;by_cases o:(oK a).2≠0;·rw[am o] at h;exact absurd h o
  rw[ah o] at h;rcases fV.1 j with rfl|j;·exact Decidable.not_not.1 o
  exact C h b j)
 intro h;rw[oD h]
theorem CF {p:aI}{c:aU}:(kV p c).2.2=0↔eT p c∧Bx c:=by
 by_cases h:eT p c;·rw[kW h,zK];exact⟨fun h'=>⟨h,h'⟩,fun h'=>h'.2⟩
 rw[BF h];exact⟨fun h'=>absurd h' (by decide),fun h'=>absurd h'.1 h⟩
def rB (p:aI)(c:aU)(w:World)(e:Ending)(w':World):Prop:=e=.returned (.tuple #[.int .i64 (kV p c).1,.int .i64 (kV p c).2.1,.int .i64 (kV p c).2.2])∧aa All w w'
theorem rB.of {p:aI}{c:aU}{w j:World}{x y z:Int}(h:kV p c=(x,y,z))(o:aa All w j):rB p c w (.returned (.tuple #[.int .i64 x,.int .i64 y,.int .i64 z])) j:=⟨by rw[h],o⟩
end
theorem xY {f:Nat→Nat→bI→Int}{L:List (List bI)}(h:(lH f L).2=0):∀(i:Nat) l,L[i]? =some l→∀(k:Nat) x,l[k]? =some x→f i k x=0:=by
 intro i l o k x C;unfold lH at h;cases j:((L.mapIdx fun i l=>l.mapIdx fun k x=>(x.Np,f i k x)).flatten.find? fun t=>decide (t.2≠0)) with
 |some t=>rw[j] at h;have:=List.find?_some j;have I:t.2=0:=h;simp[I] at this
 |none=>have J:=List.find?_eq_none.1 j (x.Np,f i k x) (List.mem_flatten.2 ⟨l.mapIdx fun k x=>(x.Np,f i k x),fB.2 ⟨i,by rw[jz,o];rfl⟩,fB.2 ⟨k,by rw[jz,C];rfl⟩⟩);simpa using J
structure xx (b:av):Prop where
 lost:∀k,¬kJ (aM b) k
 stuck:∀k,¬iK (aM b) k
 first:¬∃i,fd (aM b) i 0
 ops:∀(i:Nat) l,b.Nm[i]? =some l→∀(k:Nat) x,l[k]? =some x→uj b i k x=0
theorem yp {P:Nat→Prop}{n:Nat}(h:¬0≤cz P n)(I:∀k,P k→k<n):∀k,¬P k:=by
 intro k o;rcases ji P n with ⟨_,C⟩|⟨j,C,_⟩;·exact C k (I k o) o
 omega
theorem Hc {b:av}(h:(oK b).2=0):xx b:=by
 have o:(aM b).length=b.Nm.length:=by simp[aM]
 unfold oK at h;split at h;·exact absurd h (by simp)
 rename_i C;split at h;·exact absurd h (by simp)
 rename_i I;split at h;·exact absurd h (by simp)
 rename_i J;exact⟨yp C fun k j=>by rw[←o];exact j.1,yp I fun k j=>by rw[←o];exact j.1,J,xY h⟩
theorem xx.use {b:av}(h:xx b){i k:Nat}{l:List bI}{x:bI}(j:b.Nm[i]? =some l)(o:l[k]? =some x)(C:x.kind≠3):∀v∈x.args,ky b v i k:=by
 have:=h.ops i l j k x o;unfold uj at this;rw[ah C] at this;split at this;·assumption
 cases this
theorem xx.phi {b:av}(h:xx b){i k:Nat}{l:List bI}{x:bI}(j:b.Nm[i]? =some l)(o:l[k]? =some x)(C:x.kind=3):iZ b x i∧∀(m:Nat) v f,x.args[m]? =some v→x.Nn[m]? =some f→ju b v f.toNat:=by
 have:=h.ops i l j k x o;unfold uj at this;rw[am C] at this;split at this
 ·split at this
  ·exact⟨by assumption,by assumption⟩
  cases this
 cases this
def Bs (th:List Bool)(v:Int):Prop:=0≤v→th[v.toNat]? =some true
def Bk (b:av)(th:List Bool)(i:Nat):Prop:=∀v k,mv b v i k→Bs th v
structure MI (b:av)(th:List Bool)(blk:Nat)(from':Int):Prop where
 len:(th.length:Int)=b.vars
 par:∀v:Int,v<b.params→Bs th v
 here:∀i,¬iJ (fd (aM b)) i blk→i=blk∨Bk b th i
 back:from'= -1∨∃f:Nat,from'=f∧∀i,¬iJ (fd (aM b)) i f→Bk b th i
def qS (th th':List Bool):Prop:=th'.length=th.length∧∀i:Nat,th[i]? =some true→th'[i]? =some true
theorem qS.refl (th:List Bool):qS th th:=⟨rfl,fun _ h=>h⟩
theorem qS.trans {a b c:List Bool}(h:qS a b)(h':qS b c):qS a c:=⟨h'.1.trans h.1,fun i hi=>h'.2 i (h.2 i hi)⟩
theorem qS.set (th:List Bool)(n:Nat):qS th (th.set n true):=⟨by simp,fun i hi=>by
 rw[List.getElem?_set];split
 ·split;·rfl
  rename_i j o;subst j;rw[kS (by omega)] at hi;cases hi
 exact hi⟩
theorem Bs.more {th j:List Bool}{v:Int}(h:Bs th v)(hm:qS th j):Bs j v:=fun o=>hm.2 _ (h o)
theorem MI.more {b:av}{th j:List Bool}{blk:Nat}{f:Int}(h:MI b th blk f)(hm:qS th j):MI b j blk f:=
 ⟨by rw[hm.1];exact h.len,fun v C=>(h.par v C).more hm,fun i hi=>(h.here i hi).imp id fun h' v k o=>(h' v k o).more hm,h.back.imp id fun⟨f,e,h'⟩=>⟨f,e,fun i hi v k o=>(h' i hi v k o).more hm⟩⟩
def Nq (th:List Bool)(l:List bI)(n:Nat):Prop:=∀(k:Nat) x,k<n→l[k]? =some x→(x.kind≠3∨∀y,l[n]? =some y→y.kind≠3)→Bs th x.dst
theorem Nu (th:List Bool)(l:List bI):Nq th l 0:=fun k x h=>by omega
theorem Nq.more {th j:List Bool}{l:List bI}{n:Nat}(h:Nq th l n)(hm:qS th j):Nq j l n:=fun k x o C I=>(h k x o C I).more hm
theorem Ny {b:av}{th:List Bool}{blk n:Nat}{f:Int}{l:List bI}{x:bI}{v:Int}(Y:xx b)(j:MI b th blk f)(hP:Nq th l n)(o:b.Nm[blk]? =some l)(C:l[n]? =some x)(I:x.kind≠3)(hv:v∈x.args):Bs th v:=by
 rcases Y.use o C I v hv with h|⟨i,k,J,hi⟩;·exact j.par v h
 split at hi;·rename_i e;subst e;obtain⟨m,y,hm,hy,rfl⟩:=J;rw[o] at hm;cases hm;exact hP k y hi hy (.inr fun z R=>by rw[C] at R;cases R;exact I)
 rename_i e;rcases j.here i hi with h|h;·exact absurd h e
 exact h v k J
theorem Nx {b:av}{th:List Bool}{blk n m:Nat}{f:Int}{l:List bI}{x:bI}{v:Int}(o:xx b)(j:MI b th blk f)(C:b.Nm[blk]? =some l)(I:l[n]? =some x)(J:x.kind=3)(R:x.args[m]? =some v)(Y:x.Nn[m]? =some f)(h0:0≤f):Bs th v:=by
 rcases j.back with rfl|⟨g,rfl,hb⟩;·omega
 rcases (o.phi C I J).2 m v g R Y with h|⟨i,k,hd,hi⟩;·exact j.par v h
 exact hb i hi v k hd
theorem Nt {th j:List Bool}{l:List bI}{n:Nat}{x:bI}(J:Nq th l n)(hm:qS th j)(C:l[n]? =some x)(R:x.kind≠3)(Y:Bs j x.dst):Nq j l (n+1):=by
 intro k y hk o _;by_cases e:k=n;·subst e;rw[C] at o;cases o;exact Y
 exact(J k y (by omega) o (.inr fun z I=>by rw[C] at I;cases I;exact R)).more hm
theorem Nw {th:List Bool}{l:List bI}{n:Nat}{x y:bI}(I:Nq th l n)(J:l[n]? =some x)(R:x.kind=3)(Y:l[n+1]? =some y)(j:y.kind=3):Nq th l (n+1):=by
 intro k z hk o C;rcases C with h|h
 ·by_cases e:k=n
  ·subst e;rw[J] at o;cases o;exact absurd R h
  exact I k z (by omega) o (.inl h)
 exact absurd j (h y Y)
theorem Ns {j:List Bool}{l:List bI}{n:Nat}(o:∀(k:Nat) x,k<n+1→l[k]? =some x→Bs j x.dst):Nq j l (n+1):=fun k x C I _=>o k x C I
theorem Nv {b:av}{th:List Bool}{blk o:Nat}{f:Int}{l:List bI}(C:MI b th blk f)(R:Nq th l l.length)(Y:b.Nm[blk]? =some l)(hA:fd (aM b) blk o):MI b th o blk:=by
 have hd:Bk b th blk:=fun v k ⟨m,x,hm,I,e⟩=>by rw[Y] at hm;cases hm;rw[←e];exact R k x (lS.1 I).1 I (.inr fun y J=>by rw[kS (by omega)] at J;cases J)
 have j:∀i,¬iJ (fd (aM b)) i blk→Bk b th i:=fun i hi=>by
  rcases C.here i hi with rfl|h;·exact hd
  exact h
 refine⟨C.len,C.par,fun i hi=>?_,.inr ⟨blk,rfl,j⟩⟩;by_cases e:i=o;·exact .inl e
 exact .inr (j i fun hr=>hi (hr.step hA (Ne.symm e)))
theorem Nr {b:av}{th:List Bool}(j:(th.length:Int)=b.vars)(o:∀v:Int,v<b.params→Bs th v):MI b th 0 (-1):=by
 refine⟨j,o,fun i hi=>?_,.inl rfl⟩;by_cases e:i=0;·exact .inl e
 exact absurd (iJ.zero e) hi
section
def we (ll:List (List Int))(a b:Nat):Bool:=(ll.getD a []).any fun t=>decide (t=(b:Int))
theorem ir {ll:List (List Int)}{a b:Nat}:we ll a b=true↔fd ll a b:=by
 unfold we fd;rw[iL];cases h:ll[a]? with
 |none=>simp
 |some row=>simp
def yj (ll:List (List Int))(x:Int):Nat→List Nat→List Nat
 |0,S=>S
 |n+1,S=>yj ll x n (S++(List.range ll.length).filter fun(b:Nat)=>decide ((b:Int)≠x)&&!S.contains b&&S.any fun a=>we ll a b)
def nC (ll:List (List Int))(x:Int)(S:List Nat):Bool:=S.all fun a=>(List.range ll.length).all fun(b:Nat)=>!we ll a b||decide ((b:Int)=x)||S.contains b
theorem mN {ll:List (List Int)}{x:Int}{P:Nat→Prop}(C:∀a b,P a→fd ll a b→(b:Int)≠x→P b):∀(n:Nat) (S:List Nat),(∀a∈S,P a)→∀a∈yj ll x n S,P a
 |0,_,h=>h
 |n+1,S,h=>mN C n _ fun b j=>by(
 rcases dV.1 j with j|j;·exact h b j
 have I:=(List.mem_filter.1 j).2;simp only[dX,od,eq] at I;obtain⟨⟨J,_⟩,a,R,o⟩:=I;exact C a b (h a R) (ir.1 o) J)
theorem oM {ll:List (List Int)}{x:Int}:∀(n:Nat) (S:List Nat) {a:Nat},a∈S→a∈yj ll x n S
 |0,_,_,h=>h
 |n+1,_,_,h=>oM n _ (dV.2 (.inl h))
def tF (ll:List (List Int))(a:Nat):List Nat:=yj ll (-1) ll.length [a]
def LB (ll:List (List Int))(x:Nat):List Nat:=yj ll x ll.length (if x=0 then [] else [0])
def kG (ll:List (List Int)):Bool:=ll.all (fun row=>row.all fun t=>decide (0≤t∧t<ll.length))&&(List.range ll.length).all fun a=>nC ll (-1) (tF ll a)&&nC ll a (LB ll a)
section
variable {ll:List (List Int)} (hw:kG ll=true)
include hw
theorem Ht {a b:Nat}(h:fd ll a b):b<ll.length:=by obtain⟨row,j,o⟩:=h;unfold kG at hw;simp only[dX,List.all_eq_true,eq] at hw;have:=hw.1 row (mG j) _ o;omega
theorem qW {x:Int}{S:List Nat}(o:nC ll x S=true){a b:Nat}(C:a∈S)(h:fd ll a b)(I:(b:Int)≠x):b∈S:=by
 unfold nC at o;simp only[List.all_eq_true,Bool.or_eq_true,Bool.not_eq_true',eq,List.contains_iff_mem] at o;rcases o a C b (dW.2 (Ht hw h)) with (j|j)|j;·rw[ir.2 h] at j;cases j
 ·exact absurd j I
 exact j
theorem oS {a k:Nat}(o:a<ll.length):k∈tF ll a↔bm ll a k:=by
 have C:nC ll (-1) (tF ll a)=true:=by have h:=hw;unfold kG at h;simp only[dX,List.all_eq_true] at h;exact(h.2 a (dW.2 o)).1
 constructor;·exact mN (P:=bm ll a) (fun _ _ I j _=>I.step j) _ _ (fun b J=>by rw[ce.1 J];exact .refl) k
 intro h;induction h with
 |refl=>exact oM _ _ (ce.2 rfl)
 |step _ j R=>exact qW hw C R j (by omega)
theorem Iv {x k:Nat}(C:x<ll.length):k∈LB ll x↔iJ (fd ll) x k:=by
 have I:nC ll x (LB ll x)=true:=by have h:=hw;unfold kG at h;simp only[dX,List.all_eq_true] at h;exact(h.2 x (dW.2 C)).2
 constructor
 ·refine mN (P:=iJ (fd ll) x) (fun _ _ J j R=>J.step j (by omega)) _ _ (fun b o=>?_) k
  split at o;·cases o
  rename_i h;rw[ce.1 o];exact .zero h
 intro h;induction h with
 |zero h=>exact oM _ _ (by rw[ah h];exact ce.2 rfl)
 |step _ j R Y=>exact qW hw I Y j (by omega)
end
def jc (p:Nat→Bool)(n:Nat):Int:=match (List.range n).find? p with|some k=>k|none=> -1
theorem sK {P:Nat→Prop}{p:Nat→Bool}{n:Nat}(h:∀k,k<n→(p k=true↔P k)):cz P n=jc p n:=by
 rcases ji P n with ⟨o,J⟩|⟨k,o,j,C,hm⟩;·rw[o];unfold jc;rw[List.find?_eq_none.2 fun k j=>by have:=dW.1 j;exact fun C=>J k this ((h k this).1 C)]
 rw[o];unfold jc;rw[ng (show(List.range n)[k]? =some k by rw[nZ j]),sy]
 ·intro y I;rw[List.take_range] at I;have:=dW.1 I;cases R:p y with
  |false=>rfl
  |true=>exact absurd ((h y (by omega)).1 R) (hm y (by omega))
 exact(h k j).2 C
def rE (b:av)(v:Int)(q:Nat→Nat→Bool):Bool:=(List.range b.Nm.length).any fun i=>(List.range (b.Nm.getD i []).length).any fun k=>decide (((b.Nm.getD i []).getD k Jv).dst=v)&&q i k
theorem qY {b:av}{v:Int}{q:Nat→Nat→Bool}{Q:Nat→Nat→Prop}(h:∀i k,i<b.Nm.length→(q i k=true↔Q i k)):rE b v q=true↔∃i k,mv b v i k∧Q i k:=by
 unfold rE;simp only[od,dW,dX,eq];constructor
 ·rintro⟨i,hi,k,o,j,C⟩;have e:b.Nm.getD i []=b.Nm[i]:=by rw[iL,lG hi];rfl
  rw[e] at o j;have R:b.Nm[i].getD k Jv=b.Nm[i][k]:=by rw[iL,lG o];rfl
  rw[R] at j;exact⟨i,k,⟨_,_,lG hi,lG o,j⟩,(h i k hi).1 C⟩
 rintro⟨i,k,⟨l,x,I,J,j⟩,C⟩;have hi:=(lS.1 I).1;have e:b.Nm.getD i []=l:=by rw[iL,I];rfl
 refine⟨i,hi,k,by rw[e];exact(lS.1 J).1,?_,(h i k hi).2 C⟩;rw[e,iL,J];exact j
def Fx (b:av)(v:Int)(blk:Nat):Bool:=decide (v<b.params)||rE b v fun i _=>!(LB (aM b) i).contains blk
def Bb (b:av)(v:Int)(blk at':Nat):Bool:=decide (v<b.params)||rE b v fun i k=>if i=blk then decide (k<at') else !(LB (aM b) i).contains blk
theorem EX {b:av}(hw:kG (aM b)=true){i blk:Nat}(hi:i<b.Nm.length):(!(LB (aM b) i).contains blk)=true↔¬iJ (fd (aM b)) i blk:=by rw[←Iv hw (by rw[cB];exact hi),←List.contains_iff_mem];simp
theorem uR {b:av}(hw:kG (aM b)=true){v:Int}{blk:Nat}:Fx b v blk=true↔ju b v blk:=by unfold Fx ju;rw[Bool.or_eq_true,eq,qY fun i k hi=>EX hw hi]
theorem tQ {b:av}(hw:kG (aM b)=true){v:Int}{blk n:Nat}:Bb b v blk n=true↔ky b v blk n:=by
 unfold Bb ky;rw[Bool.or_eq_true,eq,qY (Q:=fun i k=>if i=blk then k<n else¬iJ (fd (aM b)) i blk) fun i k hi=>?_];split;·rw[eq]
 exact EX hw hi
def Ax (b:av)(x:bI)(blk:Nat):Bool:=decide x.Nn.Nodup&&x.Nn.all (fun a=>decide (0≤a)&&we (aM b) a.toNat blk)&&(List.range b.Nm.length).all fun i=>!we (aM b) i blk||decide ((i:Int)∈x.Nn)
theorem Ay {b:av}{x:bI}{blk:Nat}:Ax b x blk=true↔iZ b x blk:=by
 unfold Ax iZ;simp only[dX,List.all_eq_true,eq,Bool.or_eq_true,Bool.not_eq_true',dW];constructor;·(
 rintro⟨⟨o,j⟩,J⟩;refine⟨o,fun a=>⟨fun C=>?_,?_⟩⟩
 ·obtain⟨h4,R⟩:=j a C
  exact⟨a.toNat,by omega,ir.1 R⟩
 rintro⟨i,rfl,hi⟩;have I:i<b.Nm.length:=by obtain⟨row,Y,_⟩:=hi;have:=(lS.1 Y).1;rw[cB] at this;exact this
 rcases J i I with h|h;·rw[ir.2 hi] at h;cases h
 exact h)
 rintro⟨o,j⟩;refine⟨⟨o,fun a C=>?_⟩,fun i _=>?_⟩
 ·obtain⟨i,rfl,hi⟩:=(j a).1 C
  exact⟨by omega,ir.2 hi⟩
 cases hb:we (aM b) i blk with
 |false=>exact .inl rfl
 |true=>exact .inr ((j i).2 ⟨i,rfl,ir.1 hb⟩)
def Jy (b:av)(i k:Nat)(x:bI):Int:=
 if x.kind=3 then(if Ax b x i=true then(if(x.args.zip x.Nn).all (fun t=>Fx b t.1 t.2.toNat)=true then 0 else 19) else 18)
 else if x.args.all (fun v=>Bb b v i k)=true then 0 else 19
theorem Da {α:Type}{p q:Prop}{J:Decidable p}{R:Decidable q}{x y z t:α}(h:p↔q)(o:x=y)(C:z=t):(if p then x else z)=if q then y else t:=by
 subst o;subst C;by_cases j:q;·rw[am j,am (h.2 j)]
 rw[ah j,ah fun I=>j (h.1 I)]
theorem Jz {b:av}(hw:kG (aM b)=true)(i k:Nat)(x:bI):uj b i k x=Jy b i k x:=by
 unfold uj Jy;by_cases j:x.kind=3
 ·rw[am j,am j];refine Da Ay.symm (Da ?_ rfl rfl) rfl;rw[List.all_eq_true];constructor
  ·rintro h ⟨v,f⟩ J
   obtain⟨m,hm⟩:=fB.1 J;obtain⟨o,C⟩:=List.getElem?_zip_eq_some.1 hm;exact(uR hw).2 (h m v f o C)
  intro h m v f o C;exact(uR hw).1 (h (v,f) (fB.2 ⟨m,List.getElem?_zip_eq_some.2 ⟨o,C⟩⟩))
 rw[ah j,ah j];refine Da ?_ rfl rfl;rw[List.all_eq_true];exact⟨fun h v I=>(tQ hw).2 (h v I),fun h v I=>(tQ hw).1 (h v I)⟩
def wJ (b:av)(k:Nat):Bool:=!(tF (aM b) 0).contains k
def rN (b:av)(k:Nat):Bool:=(tF (aM b) k).all fun e=>decide ((aM b)[e]?≠some [])
def FB (b:av):Int×Int:=
 if 0≤jc (wJ b) b.Nm.length then(dH b (jc (wJ b) b.Nm.length).toNat,16)
 else if 0≤jc (rN b) b.Nm.length then(dH b (jc (rN b) b.Nm.length).toNat,17)
 else if(List.range b.Nm.length).any (fun i=>we (aM b) i 0)=true then(dH b 0,18)
 else lH (Jy b) b.Nm
theorem IL {b:av}(hw:kG (aM b)=true):oK b=FB b:=by
 have o:=cB b;have C:cz (kJ (aM b)) b.Nm.length=jc (wJ b) b.Nm.length:=sK fun k j=>by unfold wJ kJ;rw[←oS hw (by omega),←List.contains_iff_mem];simp[o,j]
 have I:cz (iK (aM b)) b.Nm.length=jc (rN b) b.Nm.length:=sK fun k j=>by(
 unfold rN iK;rw[List.all_eq_true];simp only[eq];constructor
 ·intro h
  exact⟨by omega,fun⟨e,he,h'⟩=>h e ((oS hw (by omega)).2 he) h'⟩
 rintro⟨_,h⟩ e he h';exact h ⟨e,(oS hw (by omega)).1 he,h'⟩)
 have J:(∃i,fd (aM b) i 0)↔(List.range b.Nm.length).any (fun i=>we (aM b) i 0)=true:=by(
 rw[od];constructor;·rintro⟨i,hi⟩;refine⟨i,dW.2 ?_,ir.2 hi⟩;obtain⟨row,R,_⟩:=hi;have:=(lS.1 R).1;omega
 rintro⟨i,_,hi⟩;exact⟨i,ir.1 hi⟩)
 unfold oK FB;rw[C,I];refine Da Iff.rfl rfl (Da Iff.rfl rfl (Da J rfl ?_));have:uj b=Jy b:=funext fun i=>funext fun k=>funext fun x=>Jz hw i k x;rw[this]
def zJ:List av→Nat→Int×Int×Int
 | [],_=>(0,0,0)
 |b::l,i=>if(FB b).2≠0 then(i,(FB b).1,(FB b).2) else zJ l (i+1)
theorem nD:∀ {l:List av} {i:Nat},l.all (fun b=>kG (aM b))=true→mi l i=zJ l i
 | [],_,_=>rfl
 |b::l,i,h=>by rw[List.all_cons,dX] at h;rw[mi,zJ,IL h.1,nD h.2]
end
end Go.Proofs.YtccbbkopmlnkpaaGreatDoor
