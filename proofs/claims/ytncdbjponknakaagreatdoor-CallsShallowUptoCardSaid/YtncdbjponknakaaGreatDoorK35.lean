/- Part 36 of the proof of CallsShallow (its last part says what is proved). No condition. -/
import Derived.Test.YtncdbjponknakaaGreatDoorK27
import Derived.Test.YtncdbjponknakaaGreatDoorK31
import Derived.Test.YtncdbjponknakaaGreatDoorK34
namespace Go.Proofs.YtncdbjponknakaaGreatDoor
set_option maxRecDepth 100000
set_option maxHeartbeats 8000000
open Go.RowKit Go.Proofs.Tryz
def Cy (p:aH)(c:aE)(w:World)(e:Ending)(w':World):Prop:=∃(A1:Option Addr) (n1 c1:Nat) (A2:Option Addr) (n2 c2:Nat) (n:Int),e=.returned (.tuple #[.agg #[.slice A1 n1 c1,.slice A2 n2 c2],.int .i64 n])∧(n=0↔eM p c)∧aa All w w'
theorem AH (S:Nat→Prop)(pv cv:Value)(p:aH)(c:aE)(w:World)(hp:dJ S w pv p)(hc:cQ S w cv c)(hl:gz w)(hS:∀b,S b→b<w.heap.size)(h6:kj p)(hz:lY c):
 Calls prog 65 #[pv,cv] w (Cy p c w):=by
 have e4:=cB.la hp;have e5:=dc.la hc;obtain⟨j3,vu,vi,vo,rfl,h7,h8,h9,i0,i1⟩:=hp;obtain⟨a1,n1,rfl,_⟩:=h7;obtain⟨a2,n2,rfl,_⟩:=h8;obtain⟨a3,n3,rfl,_⟩:=h9;obtain⟨a4,n4,rfl,_⟩:=i0;obtain⟨ka,kf,rfl,b2,b4,b6⟩:=hc;have e6:=bu.la b2;have e7:=bV.la b4;obtain⟨A1,c1,rfl,_⟩:=b2;obtain⟨A2,c2,rfl,_⟩:=b4;obtain⟨W0,a6⟩:=eQ (((w.alloc (.cells #[.slice a1 p.MZ.length n1,.slice a2 p.up.length n2,.slice a3 p.Nb.length n3,.slice a4 p.Na.length n4,.int .i64 p.Nc] 26)).alloc (.cells #[.slice A1 c.Nd.length c1,.slice A2 c.Nf.length c2,.int .i64 c.main] 30)).alloc (.cells #[.slice none 0 0,.slice none 0 0] 162));have j4:w.heap.size+3≤W0.heap.size:=by rw[a6];simp
 have e8:aa All w W0:=by rw[a6];exact((kR.alloc _).alloc _).alloc _
 have bP:al W0 w.heap.size 26 #[.slice a1 p.MZ.length n1,.slice a2 p.up.length n2,.slice a3 p.Nb.length n3,.slice a4 p.Na.length n4,.int .i64 p.Nc]:=by rw[a6];exact((al.new _ _ _).alloc _).alloc _
 have bK:al W0 (w.heap.size+1) 30 #[.slice A1 c.Nd.length c1,.slice A2 c.Nf.length c2,.int .i64 c.main]:=by rw[a6];exact(ac (by simp)).alloc _
 have bQ:al W0 (w.heap.size+1+1) 162 #[.slice none 0 0,.slice none 0 0]:=by rw[a6];exact ac (by simp)
 have C:=J5 a6 e8 bP bK bQ;have HP:=J6 e4 e5 e6 e7 hl b6;clear a6 e8 bP bK bQ e4 e5 e6 e7 hl i1 b6;go_enter func65,ntmps65;go_upto_region 1 with fail;rw[←C.1];obtain⟨p0,p1,p2,p3,p4⟩:=C.2.2.1.c5;obtain⟨k0,k1,k2⟩:=C.2.2.2.1.c3;have HR:=oH (mo S _ p W0 (HP.1 W0 C.2.1) (HP.2.2.2.2.1.keep C.2.1));by_cases a8:dD p;·(
 rw[av a8] at HR;have i2:=oH a8;clear a8;go_wp2_with fail;refine HR.out.mono ?_;rintro e w1 ⟨rfl,b7⟩;have J:=oH b7;clear b7 k0 k1 k2 p0 p1 p2 p3 p4;have Y:=C.2.2.2.1.kept J.out trivial;obtain⟨k0,k1,k2⟩:=Y.c3;clear Y;by_cases hf:c.Nf.length≤64;·(
 have t1:decide ((64:Int)<(c.Nf.length:Int))=false:=by simp;omega
 by_cases ha:c.Nd.length≤16;·(
 have t2:decide ((16:Int)<(c.Nd.length:Int))=false:=by simp;omega
 have e9:=J2 hf ha;clear hf ha;have c9:=oH (C.2.1.trans J.out);have b8:=C.2.2.1.kept J.out trivial;obtain⟨p0,p1,p2,p3,p4⟩:=b8.c5;clear b8;have HC:=oH (DM S _ _ p c w1 (HP.1 w1 c9.out) (HP.2.1 w1 c9.out) h6 hz);go_wp2_with fail;refine HC.out.mono ?_;rintro e w2 ⟨B1,m1,d1,B2,m2,d2,b,rfl,hb,d8,h0⟩;have h1:=oH (J.out.trans d8);have i4:=oH h0;have j2:=oH d8;clear d8 h0 t1 t2 k0 k1 k2 p0 p1 p2 p3 p4;obtain⟨W3,b9⟩:=eQ (w2.alloc (.cells #[.slice B1 m1 d1,.slice B2 m2 d2] 162));have d9:aa All w2 W3:=by rw[b9];exact kR.alloc _
 have b3:al W3 w2.heap.size 162 #[.slice B1 m1 d1,.slice B2 m2 d2]:=by rw[b9];exact ac rfl
 have j5:w2.heap.size+1≤W3.heap.size:=by rw[b9];simp
 have j6:=h1.out.size;have H3:=J4 b9 (h1.out.trans d9) b3 d9;clear b9 d9 b3;by_cases R:pi p c;·(
 obtain rfl:b=true:=by rw[hb];exact av R
 have d7:=oH R;clear R hb;have i5:=oH (sI.keep (H3.2.2.2.all) (i4.out d7.out));have c0:=oH (C.2.1.trans H3.2.1);go_upto_region 4 with fail;rw[←H3.1];have b8:=C.2.2.1.kept H3.2.1 trivial;obtain⟨p0,p1,p2,p3,p4⟩:=b8.c5;obtain⟨q0,q1⟩:=H3.2.2.1.c2;clear b8;have j7:=c0.out.size;have i6:=oH (zc (fun b=>b<W3.heap.size) _ _ p (cP p c) W3 (cB.wide (fun b hb=>by have:=hS b hb;show b<_;omega) (HP.1 W3 c0.out)) (sI.wide (fun b (hb:w1.heap.size≤b∧b<w2.heap.size)=>by show b<_;omega) i5.out) (HP.2.2.2.2.1.keep c0.out) (fun _ h=>h));go_wp2_with fail;refine i6.out.mono ?_;rintro e w4 ⟨e0,R1,r1,s1,R2,r2,s2,mm,j8,n,rfl,o,c3⟩;clear p0 p1 p2 p3 p4 q0 q1;obtain⟨W5,c6⟩:=eQ (w4.alloc (.cells #[.slice R1 r1 s1,.slice R2 r2 s2,.int .i64 mm] 30));have c7:aa All w4 W5:=by rw[c6];exact kR.alloc _
 have b5:al W5 w4.heap.size 30 #[.slice R1 r1 s1,.slice R2 r2 s2,.int .i64 mm]:=by rw[c6];exact ac rfl
 have H5:=J5 c6 (H3.2.1.trans (e0.trans c7)) b5 c7 (e0.trans c7);clear c6 c7 b5 e0;by_cases hr:ot p (cP p c);·(
 obtain⟨rfl,e1⟩:=c3 hr;obtain⟨v1,v2,hv,b2,b4,b6⟩:=e1;iterate 2 injection hv with hv
 simp only[List.cons.injEq,Value.int.injEq,true_and,and_true] at hv;obtain⟨rfl,rfl,rfl⟩:=hv;have a7:=J4 hr (bu.keep H5.2.2.2.1.all b2) (bV.keep H5.2.2.2.1.all b4) b6;clear hr b2 b4 b6 o c3;have h2:=oH (C.2.1.trans H5.2.1);go_upto_region 7 with fail;rw[←H5.1];obtain⟨r0,r1,r2⟩:=H5.2.2.1.c3;have Y:=C.2.2.2.1.kept H5.2.1 trivial;obtain⟨k0,k1,k2⟩:=Y.c3;clear Y;obtain⟨M,hM⟩:=eR ((qV p (cP p c)).main);rw[hM] at r2;by_cases hm:M=c.main
 ·have tm:(M !=c.main)=false:=by simpa using hm
  have HM:=oH (hM.trans hm);clear hm hM;have HQ:=oH (yh _ _ _ _ _ c.Nd W5 a7.2.1 (HP.2.2.1 W5 h2.out));go_wp2_with fail;refine HQ.out.mono ?_;rintro e w6 ⟨rfl,e2⟩;have c4:=oH (H5.2.1.trans e2);have c5:=oH e2;clear e2;by_cases b0:(qV p (cP p c)).Nd=c.Nd
  ·rw[bL b0];have i7:=oH b0;clear b0;clear r0 r1 r2 k0 k1 k2;have Y:=C.2.2.2.1.kept c4.out trivial;obtain⟨k0,k1,k2⟩:=Y.c3;have h3:=H5.2.2.1.kept c5.out trivial;obtain⟨r0,r1,r2⟩:=h3.c3;clear Y h3;skip;have j0:=oH (wJ _ _ _ _ _ c.Nf w6 (bV.keep c5.out.all a7.2.2.1) (HP.2.2.2.1 w6 (C.2.1.trans c4.out)));go_wp2_with fail;refine j0.out.mono ?_;rintro e w7 ⟨rfl,e3⟩;have c8:=oH (c4.out.trans e3);have h4:=oH (c5.out.trans e3);clear e3;by_cases b1:(qV p (cP p c)).Nf.map fC=c.Nf.map fC;·rw[av b1];have j1:=oH b1;clear b1;clear r0 r1 r2 k0 k1 k2;have h5:=(H3.2.2.1.kept (H5.2.2.2.2.trans h4.out) trivial);obtain⟨q0,q1⟩:=h5.c2;clear h5;have l:=C.2.2.2.2.kept c8.out trivial;obtain⟨x0,x1⟩:=l.c2;have f0:=l.free 0;have f1:=l.free 1;have j:=(l.set 0 (.slice B1 m1 d1)).set 1 (.slice B2 m2 d2);have g0:=j.cell 0;have g1:=j.cell 1;simp only[ga,gc] at g0 g1;have Z:=oH (am ((((C.2.1.trans c8.out).all (S:=fun b=>b<w.heap.size)).setCell (p:=⟨w.heap.size+1+1,0,none⟩) (.inl (by show¬(w.heap.size+1+1<w.heap.size);omega)) (.slice B1 m1 d1)).setCell (p:=⟨w.heap.size+1+1,1,none⟩) (.inl (by show¬(w.heap.size+1+1<w.heap.size);omega)) (.slice B2 m2 d2)));clear l j;go_wp2_with fail;exact bodyPost_ret (v:=.tuple #[.agg #[.slice B1 m1 d1,.slice B2 m2 d2],.int .i64 0]) (by simp[results,Tryz.f65,go_sem,g0,g1]) rfl ⟨B1,m1,d1,B2,m2,d2,0,rfl,⟨fun _=>⟨i2.out,e9.1,e9.2,d7.out,a7.1.2.1,a7.1.2.2,HM.out,i7.out,j1.out⟩,fun _=>rfl⟩,Z.out⟩
   rw[au b1];have HN:=oH b1;clear b1 r0 r1 r2 k0 k1 k2;have o:=oH (show¬eM p c from fun h=>HN.out h.2.2.2.2.2.2.2.2);have l:=C.2.2.2.2.kept (c8.out) trivial;obtain⟨x0,x1⟩:=l.c2;have f0:=l.free 0;have f1:=l.free 1;have j:=(l.set 0 (.slice none 0 0)).set 1 (.slice none 0 0);have g0:=j.cell 0;have g1:=j.cell 1;simp only[ga,gc] at g0 g1;have Z:=oH (am ((((C.2.1.trans (c8.out)).all (S:=fun b=>b<w.heap.size)).setCell (p:=⟨w.heap.size+1+1,0,none⟩) (.inl (by show¬(w.heap.size+1+1<w.heap.size);omega)) (.slice none 0 0)).setCell (p:=⟨w.heap.size+1+1,1,none⟩) (.inl (by show¬(w.heap.size+1+1<w.heap.size);omega)) (.slice none 0 0)));clear l j;go_wp2_with fail;exact bodyPost_ret (v:=.tuple #[.agg #[.slice none 0 0,.slice none 0 0],.int .i64 1]) (by simp[results,Tryz.f65,go_sem,g0,g1]) rfl ⟨none,0,0,none,0,0,1,rfl,⟨fun h=>absurd h (by decide),fun h=>absurd h o.out⟩,Z.out⟩
  rw[cI b0];have HN:=oH b0;clear b0 r0 r1 r2 k0 k1 k2 tm;have o:=oH (show¬eM p c from fun h=>HN.out h.2.2.2.2.2.2.2.1);have l:=C.2.2.2.2.kept (c4.out) trivial;obtain⟨x0,x1⟩:=l.c2;have f0:=l.free 0;have f1:=l.free 1;have j:=(l.set 0 (.slice none 0 0)).set 1 (.slice none 0 0);have g0:=j.cell 0;have g1:=j.cell 1;simp only[ga,gc] at g0 g1;have Z:=oH (am ((((C.2.1.trans (c4.out)).all (S:=fun b=>b<w.heap.size)).setCell (p:=⟨w.heap.size+1+1,0,none⟩) (.inl (by show¬(w.heap.size+1+1<w.heap.size);omega)) (.slice none 0 0)).setCell (p:=⟨w.heap.size+1+1,1,none⟩) (.inl (by show¬(w.heap.size+1+1<w.heap.size);omega)) (.slice none 0 0)));clear l j;go_wp2_with fail;exact bodyPost_ret (v:=.tuple #[.agg #[.slice none 0 0,.slice none 0 0],.int .i64 1]) (by simp[results,Tryz.f65,go_sem,g0,g1]) rfl ⟨none,0,0,none,0,0,1,rfl,⟨fun h=>absurd h (by decide),fun h=>absurd h o.out⟩,Z.out⟩
 have tm:(M !=c.main)=true:=by simpa using hm
 have HN:=oH (show¬(qV p (cP p c)).main=c.main from fun h=>hm (hM▸h));clear hm hM;have o:=oH (show¬eM p c from fun h=>HN.out h.2.2.2.2.2.2.1);have l:=C.2.2.2.2.kept (H5.2.1) trivial;obtain⟨x0,x1⟩:=l.c2;have f0:=l.free 0;have f1:=l.free 1;have j:=(l.set 0 (.slice none 0 0)).set 1 (.slice none 0 0);have g0:=j.cell 0;have g1:=j.cell 1;simp only[ga,gc] at g0 g1;have Z:=oH (am ((((C.2.1.trans (H5.2.1)).all (S:=fun b=>b<w.heap.size)).setCell (p:=⟨w.heap.size+1+1,0,none⟩) (.inl (by show¬(w.heap.size+1+1<w.heap.size);omega)) (.slice none 0 0)).setCell (p:=⟨w.heap.size+1+1,1,none⟩) (.inl (by show¬(w.heap.size+1+1<w.heap.size);omega)) (.slice none 0 0)));clear l j;go_wp2_with fail;exact bodyPost_ret (v:=.tuple #[.agg #[.slice none 0 0,.slice none 0 0],.int .i64 1]) (by simp[results,Tryz.f65,go_sem,g0,g1]) rfl ⟨none,0,0,none,0,0,1,rfl,⟨fun h=>absurd h (by decide),fun h=>absurd h o.out⟩,Z.out⟩)
 have hn:=o hr;have tn:(n !=0)=true:=by simpa using hn
 have HN:=oH hr;clear hr hn o c3;go_upto_region 7 with fail;rw[←H5.1];have o:=oH (show¬eM p c from fun h=>HN.out ⟨h.1,h.2.2.2.2.1,h.2.2.2.2.2.1⟩);have l:=C.2.2.2.2.kept (H5.2.1) trivial;obtain⟨x0,x1⟩:=l.c2;have f0:=l.free 0;have f1:=l.free 1;have j:=(l.set 0 (.slice none 0 0)).set 1 (.slice none 0 0);have g0:=j.cell 0;have g1:=j.cell 1;simp only[ga,gc] at g0 g1;have Z:=oH (am ((((C.2.1.trans (H5.2.1)).all (S:=fun b=>b<w.heap.size)).setCell (p:=⟨w.heap.size+1+1,0,none⟩) (.inl (by show¬(w.heap.size+1+1<w.heap.size);omega)) (.slice none 0 0)).setCell (p:=⟨w.heap.size+1+1,1,none⟩) (.inl (by show¬(w.heap.size+1+1<w.heap.size);omega)) (.slice none 0 0)));clear l j;go_wp2_with fail;exact bodyPost_ret (v:=.tuple #[.agg #[.slice none 0 0,.slice none 0 0],.int .i64 1]) (by simp[results,Tryz.f65,go_sem,g0,g1]) rfl ⟨none,0,0,none,0,0,1,rfl,⟨fun h=>absurd h (by decide),fun h=>absurd h o.out⟩,Z.out⟩)
 obtain rfl:b=false:=by rw[hb];exact au R
 have HN:=oH R;clear R hb;go_upto_region 4 with fail;rw[←H3.1];have o:=oH (show¬eM p c from fun h=>HN.out h.2.2.2.1);have l:=C.2.2.2.2.kept (H3.2.1) trivial;obtain⟨x0,x1⟩:=l.c2;have f0:=l.free 0;have f1:=l.free 1;have j:=(l.set 0 (.slice none 0 0)).set 1 (.slice none 0 0);have g0:=j.cell 0;have g1:=j.cell 1;simp only[ga,gc] at g0 g1;have Z:=oH (am ((((C.2.1.trans (H3.2.1)).all (S:=fun b=>b<w.heap.size)).setCell (p:=⟨w.heap.size+1+1,0,none⟩) (.inl (by show¬(w.heap.size+1+1<w.heap.size);omega)) (.slice none 0 0)).setCell (p:=⟨w.heap.size+1+1,1,none⟩) (.inl (by show¬(w.heap.size+1+1<w.heap.size);omega)) (.slice none 0 0)));clear l j;go_wp2_with fail;exact bodyPost_ret (v:=.tuple #[.agg #[.slice none 0 0,.slice none 0 0],.int .i64 1]) (by simp[results,Tryz.f65,go_sem,g0,g1]) rfl ⟨none,0,0,none,0,0,1,rfl,⟨fun h=>absurd h (by decide),fun h=>absurd h o.out⟩,Z.out⟩)
 have t2:decide ((16:Int)<(c.Nd.length:Int))=true:=by simp;omega
 have HN:=oH ha;clear ha;have o:=oH (show¬eM p c from fun h=>HN.out h.2.2.1);have l:=C.2.2.2.2.kept (J.out) trivial;obtain⟨x0,x1⟩:=l.c2;have f0:=l.free 0;have f1:=l.free 1;have j:=(l.set 0 (.slice none 0 0)).set 1 (.slice none 0 0);have g0:=j.cell 0;have g1:=j.cell 1;simp only[ga,gc] at g0 g1;have Z:=oH (am ((((C.2.1.trans (J.out)).all (S:=fun b=>b<w.heap.size)).setCell (p:=⟨w.heap.size+1+1,0,none⟩) (.inl (by show¬(w.heap.size+1+1<w.heap.size);omega)) (.slice none 0 0)).setCell (p:=⟨w.heap.size+1+1,1,none⟩) (.inl (by show¬(w.heap.size+1+1<w.heap.size);omega)) (.slice none 0 0)));clear l j;go_wp2_with fail;exact bodyPost_ret (v:=.tuple #[.agg #[.slice none 0 0,.slice none 0 0],.int .i64 1]) (by simp[results,Tryz.f65,go_sem,g0,g1]) rfl ⟨none,0,0,none,0,0,1,rfl,⟨fun h=>absurd h (by decide),fun h=>absurd h o.out⟩,Z.out⟩)
 have t1:decide ((64:Int)<(c.Nf.length:Int))=true:=by simp;omega
 have HN:=oH hf;clear hf;have o:=oH (show¬eM p c from fun h=>HN.out h.2.1);have l:=C.2.2.2.2.kept (J.out) trivial;obtain⟨x0,x1⟩:=l.c2;have f0:=l.free 0;have f1:=l.free 1;have j:=(l.set 0 (.slice none 0 0)).set 1 (.slice none 0 0);have g0:=j.cell 0;have g1:=j.cell 1;simp only[ga,gc] at g0 g1;have Z:=oH (am ((((C.2.1.trans (J.out)).all (S:=fun b=>b<w.heap.size)).setCell (p:=⟨w.heap.size+1+1,0,none⟩) (.inl (by show¬(w.heap.size+1+1<w.heap.size);omega)) (.slice none 0 0)).setCell (p:=⟨w.heap.size+1+1,1,none⟩) (.inl (by show¬(w.heap.size+1+1<w.heap.size);omega)) (.slice none 0 0)));clear l j;go_wp2_with fail;exact bodyPost_ret (v:=.tuple #[.agg #[.slice none 0 0,.slice none 0 0],.int .i64 1]) (by simp[results,Tryz.f65,go_sem,g0,g1]) rfl ⟨none,0,0,none,0,0,1,rfl,⟨fun h=>absurd h (by decide),fun h=>absurd h o.out⟩,Z.out⟩)
 rw[au a8] at HR;have HN:=oH a8;clear a8;go_wp2_with fail;refine HR.out.mono ?_;rintro e w1 ⟨rfl,b7⟩;have J:=oH b7;clear b7 p0 p1 p2 p3 p4 k0 k1 k2;have o:=oH (show¬eM p c from fun h=>HN.out h.1);have l:=C.2.2.2.2.kept (J.out) trivial;obtain⟨x0,x1⟩:=l.c2;have f0:=l.free 0;have f1:=l.free 1;have j:=(l.set 0 (.slice none 0 0)).set 1 (.slice none 0 0);have g0:=j.cell 0;have g1:=j.cell 1;simp only[ga,gc] at g0 g1;have Z:=oH (am ((((C.2.1.trans (J.out)).all (S:=fun b=>b<w.heap.size)).setCell (p:=⟨w.heap.size+1+1,0,none⟩) (.inl (by show¬(w.heap.size+1+1<w.heap.size);omega)) (.slice none 0 0)).setCell (p:=⟨w.heap.size+1+1,1,none⟩) (.inl (by show¬(w.heap.size+1+1<w.heap.size);omega)) (.slice none 0 0)));clear l j;go_wp2_with fail;exact bodyPost_ret (v:=.tuple #[.agg #[.slice none 0 0,.slice none 0 0],.int .i64 1]) (by simp[results,Tryz.f65,go_sem,g0,g1]) rfl ⟨none,0,0,none,0,0,1,rfl,⟨fun h=>absurd h (by decide),fun h=>absurd h o.out⟩,Z.out⟩
theorem AI (S:Nat→Prop)(pv cv:Value)(p:aH)(c:aE)(w:World)(hp:dJ S w pv p)(hc:cQ S w cv c)(hl:gz w)(hS:∀b,S b→b<w.heap.size)(a6:kj p)(hz:lY c):
 Calls prog 47 #[pv,cv] w fun e w'=>e=.returned (.bool (pB (eM p c)))∧aa All w w':=by
 have J:=cB.la hp;have R:=dc.la hc;obtain⟨b7,vu,vi,vo,rfl,a7,a8,b0,b1,b2⟩:=hp;obtain⟨a1,n1,rfl,_⟩:=a7;obtain⟨a2,n2,rfl,_⟩:=a8;obtain⟨a3,n3,rfl,_⟩:=b0;obtain⟨a4,n4,rfl,_⟩:=b1;obtain⟨ka,kf,rfl,b3,b4,b5⟩:=hc;obtain⟨A1,c1,rfl,_⟩:=b3;obtain⟨A2,c2,rfl,_⟩:=b4;obtain⟨C,o⟩:=eQ ((w.alloc (.cells #[.slice a1 p.MZ.length n1,.slice a2 p.up.length n2,.slice a3 p.Nb.length n3,.slice a4 p.Na.length n4,.int .i64 p.Nc] 26)).alloc (.cells #[.slice A1 c.Nd.length c1,.slice A2 c.Nf.length c2,.int .i64 c.main] 30));have j:aa All w C:=by rw[o];exact(kR.alloc _).alloc _
 have b6:=j.size;have l:=AH S _ _ p c C (J C j) (R C j) (hl.keep j) (fun b hb=>by have:=hS b hb;omega) a6 hz;have Y:=J3 l j o;clear J R b2 b5 j o l b6 hl hS;go_enter func47,ntmps47;go_upto_region 1 with fail;rw[←Y.2.2];have bP:al C w.heap.size 26 #[.slice a1 p.MZ.length n1,.slice a2 p.up.length n2,.slice a3 p.Nb.length n3,.slice a4 p.Na.length n4,.int .i64 p.Nc]:=by rw[Y.2.2];exact(al.new _ _ _).alloc _
 have bK:al C (w.heap.size+1) 30 #[.slice A1 c.Nd.length c1,.slice A2 c.Nf.length c2,.int .i64 c.main]:=by rw[Y.2.2];exact ac (by simp)
 obtain⟨p0,p1,p2,p3,p4⟩:=bP.c5;obtain⟨k0,k1,k2⟩:=bK.c3;clear bP bK;go_wp2_with fail;refine Y.1.mono ?_;rintro e w1 ⟨B1,m1,d1,B2,m2,d2,n,rfl,hn,Z⟩;have HN:=J2 (Y.2.1.trans Z) (show decide (n=0)=pB (eM p c) by
  by_cases h:n=0;·rw[bL h,av (hn.1 h)]
  rw[cI h,au fun h'=>h (hn.2 h')])
 clear hn Z;go_wp2_with fail;go_ret;exact⟨by rw[←HN.2]<;>rfl,HN.1.alloc _⟩
section
attribute [local go_sem] LK LL ms wL pD
end
section
attribute [local go_sem] lh qb xr ju nA nE nB nC Ku ms rq nD wL pD
attribute [local go_sem] pm lU jt mU List.getElem?_toArray List.getElem?_cons_zero
end

section
theorem JX (n:Nat)(h:n<256):IntKind.u8.wrap (n:Int)=n:=by simp[IntKind.wrap,IntKind.bits,IntKind.signed];omega
section
variable {P:Program} {w:World} (t:TypeId) (x:UInt8)
theorem ww (m:Nat)(hm:m<256):(binOp .and t (.int .u8 (x.toNat:Int)) (.int .u8 (m:Int))).run P w=.ok (.int .u8 ((x.toNat&&&m:Nat):Int)) w:=by
 show Result.ok (Value.int .u8 (IntKind.u8.wrap ((BitVec.ofInt 8 (x.toNat:Int)&&&BitVec.ofInt 8 (m:Int)).toNat:Int))) w=_;have j:=x.toNat_lt;have e:(BitVec.ofInt 8 (x.toNat:Int)&&&BitVec.ofInt 8 (m:Int)).toNat=x.toNat&&&m:=by rw[BitVec.toNat_and,BitVec.toNat_ofInt,BitVec.toNat_ofInt];congr 1<;>omega
 rw[e,JX _ (Nat.lt_of_le_of_lt Nat.and_le_left j)]
theorem Kh:(binOp .and t (.int .u8 (x.toNat:Int)) (.int .u8 31)).run P w=.ok (.int .u8 ((x.toNat%32:Nat):Int)) w:=by rw[←Nat.and_two_pow_sub_one_eq_mod x.toNat 5];exact ww t x 31 (by decide)
theorem Ki:(binOp .and t (.int .u8 (x.toNat:Int)) (.int .u8 63)).run P w=.ok (.int .u8 ((x.toNat%64:Nat):Int)) w:=by rw[←Nat.and_two_pow_sub_one_eq_mod x.toNat 6];exact ww t x 63 (by decide)
theorem Kg:(binOp .and t (.int .u8 (x.toNat:Int)) (.int .u8 15)).run P w=.ok (.int .u8 ((x.toNat%16:Nat):Int)) w:=by rw[←Nat.and_two_pow_sub_one_eq_mod x.toNat 4];exact ww t x 15 (by decide)
theorem Me:(binOp .and t (.int .u8 (x.toNat:Int)) (.int .u8 7)).run P w=.ok (.int .u8 ((x.toNat%8:Nat):Int)) w:=by rw[←Nat.and_two_pow_sub_one_eq_mod x.toNat 3];exact ww t x 7 (by decide)
end
attribute [local go_sem] Kh Ki Kg Me
end
section
attribute [local go_sem] Kh Ki Kg Me
end






def Kd (s:ByteArray):Prop:=s.size≤140737488355328
def EC (l:List (ByteArray×Int)):Prop:=∀x∈l,Kd x.1
structure xF (p:aH):Prop where
 MZ:∀s∈p.MZ,Kd s
 Nb:EC p.Nb
 Na:EC p.Na
def fl (p:aH)(c:aE)(b:aw)(next:Int)(x:bz)(w:World)(e:Ending)(w':World):Prop:=∃(n:Int) (ok:Bool),e=.returned (.tuple #[.int .i64 n,.bool ok])∧ok=pB (aT p c b next x)∧(aT p c b next x→n=if cz x=true then next+1 else next)∧aa All w w'
theorem fl.no {p:aH}{c:aE}{b:aw}{next:Int}{x:bz}{w j:World}{n:Int}(h:¬aT p c b next x)(l:aa All w j):fl p c b next x w (.returned (.tuple #[.int .i64 n,.bool false])) j:=
 ⟨n,false,rfl,(au h).symm,fun h'=>absurd h' h,l⟩



def gX (p:aH)(c:aE)(b:aw):Prop:=qi p c b∧∀l∈b.Ng,l.length≤4096
def rH (p:aH)(c:aE)(b:aw)(w:World)(e:Ending)(w':World):Prop:=∃(n:Int) (ok:Bool),e=.returned (.tuple #[.int .i64 n,.bool ok])∧ok=pB (gX p c b)∧(gX p c b→n=ft b)∧(0≤n∧n≤1000000)∧aa All w w'
theorem rH.no {p:aH}{c:aE}{b:aw}{w j:World}(h:¬gX p c b)(l:aa All w j):rH p c b w (.returned (.tuple #[.int .i64 0,.bool false])) j:=
 ⟨0,false,rfl,(au h).symm,fun h'=>absurd h' h,by omega,l⟩

section
open Classical in
noncomputable def oK (p:aH)(c:aE):Int×Int×Int:=if bJ p c then ov c.Nf 0 else(0,0,1)
theorem wy {p:aH}{c:aE}(h:¬bJ p c):oK p c=(0,0,1):=by unfold oK;rw[ae h]
theorem nc {p:aH}{c:aE}(h:bJ p c):oK p c=ov c.Nf 0:=by unfold oK;rw[ap h]
theorem zS {l:List aw}{i:Nat}:(ov l i).2.2=0↔∀b∈l,(oh b).2=0:=by
 constructor;·(
 intro h;induction l generalizing i with
 |nil=>intro b j;cases j
 |cons a l C=>
  intro b j;rw[ov] at h;by_cases o:(oh a).2≠0;·rw[ap o] at h;exact absurd h o
  rw[ae o] at h;rcases fX.1 j with rfl|j;·exact Decidable.not_not.1 o
  exact C h b j)
 intro h;rw[mc h]
theorem uN {p:aH}{c:aE}:(oK p c).2.2=0↔bJ p c∧jH c:=by
 by_cases h:bJ p c;·rw[nc h,zS];exact⟨fun h'=>⟨h,h'⟩,fun h'=>h'.2⟩
 rw[wy h];exact⟨fun h'=>absurd h' (by decide),fun h'=>absurd h'.1 h⟩
def nH (p:aH)(c:aE)(w:World)(e:Ending)(w':World):Prop:=e=.returned (.tuple #[.int .i64 (oK p c).1,.int .i64 (oK p c).2.1,.int .i64 (oK p c).2.2])∧aa All w w'
theorem nH.of {p:aH}{c:aE}{w j:World}{x y z:Int}(h:oK p c=(x,y,z))(l:aa All w j):nH p c w (.returned (.tuple #[.int .i64 x,.int .i64 y,.int .i64 z])) j:=⟨by rw[h],l⟩
end
theorem Bg (S:Nat→Prop)(pv cv:Value)(p:aH)(c:aE)(w:World)(hp:dJ S w pv p)(hc:cQ S w cv c)(hl:gz w)(hS:∀b,S b→b<w.heap.size)(b8:kj p)(b9:lY c)(hN:eM p c↔bJ p c):
 Calls prog 34 #[pv,cv] w (nH p c w):=by
 have c0:=cB.la hp;have c3:=dc.la hc;obtain⟨h1,vu,vi,vo,rfl,e0,e1,e2,e3,e4⟩:=hp;obtain⟨a1,n1,rfl,l1,l2,_⟩:=e0;obtain⟨a2,n2,rfl,_⟩:=e1;obtain⟨a3,n3,rfl,_⟩:=e2;obtain⟨a4,n4,rfl,_⟩:=e3;obtain⟨ka,kf,rfl,e5,c4,e6⟩:=hc;have c5:=bV.la c4;obtain⟨A1,c1,rfl,m1,m2,m3,_⟩:=e5;obtain⟨A2,c2,rfl,m4,m5,m6,_⟩:=c4;unfold maxLen at*;obtain⟨W0,R⟩:=eQ ((w.alloc (.cells #[.slice a1 p.MZ.length n1,.slice a2 p.up.length n2,.slice a3 p.Nb.length n3,.slice a4 p.Na.length n4,.int .i64 p.Nc] 26)).alloc (.cells #[.slice A1 c.Nd.length c1,.slice A2 c.Nf.length c2,.int .i64 c.main] 30));have J:aa All w W0:=by rw[R];exact(kR.alloc _).alloc _
 have bP:al W0 w.heap.size 26 #[.slice a1 p.MZ.length n1,.slice a2 p.up.length n2,.slice a3 p.Nb.length n3,.slice a4 p.Na.length n4,.int .i64 p.Nc]:=by rw[R];exact(al.new _ _ _).alloc _
 have bK:al W0 (w.heap.size+1) 30 #[.slice A1 c.Nd.length c1,.slice A2 c.Nf.length c2,.int .i64 c.main]:=by rw[R];exact ac (by simp)
 obtain⟨p0,p1,p2,p3,p4⟩:=bP.c5;obtain⟨k0,k1,k2⟩:=bK.c3;have HW:=J5 R J bP bK c5;have b6:=AI S _ _ p c W0 (c0 W0 J) (c3 W0 J) (hl.keep J) (fun b hb=>by have:=hS b hb;have:=J.size;omega) b8 b9;rw[kC hN] at b6;have HR:=oH b6;clear b6 hN hl hS b8 b9;clear R J bP bK c0 c3 c5 e4 e6;go_enter func34,ntmps34;go_upto_region 1 with fail;rw[←HW.1];go_wp2_with fail;refine HR.out.mono ?_;rintro e w1 ⟨rfl,b7⟩;have c6:=oH b7;have c7:=oH (HW.2.1.trans b7);clear b7 p0 p1 p2 p3 p4 k0 k1 k2;have Y:=HW.2.2.2.1.kept c6.out trivial;obtain⟨k0,k1,k2⟩:=Y.c3;clear Y;by_cases l:bJ p c
 case neg=>(rw[au l];have HN:=oH (wy l);clear l;go_wp2_with fail;exact bodyPost_ret (v:=.tuple #[.int .i64 0,.int .i64 0,.int .i64 1]) (by simp[results,Tryz.f34,go_sem]) rfl (.of HN.out c7.out))
 rw[av l];have h2:=l.2.2.1;have a7:=oH l;clear l;go_wp2_with fail;go_loopg [18] c.Nf.length (fun g s wr=>∃j:Nat,j≤c.Nf.length∧g=c.Nf.length-j∧s=.int .i64 j∧aa All w1 wr∧∀i:Nat,i<j→∀b,c.Nf[i]? =some b→(oh b).2=0);·exact⟨0,by omega,by omega,rfl,kR,fun i hi=>by omega⟩
 obtain⟨j,hj,rfl,rfl,Z,C⟩:=hrel;have a6:=c7.out.trans Z;clear k0 k1 k2;have Y:=(HW.2.2.2.1.kept c6.out trivial).kept Z trivial;obtain⟨k0,k1,k2⟩:=Y.c3;clear Y;by_cases e7:j<c.Nf.length;·(
 obtain⟨b,hb⟩:=eG e7;obtain⟨gb,go,h3,rfl,e8,c8,a8,bv,rfl,c9,e9,o⟩:=aZ (HW.2.2.2.2 wr a6) hb;have b4:=bg.la c9;obtain⟨vA,vc,rfl,_⟩:=c9;obtain⟨W5,b0⟩:=eQ (wr.alloc (.cells #[.int .i64 b.params,.int .i64 b.vars,.slice vA b.Ng.length vc] 43));have b1:aa All wr W5:=by rw[b0];exact kR.alloc _
 have b5:al W5 wr.heap.size 43 #[.int .i64 b.params,.int .i64 b.vars,.slice vA b.Ng.length vc]:=by rw[b0];exact ac rfl
 obtain⟨y0,y1,y2⟩:=b5.c3;have d7:b.Ng.flatten.length≤4096:=fR (qz (dr.2 ⟨b,mG hb,rfl⟩)) a7.2.2.2.2.2.2.2.2;have b3:=Ef S _ b W5 (b4 W5 b1) (Kj (a7.2.2.2.2.2.2.2.1 b (mG hb))) d7;have z0:=a8 0 _ rfl;rw[dj] at z0;have z1:=a8 1 _ rfl;have z2:=a8 2 _ rfl;obtain⟨fx,fy,hf⟩:∃fx fy,oh b=(fx,fy):=⟨_,_,rfl⟩;unfold qk at b3;rw[hf] at b3;have HC:=J6 b3 (Z.trans b1) (a6.trans b1) C hb hf;have h0:=oH b0;clear b3 Z a6 C hb hf a8 e9 o e8 c8 b0 b1 b5 b4 d7;go_upto_region 6 with fail;rw[←h0.out];clear z0 z1 z2 k0 k1 k2;go_wp2_with fail;refine HC.1.mono ?_;rintro e w2 ⟨rfl,d8⟩;have d9:=oH d8;clear d8;by_cases hz:fy=0;·(
 have tz:(fy !=0)=false:=by rw[gj];exact hz
 have HZ:=oH (show(oh b).2=0 by rw[HC.2.2.2.2.2];exact hz);clear hz;go_wp2_with fail;go_roundg (c.Nf.length-(j+1))
 ·refine⟨j+1,by omega,rfl,by go_num,HC.2.1.trans d9.out,fun i hi b2 o=>?_⟩
  by_cases e:i=j;·subst e;rw[HC.2.2.2.2.1] at o;cases o;exact HZ.out
  exact HC.2.2.2.1 i (by omega) b2 o
 omega)
 have tz:(fy !=0)=true:=by rw[bne_iff_ne];exact hz
 have HZ:=oH (show oK p c=((j:Int),fx,fy) by rw[nc a7.out,su HC.2.2.2.2.1 (fun i hi b2 o=>HC.2.2.2.1 i hi b2 o) (by rw[HC.2.2.2.2.2];exact hz),HC.2.2.2.2.2,cN]);clear hz;go_wp2_with fail;exact bodyPost_ret (v:=.tuple #[.int .i64 j,.int .i64 fx,.int .i64 fy]) (by simp[results,Tryz.f34,go_sem]) rfl (.of HZ.out (HC.2.2.1.trans d9.out)))
 obtain rfl:j=c.Nf.length:=by omega
 have HZ:=oH (show oK p c=(0,0,0) by rw[nc a7.out];exact mc fun b hb=>by obtain⟨i,hi⟩:=cY.1 hb;exact C i (lS.1 hi).1 b hi);have HK:=oH a6;clear Z a6 C;go_wp2_with fail;exact bodyPost_ret (v:=.tuple #[.int .i64 0,.int .i64 0,.int .i64 0]) (by simp[results,Tryz.f34,go_sem]) rfl (.of HZ.out HK.out)
theorem Bq (S:Nat→Prop)(pv cv:Value)(p:aH)(c:aE)(w:World)(hp:dJ S w pv p)(hc:cQ S w cv c)(hl:gz w)(hS:∀b,S b→b<w.heap.size)(J:kj p)(R:lY c)(hN:eM p c↔bJ p c):
 Calls prog 14 #[pv,cv] w fun e w'=>e=.returned (.bool (pB (bJ p c∧jH c)))∧aa All w w':=by
 have Y:=cB.la hp;have Z:=dc.la hc;obtain⟨b8,vu,vi,vo,rfl,b0,b1,b2,b3,b4⟩:=hp;obtain⟨a1,n1,rfl,l1,l2,_⟩:=b0;obtain⟨a2,n2,rfl,_⟩:=b1;obtain⟨a3,n3,rfl,_⟩:=b2;obtain⟨a4,n4,rfl,_⟩:=b3;obtain⟨ka,kf,rfl,b5,a6,b6⟩:=hc;have a7:=bV.la a6;obtain⟨A1,c1,rfl,m1,m2,m3,_⟩:=b5;obtain⟨A2,c2,rfl,m4,m5,m6,_⟩:=a6;unfold maxLen at*;obtain⟨C,l⟩:=eQ ((w.alloc (.cells #[.slice a1 p.MZ.length n1,.slice a2 p.up.length n2,.slice a3 p.Nb.length n3,.slice a4 p.Na.length n4,.int .i64 p.Nc] 26)).alloc (.cells #[.slice A1 c.Nd.length c1,.slice A2 c.Nf.length c2,.int .i64 c.main] 30));have j:aa All w C:=by rw[l];exact(kR.alloc _).alloc _
 have bP:al C w.heap.size 26 #[.slice a1 p.MZ.length n1,.slice a2 p.up.length n2,.slice a3 p.Nb.length n3,.slice a4 p.Na.length n4,.int .i64 p.Nc]:=by rw[l];exact(al.new _ _ _).alloc _
 have bK:al C (w.heap.size+1) 30 #[.slice A1 c.Nd.length c1,.slice A2 c.Nf.length c2,.int .i64 c.main]:=by rw[l];exact ac (by simp)
 obtain⟨p0,p1,p2,p3,p4⟩:=bP.c5;obtain⟨k0,k1,k2⟩:=bK.c3;have HW:=J5 l j bP bK a7;have HR:=oH (Bg S _ _ p c C (Y C j) (Z C j) (hl.keep j) (fun b hb=>by have:=hS b hb;have:=j.size;omega) J R hN);clear hN hl hS J R;clear l j bP bK Y Z a7 b4 b6;have hz:=uN (p:=p) (c:=c);unfold nH at HR;obtain⟨x,y,z,hx⟩:∃x y z,oK p c=(x,y,z):=⟨_,_,_,rfl⟩;rw[hx] at HR hz;have o:(z==0)=pB (bJ p c∧jH c):=by
  by_cases h:z=0;·rw[av (hz.1 h)];simpa using h
  rw[au fun h'=>h (hz.2 h')];simpa using h
 obtain⟨q,hq⟩:=eR ((z==0));rw[hq] at o;have HZ:=oH o;clear hz o hx;go_enter func14,ntmps14;go_upto_region 1 with fail;rw[←HW.1];go_wp2_with fail;refine HR.out.mono ?_;rintro e w1 ⟨rfl,a8⟩;have b7:=oH (HW.2.1.trans a8);clear a8;go_wp2_with fail;go_ret;exact⟨by rw[←HZ.out]<;>rfl,b7.out⟩
def ie (l:List bz)(f:Nat):Bool:=l.any fun x=>decide (x.kind=7∧x.ref=(f:Int))
theorem mY (l r:List bz)(f:Nat):ie (l++r) f=(ie l f||ie r f):=by simp[ie]
theorem px (x:bz)(f:Nat):ie [x] f=decide (x.kind=7∧x.ref=(f:Int)):=by simp[ie]
theorem xR {l:List bz}{x:bz}(h:x.kind≠7):ie (l++[x])=ie l:=by funext f;rw[mY,px,cI fun h'=>h h'.1,Bool.or_false]
theorem uK {l:List bz}{x:bz}{f:Nat}(h:x.kind=7)(j:x.ref=(f:Int)):ie (l++[x]) f=true:=by rw[mY,px,bL ⟨h,j⟩,Bool.or_true]
theorem Iy {l:List bz}{x:bz}{f g:Nat}(o:x.ref=(f:Int))(j:g≠f):ie (l++[x]) g=ie l g:=by rw[mY,px,cI fun h'=>j (by omega),Bool.or_false]
def dL (l:List bz)(m:Nat):List Int:=((List.range m).filter fun f=>ie l f).map fun(n:Nat)=>(n:Int)
theorem qS {l:List bz}{m:Nat}(h:ie l m=true):dL l (m+1)=dL l m++[(m:Int)]:=by unfold dL;rw[List.range_succ,mE,ic];simp[h]
theorem sk {l:List bz}{m:Nat}(h:ie l m=false):dL l (m+1)=dL l m:=by unfold dL;rw[List.range_succ,mE,ic];simp[h]
theorem mZ (l:List bz)(m:Nat):(dL l m).length≤m:=by unfold dL;rw[ce];exact fR (List.length_filter_le _ _) (by simp)
theorem qR {l:List bz}{m:Nat}{x:Int}(h:x∈dL l m):∃a:Nat,x=a∧a<m:=by obtain⟨a,j,rfl⟩:=dr.1 h;exact⟨a,rfl,fg.1 (List.mem_filter.1 j).1⟩
def cG (c:aE):List (List Int):=c.Nf.map fun b=>dL b.Ng.flatten c.Nf.length
theorem dT (c:aE):(cG c).length=c.Nf.length:=by simp[cG]
theorem qp {c:aE}{i:Nat}{b:aw}(h:c.Nf[i]? =some b):(cG c)[i]? =some (dL b.Ng.flatten c.Nf.length):=by unfold cG;rw[cL,h];rfl
theorem py {c:aE}(j:1≤c.Nf.length)(l:c.Nf.length≤256):aP (cG c):=by
 refine⟨by rw[dT];exact j,by rw[dT];exact l,fun row o=>?_⟩;rw[dT];obtain⟨b,_,rfl⟩:=dr.1 o;refine⟨fun x C=>?_,?_⟩
 ·obtain⟨a,rfl,J⟩:=qR C
  omega
 have h:(dL b.Ng.flatten c.Nf.length).Pairwise (·<·):=by unfold dL;refine List.pairwise_map.2 ((List.Pairwise.filter _ List.pairwise_lt_range).imp fun h=>?_);omega
 exact h.imp fun h=>by omega
theorem Fj {p:aH}{c:aE}{b:aw}(h:qi p c b){l:List bz}{x:bz}(J:l∈b.Ng)(R:x∈l)(C:x.kind=7):0≤x.ref∧x.ref<c.Nf.length:=by
 obtain⟨i,hi⟩:=cY.1 J;obtain⟨k,j⟩:=cY.1 R;obtain⟨n,d,r,a,e,_,_,_,_,_,_,Y,_⟩:=h.2.2.2.2.2.1 _ x (lF hi j);have o:r=true:=by rw[C] at e;cases e;rfl
 have:=Y o;rw[C] at this;exact this
def iq (Nc:Int)(l:List Int):List Bool:=l.map fun n=>decide (n<0)||decide (n≥Nc)
end Go.Proofs.YtncdbjponknakaaGreatDoor
