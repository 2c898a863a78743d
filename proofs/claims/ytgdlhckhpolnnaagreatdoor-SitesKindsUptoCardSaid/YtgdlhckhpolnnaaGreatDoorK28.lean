/- Part 29 of the proof (its last part says what is proved). No condition. -/
import Derived.Test.YtgdlhckhpolnnaaGreatDoorK24
import Derived.Test.YtgdlhckhpolnnaaGreatDoorK26
import Derived.Test.YtgdlhckhpolnnaaGreatDoorK27
namespace Go.Proofs.YtgdlhckhpolnnaaGreatDoor
set_option maxRecDepth 100000
set_option maxHeartbeats 8000000
open Go.RowKit Go.Proofs.Tryz
def Cy (p:aH)(c:aE)(w:World)(e:Ending)(w':World):Prop:=∃(j:Option Addr) (o C:Nat) (I:Option Addr) (J c2:Nat) (n:Int),e=.returned (.tuple #[.agg #[.slice j o C,.slice I J c2],.int .i64 n])∧(n=0↔eM p c)∧aa All w w'
theorem AH (S:Nat→Prop)(pv cv:Value)(p:aH)(c:aE)(w:World)(hp:dJ S w pv p)(hc:cQ S w cv c)(hl:gz w)(hS:∀b,S b→b<w.heap.size)(h7:kj p)(hz:lY c):
 Calls prog 100 #[pv,cv] w (Cy p c w):=by
 have e5:=cB.la hp;have e6:=dc.la hc;obtain⟨k4,vu,vi,vo,rfl,h8,h9,j0,j1,j2⟩:=hp;obtain⟨a1,n1,rfl,_⟩:=h8;obtain⟨a2,n2,rfl,_⟩:=h9;obtain⟨a3,n3,rfl,_⟩:=j0;obtain⟨a4,n4,rfl,_⟩:=j1;obtain⟨ka,kf,rfl,b2,b4,b6⟩:=hc;have e7:=bu.la b2;have e8:=bV.la b4;obtain⟨A1,c1,rfl,_⟩:=b2;obtain⟨A2,c2,rfl,_⟩:=b4;obtain⟨W0,a6⟩:=eQ (((w.alloc (.cells #[.slice a1 p.MZ.length n1,.slice a2 p.up.length n2,.slice a3 p.Nb.length n3,.slice a4 p.Na.length n4,.int .i64 p.Nc] 26)).alloc (.cells #[.slice A1 c.Nd.length c1,.slice A2 c.Nf.length c2,.int .i64 c.main] 30)).alloc (.cells #[.slice none 0 0,.slice none 0 0] 69));have k5:w.heap.size+3≤W0.heap.size:=by rw[a6];simp
 have e9:=aC3 a6;have bP:=aA2 a6;have bK:=aB1 a6 aE1;have bQ:=aB0 a6 aE2;have I:=J5 a6 e9 bP bK bQ;have HP:=J6 e5 e6 e7 e8 hl b6;clear a6 e9 bP bK bQ e5 e6 e7 e8 hl j2 b6;go_enter func100,ntmps100;go_upto_region 1 with fail;rw[←I.1];obtain⟨p0,p1,p2,p3,p4⟩:=I.2.2.1.c5;obtain⟨k0,k1,k2⟩:=I.2.2.2.1.c3;have HR:=oH (mo S _ p W0 (HP.1 W0 I.2.1) (HP.2.2.2.2.1.keep I.2.1));by_cases a8:dD p;·(
 rw[av a8] at HR;have j3:=oH a8;clear a8;go_wp2_with fail;refine HR.out.mono ?_;rintro e w1 ⟨rfl,b7⟩;have J:=oH b7;clear b7 k0 k1 k2 p0 p1 p2 p3 p4;have Y:=I.2.2.2.1.kept J.out trivial;obtain⟨k0,k1,k2⟩:=Y.c3;clear Y;by_cases hf:c.Nf.length≤64;·(
 have t1:decide ((64:Int)<(c.Nf.length:Int))=false:=by simp;omega
 by_cases ha:c.Nd.length≤16;·(
 have t2:decide ((16:Int)<(c.Nd.length:Int))=false:=by simp;omega
 have h0:=J2 hf ha;clear hf ha;have d7:=oH (I.2.1.trans J.out);have b8:=I.2.2.1.kept J.out trivial;obtain⟨p0,p1,p2,p3,p4⟩:=b8.c5;clear b8;have HC:=oH (DM S _ _ p c w1 (HP.1 w1 d7.out) (HP.2.1 w1 d7.out) h7 hz);go_wp2_with fail;refine HC.out.mono ?_;rintro e w2 ⟨B1,m1,d1,B2,m2,d2,b,rfl,hb,d9,h1⟩;have h2:=oH (J.out.trans d9);have j4:=oH h1;have k3:=oH d9;clear d9 h1 t1 t2 k0 k1 k2 p0 p1 p2 p3 p4;obtain⟨W3,b9⟩:=eQ (w2.alloc (.cells #[.slice B1 m1 d1,.slice B2 m2 d2] 69));have e0:=aC1 b9;have b3:=aA0 b9;have k6:w2.heap.size+1≤W3.heap.size:=by rw[b9];simp
 have k7:=h2.out.size;have H3:=J4 b9 (h2.out.trans e0) b3 e0;clear b9 e0 b3;by_cases R:pi p c;·(
 obtain rfl:b=true:=by rw[hb];exact av R
 have d8:=oH R;clear R hb;have j5:=oH (sI.keep (H3.2.2.2.all) (j4.out d8.out));have c0:=oH (I.2.1.trans H3.2.1);go_upto_region 4 with fail;rw[←H3.1];have b8:=I.2.2.1.kept H3.2.1 trivial;obtain⟨p0,p1,p2,p3,p4⟩:=b8.c5;obtain⟨q0,q1⟩:=H3.2.2.1.c2;clear b8;have k8:=c0.out.size;have j6:=oH (zc (fun b=>b<W3.heap.size) _ _ p (cP p c) W3 (cB.wide (fun b hb=>by have:=hS b hb;show b<_;omega) (HP.1 W3 c0.out)) (sI.wide (fun b (hb:w1.heap.size≤b∧b<w2.heap.size)=>by show b<_;omega) j5.out) (HP.2.2.2.2.1.keep c0.out) (fun _ h=>h));go_wp2_with fail;refine j6.out.mono ?_;rintro e w4 ⟨e1,R1,r1,s1,R2,r2,s2,mm,k9,n,rfl,C,c4⟩;clear p0 p1 p2 p3 p4 q0 q1;obtain⟨W5,c7⟩:=eQ (w4.alloc (.cells #[.slice R1 r1 s1,.slice R2 r2 s2,.int .i64 mm] 30));have c8:=aC1 c7;have b5:=aA0 c7;have H5:=J5 c7 (H3.2.1.trans (e1.trans c8)) b5 c8 (e1.trans c8);clear c7 c8 b5 e1;by_cases hr:ot p (cP p c);·(
 obtain⟨rfl,e2⟩:=c4 hr;obtain⟨v1,v2,hv,b2,b4,b6⟩:=e2;iterate 2 injection hv with hv
 simp only[List.cons.injEq,Value.int.injEq,true_and,and_true] at hv;obtain⟨rfl,rfl,rfl⟩:=hv;have a7:=J4 hr (bu.keep H5.2.2.2.1.all b2) (bV.keep H5.2.2.2.1.all b4) b6;clear hr b2 b4 b6 C c4;have h3:=oH (I.2.1.trans H5.2.1);go_upto_region 7 with fail;rw[←H5.1];obtain⟨r0,r1,r2⟩:=H5.2.2.1.c3;have Y:=I.2.2.2.1.kept H5.2.1 trivial;obtain⟨k0,k1,k2⟩:=Y.c3;clear Y;obtain⟨M,hM⟩:=eR ((qV p (cP p c)).main);rw[hM] at r2;by_cases hm:M=c.main
 ·have tm:(M !=c.main)=false:=by simpa using hm
  have HM:=oH (hM.trans hm);clear hm hM;have HQ:=oH (yh _ _ _ _ _ c.Nd W5 a7.2.1 (HP.2.2.1 W5 h3.out));go_wp2_with fail;refine HQ.out.mono ?_;rintro e w6 ⟨rfl,e3⟩;have c5:=oH (H5.2.1.trans e3);have c6:=oH e3;clear e3;by_cases b0:(qV p (cP p c)).Nd=c.Nd
  ·rw[bL b0];have j7:=oH b0;clear b0;clear r0 r1 r2 k0 k1 k2;have Y:=I.2.2.2.1.kept c5.out trivial;obtain⟨k0,k1,k2⟩:=Y.c3;have h4:=H5.2.2.1.kept c6.out trivial;obtain⟨r0,r1,r2⟩:=h4.c3;clear Y h4;skip;have j8:=oH (wJ _ _ _ _ _ c.Nf w6 (bV.keep c6.out.all a7.2.2.1) (HP.2.2.2.1 w6 (I.2.1.trans c5.out)));go_wp2_with fail;refine j8.out.mono ?_;rintro e w7 ⟨rfl,e4⟩;have c9:=oH (c5.out.trans e4);have h5:=oH (c6.out.trans e4);clear e4;by_cases b1:(qV p (cP p c)).Nf.map fC=c.Nf.map fC;·rw[av b1];have j9:=oH b1;clear b1;clear r0 r1 r2 k0 k1 k2;have h6:=(H3.2.2.1.kept (H5.2.2.2.2.trans h5.out) trivial);obtain⟨q0,q1⟩:=h6.c2;clear h6;have o:=I.2.2.2.2.kept c9.out trivial;obtain⟨x0,x1⟩:=o.c2;have f0:=o.free 0;have f1:=o.free 1;have j:=(o.set 0 (.slice B1 m1 d1)).set 1 (.slice B2 m2 d2);have g0:=j.cell 0;have g1:=j.cell 1;simp only[ga,gc] at g0 g1;have HE:=oH (am ((((I.2.1.trans c9.out).all (S:=fun b=>b<w.heap.size)).setCell (p:=⟨w.heap.size+1+1,0,none⟩) (.inl (by show¬(w.heap.size+1+1<w.heap.size);omega)) (.slice B1 m1 d1)).setCell (p:=⟨w.heap.size+1+1,1,none⟩) (.inl (by show¬(w.heap.size+1+1<w.heap.size);omega)) (.slice B2 m2 d2)));clear o j;go_wp2_with fail;exact bodyPost_ret (v:=.tuple #[.agg #[.slice B1 m1 d1,.slice B2 m2 d2],.int .i64 0]) (by simp[results,Tryz.f100,go_sem,g0,g1]) rfl ⟨B1,m1,d1,B2,m2,d2,0,rfl,⟨fun _=>⟨j3.out,h0.1,h0.2,d8.out,a7.1.2.1,a7.1.2.2,HM.out,j7.out,j9.out⟩,fun _=>rfl⟩,HE.out⟩
   rw[au b1];have HN:=oH b1;clear b1 r0 r1 r2 k0 k1 k2;have C:=oH (show¬eM p c from fun h=>HN.out h.2.2.2.2.2.2.2.2);have o:=I.2.2.2.2.kept (c9.out) trivial;obtain⟨x0,x1⟩:=o.c2;have f0:=o.free 0;have f1:=o.free 1;have j:=(o.set 0 (.slice none 0 0)).set 1 (.slice none 0 0);have g0:=j.cell 0;have g1:=j.cell 1;simp only[ga,gc] at g0 g1;have HE:=oH (am ((((I.2.1.trans (c9.out)).all (S:=fun b=>b<w.heap.size)).setCell (p:=⟨w.heap.size+1+1,0,none⟩) (.inl (by show¬(w.heap.size+1+1<w.heap.size);omega)) (.slice none 0 0)).setCell (p:=⟨w.heap.size+1+1,1,none⟩) (.inl (by show¬(w.heap.size+1+1<w.heap.size);omega)) (.slice none 0 0)));clear o j;go_wp2_with fail;exact bodyPost_ret (v:=.tuple #[.agg #[.slice none 0 0,.slice none 0 0],.int .i64 1]) (by simp[results,Tryz.f100,go_sem,g0,g1]) rfl ⟨none,0,0,none,0,0,1,rfl,⟨fun h=>absurd h (by decide),fun h=>absurd h C.out⟩,HE.out⟩
  rw[cI b0];have HN:=oH b0;clear b0 r0 r1 r2 k0 k1 k2 tm;have C:=oH (show¬eM p c from fun h=>HN.out h.2.2.2.2.2.2.2.1);have o:=I.2.2.2.2.kept (c5.out) trivial;obtain⟨x0,x1⟩:=o.c2;have f0:=o.free 0;have f1:=o.free 1;have j:=(o.set 0 (.slice none 0 0)).set 1 (.slice none 0 0);have g0:=j.cell 0;have g1:=j.cell 1;simp only[ga,gc] at g0 g1;have HE:=oH (am ((((I.2.1.trans (c5.out)).all (S:=fun b=>b<w.heap.size)).setCell (p:=⟨w.heap.size+1+1,0,none⟩) (.inl (by show¬(w.heap.size+1+1<w.heap.size);omega)) (.slice none 0 0)).setCell (p:=⟨w.heap.size+1+1,1,none⟩) (.inl (by show¬(w.heap.size+1+1<w.heap.size);omega)) (.slice none 0 0)));clear o j;go_wp2_with fail;exact bodyPost_ret (v:=.tuple #[.agg #[.slice none 0 0,.slice none 0 0],.int .i64 1]) (by simp[results,Tryz.f100,go_sem,g0,g1]) rfl ⟨none,0,0,none,0,0,1,rfl,⟨fun h=>absurd h (by decide),fun h=>absurd h C.out⟩,HE.out⟩
 have tm:(M !=c.main)=true:=by simpa using hm
 have HN:=oH (show¬(qV p (cP p c)).main=c.main from fun h=>hm (hM▸h));clear hm hM;have C:=oH (show¬eM p c from fun h=>HN.out h.2.2.2.2.2.2.1);have o:=I.2.2.2.2.kept (H5.2.1) trivial;obtain⟨x0,x1⟩:=o.c2;have f0:=o.free 0;have f1:=o.free 1;have j:=(o.set 0 (.slice none 0 0)).set 1 (.slice none 0 0);have g0:=j.cell 0;have g1:=j.cell 1;simp only[ga,gc] at g0 g1;have HE:=oH (am ((((I.2.1.trans (H5.2.1)).all (S:=fun b=>b<w.heap.size)).setCell (p:=⟨w.heap.size+1+1,0,none⟩) (.inl (by show¬(w.heap.size+1+1<w.heap.size);omega)) (.slice none 0 0)).setCell (p:=⟨w.heap.size+1+1,1,none⟩) (.inl (by show¬(w.heap.size+1+1<w.heap.size);omega)) (.slice none 0 0)));clear o j;go_wp2_with fail;exact bodyPost_ret (v:=.tuple #[.agg #[.slice none 0 0,.slice none 0 0],.int .i64 1]) (by simp[results,Tryz.f100,go_sem,g0,g1]) rfl ⟨none,0,0,none,0,0,1,rfl,⟨fun h=>absurd h (by decide),fun h=>absurd h C.out⟩,HE.out⟩)
 have hn:=C hr;have tn:(n !=0)=true:=by simpa using hn
 have HN:=oH hr;clear hr hn C c4;go_upto_region 7 with fail;rw[←H5.1];have C:=oH (show¬eM p c from fun h=>HN.out ⟨h.1,h.2.2.2.2.1,h.2.2.2.2.2.1⟩);have o:=I.2.2.2.2.kept (H5.2.1) trivial;obtain⟨x0,x1⟩:=o.c2;have f0:=o.free 0;have f1:=o.free 1;have j:=(o.set 0 (.slice none 0 0)).set 1 (.slice none 0 0);have g0:=j.cell 0;have g1:=j.cell 1;simp only[ga,gc] at g0 g1;have HE:=oH (am ((((I.2.1.trans (H5.2.1)).all (S:=fun b=>b<w.heap.size)).setCell (p:=⟨w.heap.size+1+1,0,none⟩) (.inl (by show¬(w.heap.size+1+1<w.heap.size);omega)) (.slice none 0 0)).setCell (p:=⟨w.heap.size+1+1,1,none⟩) (.inl (by show¬(w.heap.size+1+1<w.heap.size);omega)) (.slice none 0 0)));clear o j;go_wp2_with fail;exact bodyPost_ret (v:=.tuple #[.agg #[.slice none 0 0,.slice none 0 0],.int .i64 1]) (by simp[results,Tryz.f100,go_sem,g0,g1]) rfl ⟨none,0,0,none,0,0,1,rfl,⟨fun h=>absurd h (by decide),fun h=>absurd h C.out⟩,HE.out⟩)
 obtain rfl:b=false:=by rw[hb];exact au R
 have HN:=oH R;clear R hb;go_upto_region 4 with fail;rw[←H3.1];have C:=oH (show¬eM p c from fun h=>HN.out h.2.2.2.1);have o:=I.2.2.2.2.kept (H3.2.1) trivial;obtain⟨x0,x1⟩:=o.c2;have f0:=o.free 0;have f1:=o.free 1;have j:=(o.set 0 (.slice none 0 0)).set 1 (.slice none 0 0);have g0:=j.cell 0;have g1:=j.cell 1;simp only[ga,gc] at g0 g1;have HE:=oH (am ((((I.2.1.trans (H3.2.1)).all (S:=fun b=>b<w.heap.size)).setCell (p:=⟨w.heap.size+1+1,0,none⟩) (.inl (by show¬(w.heap.size+1+1<w.heap.size);omega)) (.slice none 0 0)).setCell (p:=⟨w.heap.size+1+1,1,none⟩) (.inl (by show¬(w.heap.size+1+1<w.heap.size);omega)) (.slice none 0 0)));clear o j;go_wp2_with fail;exact bodyPost_ret (v:=.tuple #[.agg #[.slice none 0 0,.slice none 0 0],.int .i64 1]) (by simp[results,Tryz.f100,go_sem,g0,g1]) rfl ⟨none,0,0,none,0,0,1,rfl,⟨fun h=>absurd h (by decide),fun h=>absurd h C.out⟩,HE.out⟩)
 have t2:decide ((16:Int)<(c.Nd.length:Int))=true:=by simp;omega
 have HN:=oH ha;clear ha;have C:=oH (show¬eM p c from fun h=>HN.out h.2.2.1);have o:=I.2.2.2.2.kept (J.out) trivial;obtain⟨x0,x1⟩:=o.c2;have f0:=o.free 0;have f1:=o.free 1;have j:=(o.set 0 (.slice none 0 0)).set 1 (.slice none 0 0);have g0:=j.cell 0;have g1:=j.cell 1;simp only[ga,gc] at g0 g1;have HE:=oH (am ((((I.2.1.trans (J.out)).all (S:=fun b=>b<w.heap.size)).setCell (p:=⟨w.heap.size+1+1,0,none⟩) (.inl (by show¬(w.heap.size+1+1<w.heap.size);omega)) (.slice none 0 0)).setCell (p:=⟨w.heap.size+1+1,1,none⟩) (.inl (by show¬(w.heap.size+1+1<w.heap.size);omega)) (.slice none 0 0)));clear o j;go_wp2_with fail;exact bodyPost_ret (v:=.tuple #[.agg #[.slice none 0 0,.slice none 0 0],.int .i64 1]) (by simp[results,Tryz.f100,go_sem,g0,g1]) rfl ⟨none,0,0,none,0,0,1,rfl,⟨fun h=>absurd h (by decide),fun h=>absurd h C.out⟩,HE.out⟩)
 have t1:decide ((64:Int)<(c.Nf.length:Int))=true:=by simp;omega
 have HN:=oH hf;clear hf;have C:=oH (show¬eM p c from fun h=>HN.out h.2.1);have o:=I.2.2.2.2.kept (J.out) trivial;obtain⟨x0,x1⟩:=o.c2;have f0:=o.free 0;have f1:=o.free 1;have j:=(o.set 0 (.slice none 0 0)).set 1 (.slice none 0 0);have g0:=j.cell 0;have g1:=j.cell 1;simp only[ga,gc] at g0 g1;have HE:=oH (am ((((I.2.1.trans (J.out)).all (S:=fun b=>b<w.heap.size)).setCell (p:=⟨w.heap.size+1+1,0,none⟩) (.inl (by show¬(w.heap.size+1+1<w.heap.size);omega)) (.slice none 0 0)).setCell (p:=⟨w.heap.size+1+1,1,none⟩) (.inl (by show¬(w.heap.size+1+1<w.heap.size);omega)) (.slice none 0 0)));clear o j;go_wp2_with fail;exact bodyPost_ret (v:=.tuple #[.agg #[.slice none 0 0,.slice none 0 0],.int .i64 1]) (by simp[results,Tryz.f100,go_sem,g0,g1]) rfl ⟨none,0,0,none,0,0,1,rfl,⟨fun h=>absurd h (by decide),fun h=>absurd h C.out⟩,HE.out⟩)
 rw[au a8] at HR;have HN:=oH a8;clear a8;go_wp2_with fail;refine HR.out.mono ?_;rintro e w1 ⟨rfl,b7⟩;have J:=oH b7;clear b7 p0 p1 p2 p3 p4 k0 k1 k2;have C:=oH (show¬eM p c from fun h=>HN.out h.1);have o:=I.2.2.2.2.kept (J.out) trivial;obtain⟨x0,x1⟩:=o.c2;have f0:=o.free 0;have f1:=o.free 1;have j:=(o.set 0 (.slice none 0 0)).set 1 (.slice none 0 0);have g0:=j.cell 0;have g1:=j.cell 1;simp only[ga,gc] at g0 g1;have HE:=oH (am ((((I.2.1.trans (J.out)).all (S:=fun b=>b<w.heap.size)).setCell (p:=⟨w.heap.size+1+1,0,none⟩) (.inl (by show¬(w.heap.size+1+1<w.heap.size);omega)) (.slice none 0 0)).setCell (p:=⟨w.heap.size+1+1,1,none⟩) (.inl (by show¬(w.heap.size+1+1<w.heap.size);omega)) (.slice none 0 0)));clear o j;go_wp2_with fail;exact bodyPost_ret (v:=.tuple #[.agg #[.slice none 0 0,.slice none 0 0],.int .i64 1]) (by simp[results,Tryz.f100,go_sem,g0,g1]) rfl ⟨none,0,0,none,0,0,1,rfl,⟨fun h=>absurd h (by decide),fun h=>absurd h C.out⟩,HE.out⟩
theorem AI (S:Nat→Prop)(pv cv:Value)(p:aH)(c:aE)(w:World)(hp:dJ S w pv p)(hc:cQ S w cv c)(hl:gz w)(hS:∀b,S b→b<w.heap.size)(a7:kj p)(hz:lY c):
 Calls prog 58 #[pv,cv] w fun e w'=>e=.returned (.bool (pB (eM p c)))∧aa All w w':=by
 have I:=cB.la hp;have J:=dc.la hc;obtain⟨b8,vu,vi,vo,rfl,a8,b0,b1,b2,b3⟩:=hp;obtain⟨a1,n1,rfl,_⟩:=a8;obtain⟨a2,n2,rfl,_⟩:=b0;obtain⟨a3,n3,rfl,_⟩:=b1;obtain⟨a4,n4,rfl,_⟩:=b2;obtain⟨ka,kf,rfl,b4,b5,b6⟩:=hc;obtain⟨A1,c1,rfl,_⟩:=b4;obtain⟨A2,c2,rfl,_⟩:=b5;obtain⟨R,C⟩:=eQ ((w.alloc (.cells #[.slice a1 p.MZ.length n1,.slice a2 p.up.length n2,.slice a3 p.Nb.length n3,.slice a4 p.Na.length n4,.int .i64 p.Nc] 26)).alloc (.cells #[.slice A1 c.Nd.length c1,.slice A2 c.Nf.length c2,.int .i64 c.main] 30));have j:=aC2 C;have b7:=j.size;have o:=AH S _ _ p c R (I R j) (J R j) (hl.keep j) (fun b hb=>by have:=hS b hb;omega) a7 hz;have Y:=J3 o j C;clear I J b3 b6 j C o b7 hl hS;go_enter func58,ntmps58;go_upto_region 1 with fail;rw[←Y.2.2];have bP:al R w.heap.size 26 #[.slice a1 p.MZ.length n1,.slice a2 p.up.length n2,.slice a3 p.Nb.length n3,.slice a4 p.Na.length n4,.int .i64 p.Nc]:=by rw[Y.2.2];exact(al.new _ _ _).alloc _
 have bK:al R (w.heap.size+1) 30 #[.slice A1 c.Nd.length c1,.slice A2 c.Nf.length c2,.int .i64 c.main]:=by rw[Y.2.2];exact ac (by simp)
 obtain⟨p0,p1,p2,p3,p4⟩:=bP.c5;obtain⟨k0,k1,k2⟩:=bK.c3;clear bP bK;go_wp2_with fail;refine Y.1.mono ?_;rintro e w1 ⟨B1,m1,d1,B2,m2,d2,n,rfl,hn,a6⟩;have HN:=J2 (Y.2.1.trans a6) (show decide (n=0)=pB (eM p c) by
  by_cases h:n=0;·rw[bL h,av (hn.1 h)]
  rw[cI h,au fun h'=>h (hn.2 h')])
 clear hn a6;go_wp2_with fail;go_ret;exact⟨by rw[←HN.2]<;>rfl,HN.1.alloc _⟩


theorem qad {E:Bool}{P:Prop}(h:E=true↔¬P):E=!pB P:=by
 by_cases j:P
 ·rw[av j];cases E
  ·rfl
  exact absurd j (h.1 rfl)
 rw[au j];exact h.2 j
theorem vd {α:Type}{L:List (List α)}{i k:Nat}{l:List α}(hi:L[i]? =some l)(j:k≤l.length):L.flatten.take ((L.take i).flatten.length+k)=(L.take i).flatten++l.take k:=by
 have e:L.flatten=(L.take i).flatten++(l++(L.drop (i+1)).flatten):=by rw[←List.flatten_cons,←List.flatten_append,←kE hi]
 rw[e,List.take_length_add_append,List.take_append_of_le_length j]
theorem IN {L:List (List bz)}{m:Nat}(h:∀l∈L,l.length≤m):L.flatten.length≤L.length*m:=by
 induction L with
 |nil=>simp
 |cons a L j=>have:=j fun l hl=>h l (List.mem_cons_of_mem _ hl);have:=h a (List.mem_cons_self ..);rw[List.flatten_cons,iQ,kI,Nat.succ_mul];omega

section
open Classical in
noncomputable def oK (p:aH)(c:aE):Int×Int×Int:=if bJ p c then ov c.Nf 0 else(0,0,1)
theorem wy {p:aH}{c:aE}(h:¬bJ p c):oK p c=(0,0,1):=by unfold oK;rw[ae h]
theorem nc {p:aH}{c:aE}(h:bJ p c):oK p c=ov c.Nf 0:=by unfold oK;rw[ap h]
theorem zS {l:List aw}{i:Nat}:(ov l i).2.2=0↔∀b∈l,(oh b).2=0:=by
 constructor;·(
 intro h;induction l generalizing i with
 |nil=>intro b j;cases j
 |cons a l C=>
  intro b j;rw[ov] at h;by_cases o:(oh a).2≠0;·rw[ap o] at h;exact absurd h o
  rw[ae o] at h;rcases fX.1 j with rfl|j;·exact Decidable.not_not.1 o
  exact C h b j)
 intro h;rw[mc h]
theorem uN {p:aH}{c:aE}:(oK p c).2.2=0↔bJ p c∧jH c:=by
 by_cases h:bJ p c;·rw[nc h,zS];exact⟨fun h'=>⟨h,h'⟩,fun h'=>h'.2⟩
 rw[wy h];exact⟨fun h'=>absurd h' (by decide),fun h'=>absurd h'.1 h⟩
def nH (p:aH)(c:aE)(w:World)(e:Ending)(w':World):Prop:=e=.returned (.tuple #[.int .i64 (oK p c).1,.int .i64 (oK p c).2.1,.int .i64 (oK p c).2.2])∧aa All w w'
theorem nH.of {p:aH}{c:aE}{w w':World}{x y z:Int}(h:oK p c=(x,y,z))(j:aa All w w'):nH p c w (.returned (.tuple #[.int .i64 x,.int .i64 y,.int .i64 z])) w':=⟨by rw[h],j⟩
end

def qbJ (b:aw)(v:Int):bz:=(b.Ng.flatten.reverse.find? fun x=>decide (0≤x.dst∧x.dst=v)).getD Mv
def qiR (c:aE)(r:Int):Int:=(c.Nd.getD r.toNat (0,0)).1
def qaV (c:aE)(b:aw)(v size:Int):Prop:=((qbJ b v).kind=1∧0≤(qbJ b v).num∧(qbJ b v).num<size)∨((qbJ b v).kind=5∧qiR c (qbJ b v).ref≤size)
instance (c:aE) (b:aw) (v size:Int):Decidable (qaV c b v size):=by unfold qaV;infer_instance
def qaA (c:aE)(b:aw)(x:bz):Int×Int:=
    if x.kind=2 then if(x.op=4∨x.op=5)∧((qbJ b (x.args.getD 1 0)).kind≠1∨(qbJ b (x.args.getD 1 0)).num=0) then(20,x.args.getD 1 0) else(0,0)
    else if x.kind=4∨x.kind=6 then if qaV c b (x.args.getD 0 0) (qiR c x.ref) then(0,0) else(21,x.args.getD 0 0)
    else(0,0)
structure qaJ where
 fn:Nat
 block:Nat
 Nj:Nat
 kind:Int
 value:Int
def qbp (c:aE)(b:aw)(fn k i:Nat)(x:bz):List qaJ:=if(qaA c b x).1=0 then [] else [⟨fn,k,i,(qaA c b x).1,(qaA c b x).2⟩]
def qaE (c:aE)(b:aw)(fn k:Nat)(l:List bz):List (List qaJ):=l.mapIdx (qbp c b fn k)
def qaz (c:aE)(fn:Nat)(b:aw):List (List qaJ):=b.Ng.mapIdx fun k l=>(qaE c b fn k l).flatten
def qav (c:aE):List (List qaJ):=c.Nf.mapIdx fun fn b=>(qaz c fn b).flatten
def qaF (c:aE):List qaJ:=(qav c).flatten
def SLt (a b:qaJ):Prop:=a.fn<b.fn∨a.fn=b.fn∧(a.block<b.block∨a.block=b.block∧a.Nj<b.Nj)
theorem qaM {c:aE}{b:aw}{fn k i:Nat}{x:bz}{s:qaJ}:s∈qbp c b fn k i x↔(qaA c b x).1≠0∧s=⟨fn,k,i,(qaA c b x).1,(qaA c b x).2⟩:=by
 unfold qbp;split;·rename_i h;simp[h]
 rename_i h;simp[h]
theorem qay {α β:Type}{l:List α}{g:Nat→α→β}{y:β}:y∈l.mapIdx g↔∃i x,l[i]? =some x∧y=g i x:=by
 rw[cY];constructor
 ·rintro⟨i,hi⟩
  rw[jA] at hi;obtain⟨x,j,rfl⟩:=oE.1 hi;exact⟨i,x,j,rfl⟩
 rintro⟨i,x,j,rfl⟩;exact⟨i,by rw[jA,j];rfl⟩
theorem qfm {c:aE}{s:qaJ}:s∈qaF c↔∃b l x,c.Nf[s.fn]? =some b∧b.Ng[s.block]? =some l∧l[s.Nj]? =some x∧(qaA c b x).1≠0∧s.kind=(qaA c b x).1∧s.value=(qaA c b x).2:=by
 unfold qaF qav;rw[List.mem_flatten];constructor;·rintro⟨L,hL,j⟩;obtain⟨fn,b,o,rfl⟩:=qay.1 hL;obtain⟨L2,C,j⟩:=List.mem_flatten.1 j;obtain⟨k,l,hl,rfl⟩:=qay.1 C;obtain⟨L3,I,j⟩:=List.mem_flatten.1 j;obtain⟨i,x,J,rfl⟩:=qay.1 I;obtain⟨R,rfl⟩:=qaM.1 j;exact⟨b,l,x,o,hl,J,R,rfl,rfl⟩
 rintro⟨b,l,x,o,hl,J,R,Y,h2⟩;refine⟨_,qay.2 ⟨s.fn,b,o,rfl⟩,List.mem_flatten.2 ⟨_,qay.2 ⟨s.block,l,hl,rfl⟩,List.mem_flatten.2 ⟨_,qay.2 ⟨s.Nj,x,J,rfl⟩,qaM.2 ⟨R,?_⟩⟩⟩⟩;cases s;simp only at Y h2;rw[Y,h2]
theorem qdk {α β:Type}{R:β→β→Prop}{l:List α}{g:Nat→α→List β}(I:∀i x,l[i]? =some x→(g i x).Pairwise R)(J:∀i j x y,i<j→l[i]? =some x→l[j]? =some y→∀a∈g i x,∀b∈g j y,R a b):((l.mapIdx g).flatten).Pairwise R:=by
 rw[List.pairwise_flatten];refine⟨fun L Y=>?_,List.pairwise_iff_getElem.2 fun i j hi C o=>?_⟩
 ·obtain⟨i,x,hx,rfl⟩:=qay.1 Y
  exact I i x hx
 rw[List.length_mapIdx] at hi C;rw[List.getElem_mapIdx,List.getElem_mapIdx];exact J i j _ _ o (lG hi) (lG C)
theorem qdn (c:aE):(qaF c).Pairwise SLt:=by
 refine qdk (fun fn b _=>qdk (fun k l _=>qdk (fun i x _=>?_) ?_) ?_) ?_
 ·unfold qbp
  split;·exact List.Pairwise.nil
  exact List.pairwise_singleton ..
 ·intro i j x y C _ _ a o R I
  obtain⟨_,rfl⟩:=qaM.1 o;obtain⟨_,rfl⟩:=qaM.1 I;exact .inr ⟨rfl,.inr ⟨rfl,C⟩⟩
 ·intro i j l m C _ _ a o R I;obtain⟨L,J,o⟩:=List.mem_flatten.1 o;obtain⟨p,x,_,rfl⟩:=qay.1 J;obtain⟨_,rfl⟩:=qaM.1 o;obtain⟨L,J,I⟩:=List.mem_flatten.1 I;obtain⟨q,y,_,rfl⟩:=qay.1 J;obtain⟨_,rfl⟩:=qaM.1 I;exact .inr ⟨rfl,.inl C⟩
 intro i j f g C _ _ a o R I;have key:∀ {n:Nat} {f:aw} {a:qaJ},a∈(qaz c n f).flatten→a.fn=n:=by intro n f a o;obtain⟨L,J,o⟩:=List.mem_flatten.1 o;obtain⟨k,l,_,rfl⟩:=qay.1 J;obtain⟨L,J,o⟩:=List.mem_flatten.1 o;obtain⟨p,x,_,rfl⟩:=qay.1 J;obtain⟨_,rfl⟩:=qaM.1 o;rfl
 rw[show SLt a R↔_ from Iff.rfl];exact .inl (by rw[key o,key I];exact C)
theorem qfz {c:aE}{b:aw}{x:bz}(h:(qaA c b x).1≠0):((x.kind=2∧(x.op=4∨x.op=5))↔(qaA c b x).1=20)∧((x.kind=2∧(x.op=4∨x.op=5))∨x.kind=4∨x.kind=6):=by
 unfold qaA at h⊢;split at h
 ·rename_i j;split at h
  ·rename_i o
   rw[ap j,ap o];exact⟨⟨fun _=>rfl,fun _=>⟨j,o.1⟩⟩,.inl ⟨j,o.1⟩⟩
  exact absurd rfl h
 rename_i j;split at h
 ·rename_i o;split at h;·exact absurd rfl h
  rename_i I;rw[ae j,ap o,ae I];exact⟨⟨fun C=>absurd C.1 j,fun C=>by cases C⟩,.inr o⟩
 exact absurd rfl h
namespace Q
def qfQ (x:Int×Int):List V:=[.s (.int .i64 x.1),.s (.int .i64 x.2)]
abbrev qaI (c:aE):List V:=[.row 2 16 (c.Nd.map qfQ) none,.row 3 40 (c.Nf.map qaW) none,.s (.int .i64 c.main)]
theorem qar (N:Nat)(c:aE):∀x∈qaI c,Lt N x:=by
 have j:∀e∈c.Nd.map qfQ,∀x∈e,Lt N x:=by rintro e he x C;obtain⟨a,_,rfl⟩:=dr.1 he;revert x;simp[LT,qfQ]
 have o:∀e∈c.Nf.map qaW,∀x∈e,Lt N x:=by simp only[dr,forall_exists_index,and_imp,forall_apply_eq_imp_iff₂];exact fun b _=>qbb N b
 exact al1 (.row _ _ _ _ j nofun) (al1 (.row _ _ _ _ o nofun) (al1 (.s _) al0))
theorem vb {a b:Bool}(h:a=true↔b=true):V.s (.bool a)=V.s (.bool b):=by rw[Bool.eq_iff_iff.2 h]
theorem qfa (op:Nat):VF prog 28 [.s (.int .u8 op)] (·=.s (.bool (decide (op=4∨op=5)))):=by
 refine qaR [2] func28 rfl Tryz.results28 ntmps28 rfl fun g w=>?_;refine st ?_;refine qaq (fun h=>?_) fun h=>?_
 all_goals
  refine st ?_;exact qaw ⟨.inl rfl,_,_,rfl,Ros.cons (.lt _ (.s _)) Ros.nil,vb (by simp;omega)⟩
theorem qfZ (es:List (MK×V))(k j:MK)(x:V):qbj (qbs es k x) j=if k=j then some x else qbj es j:=by
 induction es with
 |nil=>by_cases h:k=j<;>simp[qbs,qbj,h]
 |cons e es C=>
  simp only[qbs];split;·rename_i h;subst h;by_cases o:e.1=j<;>simp[qbj,o]
  rename_i h;by_cases o:e.1=j
  ·have:¬k=j:=fun I=>h (o.trans I.symm)
   simp[qbj,o,this]
  simpa [qbj,o] using C
theorem qeQ (l:List bz)(v:Int):qbj (qaN l) (.i .i64 v)=(l.reverse.find? fun x=>decide (0≤x.dst∧x.dst=v)).map fun x=>.agg (Oe x):=by
 have key:∀(r:List bz),qbj (qaN r.reverse) (.i .i64 v)=(r.find? fun x=>decide (0≤x.dst∧x.dst=v)).map fun x=>.agg (Oe x):=by(
 intro r;induction r with
 |nil=>rfl
 |cons x r j=>
  have e:qaN (x::r).reverse=qcj (qaN r.reverse) x:=by simp[qaN,List.foldl_append]
  rw[e,List.find?_cons];unfold qcj;by_cases h:0≤x.dst
  ·rw[ap h,qfZ];by_cases o:x.dst=v;·subst o;simp[h]
   simp[o,j]
  rw[ae h];simp[h,j])
 simpa using key l.reverse
theorem qec (c:aE)(b:aw)(v size:Int)(hr:∀x∈b.Ng.flatten,x.kind=5→0≤x.ref∧x.ref<c.Nd.length):
 VF prog 27 [.s (.int .i64 v),.s (.int .i64 size),.rp [.rmap (.int .i64) (qaN b.Ng.flatten)] 0,.rp (qaI c) 0] (·=.s (.bool (decide (qaV c b v size)))):=by
 refine qaR [6] func27 rfl Tryz.results27 ntmps27 rfl fun g w=>?_;have hm:=qeQ b.Ng.flatten v;rcases j:b.Ng.flatten.reverse.find? (fun x=>decide (0≤x.dst∧x.dst=v)) with _|x
 ·have hw:qbJ b v=Mv:=by unfold qbJ;rw[j];rfl
  rw[j] at hm;simp only[Option.map_none] at hm;refine st ?_;exact qaw ⟨.inl rfl,_,_,rfl,Ros.cons (.lt _ (.s _)) Ros.nil,vb (by simp[qaV,hw,Mv])⟩
 have hw:qbJ b v=x:=by unfold qbJ;rw[j];rfl
 rw[j] at hm;simp only[Option.map_some] at hm;have I:=hr x (by simpa using List.mem_of_find?_eq_some j);refine st ?_;refine qaq (fun h=>?_) fun h=>?_;all_goals refine st ?_
 ·refine qaq (fun o=>?_) fun o=>?_
  all_goals refine st ?_
  ·refine qbz (fun C=>?_) fun C=>?_
   all_goals
    refine st ?_;exact qaw ⟨.inl rfl,_,_,rfl,Ros.cons (.lt _ (.s _)) Ros.nil,vb (by simp at C;simp[qaV,hw];omega)⟩
  exact qaw ⟨.inl rfl,_,_,rfl,Ros.cons (.lt _ (.s _)) Ros.nil,vb (by simp[qaV,hw];omega)⟩
 refine qaq (fun o=>?_) fun o=>?_;·obtain⟨C,R⟩:=I (by omega);obtain⟨a,J⟩:∃a,c.Nd[x.ref.toNat]? =some a:=⟨_,lG (by omega)⟩;refine st ?_;refine qaw ⟨.inl rfl,_,_,rfl,Ros.cons (.lt _ (.s _)) Ros.nil,vb ?_⟩;simp[qaV,hw,qiR,J];omega
 refine st ?_;exact qaw ⟨.inl rfl,_,_,rfl,Ros.cons (.lt _ (.s _)) Ros.nil,vb (by simp[qaV,hw];omega)⟩
theorem qgQ {α:Type}{l:List α}(h:l.length=2):∃a b,l=[a,b]:=by
 match l,h with
 | [a,b],_=>exact⟨a,b,rfl⟩
theorem qhW (c:aE)(b:aw)(x:bz)(hr:∀x∈b.Ng.flatten,x.kind=5→0≤x.ref∧x.ref<c.Nd.length)(h2:x.kind=2→x.args.length=2)(h4:x.kind=4∨x.kind=6→0<x.args.length∧0≤x.ref∧x.ref<c.Nd.length):
 VF prog 17 [.agg (qaI c),.rmap (.int .i64) (qaN b.Ng.flatten),.agg (Oe x)] (·=.tup [.s (.int .i64 (qaA c b x).1),.s (.int .i64 (qaA c b x).2)]):=by
 refine qaR [6,7] func17 rfl Tryz.results17 ntmps17 rfl fun g w=>?_;have fin:∀ {e:Exit} {T:VT} {H:List HO} (r1 r2:Int),(e=.ret∨e=.normal)→Oo T 6=some (.s (.int .i64 r1))→Oo T 7=some (.s (.int .i64 r2))→qaA c b x=(r1,r2)→qcE [6,7] (·=.tup [.s (.int .i64 (qaA c b x).1),.s (.int .i64 (qaA c b x).2)]) e T H:=fun r1 r2 he C e2 e3=>⟨he,[.s (.int .i64 r1),.s (.int .i64 r2)],_,by simp[C,e2],Ros.cons (.lt _ (.s _)) (Ros.cons (.lt _ (.s _)) Ros.nil),by rw[e3];rfl⟩;refine st ?_;refine qbT (fun k2=>?_) fun k2=>?_;·(
 obtain⟨a0,J,ha⟩:=qgQ (h2 (by omega));have o:x.args[1]? =some J:=by rw[ha];rfl
 have hm:=qeQ b.Ng.flatten J;rcases hf:b.Ng.flatten.reverse.find? (fun x=>decide (0≤x.dst∧x.dst=J)) with _|y
 ·have hw:qbJ b J=Mv:=by unfold qbJ;rw[hf];rfl
  rw[hf] at hm;simp only[Option.map_none] at hm;refine st ?_;refine qaK 7 ?_;refine st ?_;refine qbN (qfa x.op) ?_;refine st ?_;refine qaq (fun I=>?_) fun I=>?_
  ·refine st ?_
   refine qaK 6 ?_;refine st ?_;exact qaw (fin 20 J (.inl rfl) rfl rfl (by simp[qaA,show x.kind=2 by omega,o,hw,I,Mv]))
  refine st ?_;exact qaw (fin 0 0 (.inl rfl) rfl rfl (by simp[qaA,show x.kind=2 by omega,o,hw,I,Mv]))
 have hw:qbJ b J=y:=by unfold qbJ;rw[hf];rfl
 rw[hf] at hm;simp only[Option.map_some] at hm;refine st ?_;refine qaK 7 ?_;refine st ?_;refine qbN (qfa x.op) ?_;refine st ?_;refine qaq (fun I=>?_) fun I=>?_;·(
 refine st ?_;refine qbz (fun j=>?_) fun j=>?_
 ·refine st ?_
  refine qaK 6 ?_;refine st ?_;exact qaw (fin 20 J (.inl rfl) rfl rfl (by simp at j;simp[qaA,show x.kind=2 by omega,o,hw,I];omega))
 refine st ?_;refine qbr (fun h6=>?_) fun h6=>?_
 ·refine st ?_
  refine qaK 6 ?_;refine st ?_;exact qaw (fin 20 J (.inl rfl) rfl rfl (by simp at j h6;simp[qaA,show x.kind=2 by omega,o,hw,I];omega))
 refine st ?_;exact qaw (fin 0 0 (.inl rfl) rfl rfl (by simp at j h6;simp[qaA,show x.kind=2 by omega,o,hw,I];omega)))
 refine st ?_;exact qaw (fin 0 0 (.inl rfl) rfl rfl (by simp[qaA,show x.kind=2 by omega,o,hw,I])))
 have main:x.kind=4∨x.kind=6→∃a0 aq R,x.args=a0::aq∧c.Nd[x.ref.toNat]? =some R∧0≤x.ref∧qiR c x.ref=R.1:=fun h=>by obtain⟨k1,k2,k3⟩:=h4 h;have e:c.Nd[x.ref.toNat]? =some (c.Nd[x.ref.toNat]'(by omega)):=lG (by omega);exact⟨_,_,_,(List.cons_head_tail (List.ne_nil_of_length_pos k1)).symm,e,k2,by simp[qiR,e]⟩
 have lend:∀ {H:List HO} (a0 sz:Int),H[1]? =some (.cells 57 [.rmap (.int .i64) (qaN b.Ng.flatten)])→H[0]? =some (.cells 30 (qaI c))→Ros H [.s (.int .i64 a0),.s (.int .i64 sz),.ptr 1 0,.ptr 0 0] [.s (.int .i64 a0),.s (.int .i64 sz),.rp [.rmap (.int .i64) (qaN b.Ng.flatten)] 0,.rp (qaI c) 0]:=fun a0 sz C e0=>
  Ros.cons (.lt _ (.s _)) (Ros.cons (.lt _ (.s _)) (Ros.cons (Ro.ptr' (Ros.lt (al1 (.rmap _ _ (qbx 0 _)) al0)) C) (Ros.cons (Ro.ptr' (Ros.lt (qar 0 c)) e0) Ros.nil)))
 refine st ?_;refine qbT (fun k4=>?_) fun k4=>?_;all_goals refine st ?_
 ·obtain⟨a0,aq,R,C,e2,e3,Y⟩:=main (.inl (by omega));refine qbT (fun _=>?_) fun k=>absurd k4 k;refine st ?_;refine qaK 14 ?_;refine st ?_;refine qeG (qec c b a0 R.1 hr) (lend a0 R.1 rfl rfl) ?_;refine st ?_;refine qbr (fun j=>?_) fun j=>?_
  ·refine st ?_
   refine qaK 6 ?_;refine st ?_;exact qaw (fin 21 a0 (.inl rfl) rfl rfl (by simp at j;simp[qaA,show x.kind=4 by omega,C,Y,j]))
  refine st ?_;exact qaw (fin 0 0 (.inl rfl) rfl rfl (by simp at j;simp[qaA,show x.kind=4 by omega,C,Y,j]))
 refine qbT (fun k6=>?_) fun k6=>?_
 ·obtain⟨a0,aq,R,C,e2,e3,Y⟩:=main (.inr (by omega));refine st ?_;refine qaK 14 ?_;refine st ?_;refine qeG (qec c b a0 R.1 hr) (lend a0 R.1 rfl rfl) ?_;refine st ?_;refine qbr (fun j=>?_) fun j=>?_
  ·refine st ?_
   refine qaK 6 ?_;refine st ?_;exact qaw (fin 21 a0 (.inl rfl) rfl rfl (by simp at j;simp[qaA,show x.kind=6 by omega,C,Y,j]))
  refine st ?_;exact qaw (fin 0 0 (.inl rfl) rfl rfl (by simp at j;simp[qaA,show x.kind=6 by omega,C,Y,j]))
 refine st ?_;exact qaw (fin 0 0 (.inl rfl) rfl rfl (by simp[qaA,show¬x.kind=2 by omega];omega))
end Q
section
namespace Q
section
variable {C:Cx} {T:VT} {H H':List HO} {dst:Option Tmp} {ty:TypeId} {pos:String} {af:Array Edge} {gd:Option (Nat×Bool)} {x y z:Operand} {p q r:V}
theorem qgR {g:Gh}{w:World}(k bw:Nat):VR g w (.row k bw [] none) (.slice none 0 0):=.row k bw [] none none 0 (fun _ _=>undef) (cf _) (Nat.zero_le _) (by simp) nofun nofun (fun i e j x h=>by cases h) nofun
theorem qgX {t e:TypeId}{n k bw:Nat}{es:List (List V)}{tok:Option Nat}{ln mx:Operand}(I:ev T x=some (.row k bw es tok))(hl:ev T ln=some (.s (.int .i64 es.length)))(hm:ev T mx=some (.s (.int .i64 es.length)))(hu:∀w,(underlying t).run C.P w=.ok (.slice e) w)(J:∀w,(Go.sizeOf e).run C.P w=.ok n w):OpP C ⟨dst,.slice t x none (some ln) (some mx),ty,pos,af,gd⟩ T H (.row k bw es none):=fun g a w o=>by
 have h:=o.ev I;generalize R:a.eval x=v at h;cases h with
 |row _ _ _ _ j c f Y h2 h3 hk ha hr ht=>
  have e2:=(o.ev hl).of_s;have e3:=(o.ev hm).of_s;refine⟨.slice (if es.length=0 then j else j.map (·.add (0*n))) (es.length-0) (es.length-0),by simp[execOp,R,Instr.sliceAt,Instr.slice,hu,Instr.sliceBounds,Instr.sliceBound,e2,e3,asIntOf,Y,J],?_⟩;have e:(if es.length=0 then j else j.map (·.add (0*n)))=j:=by(
 split;·rfl
 cases j<;>simp[Addr.add])
  rw[e];exact .row k bw es none j es.length f (cf _) (by omega) h3 hk ha hr nofun
variable {m:Option KT} {Q:VQ} {ops:Array Oper} {l:List Oper} {t:Nat} {f:Bool}
theorem qif {a e:TypeId}{n k bw nl:Nat}{es:List (List V)}{tok:Option Nat}{ln mx:Operand}(o:VO (md f m t) C ops Q l ((t,.row k bw es none)::T) H)(I:ev (rt m ⟨some t,.slice a x none (some ln) (some mx),ty,pos,af,none⟩ T) x=some (.row k bw es tok):=by rfl)(hl:ev (rt m ⟨some t,.slice a x none (some ln) (some mx),ty,pos,af,none⟩ T) ln=some (.s (.int .i64 nl)):=by rfl)(hm:ev (rt m ⟨some t,.slice a x none (some ln) (some mx),ty,pos,af,none⟩ T) mx=some (.s (.int .i64 nl)):=by rfl)(hu:∀w,(underlying a).run C.P w=.ok (.slice e) w:=by intro w;go_simp<;>first|with_reducible rfl|exact⟨rfl,rfl⟩)(J:∀w,(Go.sizeOf e).run C.P w=.ok n w:=by intro w;go_simp<;>with_reducible rfl)(hle:es.length=nl:=by simp)(R:Nat.blt t C.n=true:=by rfl)(j:FF m ⟨some t,.slice a x none (some ln) (some mx),ty,pos,af,none⟩ f:=by first|exact qba rfl|exact qaZ rfl):VO m C ops Q (⟨some t,.slice a x none (some ln) (some mx),ty,pos,af,none⟩::l) T H:=o_P (by subst hle;exact qgX I hl hm hu J) o rfl rfl (bl R) j
end
abbrev qaH (s:qaJ):List V:=[.s (.int .i64 s.fn),.s (.int .i64 s.block),.s (.int .i64 s.Nj),.s (.int .i64 s.kind),.s (.int .i64 s.value)]
theorem qhF (l:List qaJ):VF prog 18 [.row 5 40 (l.map qaH) none] (·=.row 5 40 (l.map qaH) none):=by refine qaR [2] func18 rfl Tryz.results18 ntmps18 rfl fun g w=>?_;refine st ?_;refine qif ?_;refine st ?_;exact qaw ⟨.inl rfl,_,_,rfl,Ros.cons (.row _ _ _ _ (by simp[LT,qaH])) Ros.nil,rfl⟩
theorem qhk (s:qaJ)(a b c:Int):VF prog 25 [.agg (qaH s),.rp [.s (.int .i64 a)] 0,.rp [.s (.int .i64 b)] 0,.rp [.s (.int .i64 c)] 0] (·=.s (.bool (decide (s.fn=a∧s.block=b∧s.Nj=c)))):=by
 refine qaR [5] func25 rfl Tryz.results25 ntmps25 rfl fun g w=>?_;refine st ?_;refine qaq (fun j=>?_) fun j=>?_;all_goals refine st ?_
 ·refine qaq (fun o=>?_) fun o=>?_
  all_goals
   refine st ?_;exact qaw ⟨.inl rfl,_,_,rfl,Ros.cons (.lt _ (.s _)) Ros.nil,vb (by simp;omega)⟩
 exact qaw ⟨.inl rfl,_,_,rfl,Ros.cons (.lt _ (.s _)) Ros.nil,vb (by simp;omega)⟩
def qcr (a b c:Int)(s:qaJ):Bool:=decide (s.fn=a∧s.block=b∧s.Nj=c)
abbrev qhE (a b c:Int):V:=.fn (.func 25) [.rp [.s (.int .i64 a)] 0,.rp [.s (.int .i64 b)] 0,.rp [.s (.int .i64 c)] 0]
def vj:Option Nat→Int
 |some i=>i
 |none=> -1
theorem qgP (l:List qaJ)(a b c:Int)(hl:l.length≤9223372036854775807):VF prog 57 [.row 5 40 (l.map qaH) none,qhE a b c] (·=.s (.int .i64 (vj (l.findIdx? (qcr a b c))))):=by
 refine qaR [4] func57 rfl Tryz.results57 ntmps57 rfl fun g w=>?_;refine st ?_;refine qbM (fun k=>k≤l.length∧∀j<k,∀x,l[j]? =some x→qcr a b c x=false) (fun k=>l.length-k) (fun k=>[(8,.s (.int .i64 k)),(7,.s (.int .i64 l.length)),(1,qhE a b c),(0,.row 5 40 (l.map qaH) none)]) (fun _=>[]) 0 ⟨Nat.zero_le _,nofun⟩ ⟨rfl,rfl,rfl,rfl,trivial⟩ (.inl rfl) ?_;intro k J;refine st ?_;refine qbT (fun h=>?_) fun h=>?_
 case refine_2=>
  refine qbL (st ?_);refine qaw ⟨.inl rfl,_,_,rfl,Ros.cons (.lt _ (.s _)) Ros.nil,?_⟩;have e:l.findIdx? (qcr a b c)=none:=List.findIdx?_eq_none_iff.2 fun x I=>by obtain⟨j,o⟩:=List.getElem?_of_mem I;have:=(lS.1 o).1;exact J.2 j (by omega) x o
  rw[e];rfl
 obtain⟨x,I⟩:=eG h;refine st ?_;refine qbN (qhk x a b c) ?_;refine st ?_;refine qbT (fun R=>?_) fun R=>?_
 ·refine st ?_
  refine qaw ⟨.inl rfl,_,_,rfl,Ros.cons (.lt _ (.s _)) Ros.nil,?_⟩;have e:l.findIdx? (qcr a b c)=some k:=List.findIdx?_eq_some_iff_getElem.2 ⟨by omega,by rw[(lS.1 I).2];simpa [qcr] using R,fun j o=>by simp[J.2 j o _ (lG (by omega))]⟩;rw[e];rfl
 refine st ?_;refine⟨k+1,⟨by omega,fun j o y Y=>?_⟩,by omega,⟨rfl,rfl,rfl,rfl,trivial⟩,.inl rfl⟩;by_cases e:j=k;·subst e;rw[I] at Y;cases Y;simpa [qcr] using R
 exact J.2 j (by omega) y Y
theorem qeo (l:List qaJ)(a b c:Int)(hl:l.length≤9223372036854775807):VF prog 24 [.row 5 40 (l.map qaH) none,qhE a b c] (·=.s (.bool (l.any (qcr a b c)))):=by refine qaR [4] func24 rfl Tryz.results24 ntmps24 rfl fun g w=>?_;refine st ?_;refine qbN (qgP l a b c hl) ?_;refine st ?_;refine qaw ⟨.inl rfl,_,_,rfl,Ros.cons (.lt _ (.s _)) Ros.nil,?_⟩;rw[←List.findIdx?_isSome];cases l.findIdx? (qcr a b c)<;>simp[vj,qeF]
end Q
end
end Go.Proofs.YtgdlhckhpolnnaaGreatDoor
