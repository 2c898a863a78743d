/- Part 35 of the proof (its last part says what is proved). No condition. -/
import Derived.ProofKit
import Derived.OpenShut
import Derived.Test.YtgdlhckhpolnnaaGreatDoorK33
namespace Go.Proofs.YtgdlhckhpolnnaaGreatDoor
set_option maxRecDepth 100000
set_option maxHeartbeats 8000000
open Go.RowKit Go.Proofs.Tryz
theorem Dg:(prog.info? 52).map (fun i=>(i.zero,i.size,i.bytes))=some (some (.agg #[.int .i64 0,.int .i64 0]),2,16):=by kernel_rfl
def qdC (c:aE)(w:World)(e:Ending)(w':World):Prop:=∃(A:Option Addr) (j:Nat) (v:Value) (mid:Nat),e=.returned (.agg #[.slice A c.Nd.length j,v,.int .i64 c.main])∧aa All w w'∧(0<c.Nd.length→∃o cs,A=some ⟨o,0,none⟩∧al w' o 52 cs)∧qay (fun b=>w.heap.size≤b∧b<mid) w' (.slice A c.Nd.length j) c.Nd∧mL (fun b=>mid≤b∧b<w'.heap.size) w' v c.Nf∧aV c.main∧w.heap.size≤mid∧mid≤w'.heap.size
theorem ux {α:Type}{n bw:Nat}{E:cO α}{P:Program}(w:World){ops:Array Oper}{rest:List Oper}{o:Oper}{a:Act}{Q:Exit→Act→World→Prop}(g:zG E)(a7:o.guard=none)(s x:Operand)(t:TypeId)
 (ho:o.op=.call {callee:=.builtin .append,args:=#[s,x],argTypes:=#[t,t]})
 (e:TypeId) (i:TypeInfo) (z:Value) (ht:P.underlying t=some (.slice e)) (hi:P.info? e=some i) (hz:i.zero=some z)
 (I:i.size=n) (a8:i.bytes=bw) (b0:z.cells.size=n) (b1:0<n)
 (B:Nat) (hs:a.eval s=.slice none 0 0) (hB:B≤w.heap.size) {S:Nat→Prop} {A:Option Addr} {m c:Nat} {l:List α} (hx:a.eval x=.slice A m c) (b2:rx n bw E S w (.slice A m c) l)
 (h:∀J c' w',rx n bw E (fun b=>B≤b∧b<w'.heap.size) w' (.slice J l.length c') l→(0<l.length→∃R cs,J=some ⟨R,0,none⟩∧B≤R∧al w' R e cs)→w.grownBy w' none→wpList P ops Q rest (a.put o.dst (.slice J l.length c')) w'):wpList P ops Q (o::rest) a w:=by
 obtain⟨hm,b7,Y,j,h1,h2,h3,h4⟩:=xn b2;have b3:j.flatten.length=m*n:=by
  have:∀L:List (List Value),(∀c∈L,c.length=n)→L.flatten.length=L.length*n:=by(
 intro L;induction L with
 |nil=>intro _;simp
 |cons c L ih=>intro hL;rw[List.flatten_cons,iQ,kI,Nat.succ_mul,ih fun d hd=>hL d (List.mem_cons_of_mem _ hd),hL c (List.mem_cons_self ..)];omega)
  rw[this j h2,h1,hm]
 have b4:∀u∈j.flatten,u.oneCell'=true:=by intro u hu;obtain⟨cs,b5,hu⟩:=List.mem_flatten.1 hu;obtain⟨k,hk⟩:=cY.1 b5;have b8:=(lS.1 hk).1;obtain⟨b9,a1,hE⟩:=h3 k _ (lG (by omega));rw[hk] at a1;cases a1;exact g.one hE u hu
 have a6:w.ownsRow B e n (.slice none 0 0) 0 []:=⟨by simp,.inl ⟨rfl,rfl⟩⟩;refine aR w a7 s x t ho B e i z n bw ht hi hz I a8 b0 b1 _ 0 [] hs a6 A m c j.flatten hx b3 h4 b4 (by omega) (by rw[cN,hm];exact Y) hB fun v' w' C b6 _=>?_;rw[cN,mF,hm] at C;obtain⟨J,c',rfl⟩:=aU C;refine h J c' w' (dR.read (E:=E) (B:=B) (e:=e) ?_ ?_ Y) (fun h0=>?_) b6
 rotate_left 2
 ·rcases C.2 with ⟨_,e0⟩|⟨R,_,cs,e1,e2,e3,_⟩
  ·omega
  cases e1;exact⟨R,cs,rfl,e2,e3⟩
 ·exact⟨fun _ hh=>g.any hh,fun _ hh=>g.any hh⟩
 exact⟨j,fun _=>False,C,h1,h2,fun _ hh=>hh.elim,fun k y hy=>by obtain⟨cs,hc,hE⟩:=h3 k y hy;exact⟨cs,hc,g.any hE⟩⟩
theorem qcI (S:Nat→Prop)(cv:Value)(c:aE)(w:World)(hc:cQ S w cv c)(hS:∀b,S b→b<w.heap.size)(hf:MH c):
 Calls prog 10 #[cv] w (qdC c w):=by
 obtain⟨iI,II⟩:=iH kt;obtain⟨iC,IC⟩:=iH Dg;obtain⟨iO,j3⟩:=iH FT;obtain⟨iR,IR⟩:=iH BZ;obtain⟨iB,IB⟩:=iH yx;have hc:=dc.wide hS hc;obtain⟨ka,kf,rfl,n5,n7,n8⟩:=hc;have e9:=bu.la n5;have n9:=bV.la n7;obtain⟨A1,c1,rfl,m1,m2,m3,_⟩:=n5;obtain⟨A2,c2,rfl,m4,m5,m6,_⟩:=n7;unfold maxLen at m2 m5;have s3:=hf.1;have HS:=J4 e9 n9 n8 hf;clear e9 n9 n8 hf hS;obtain⟨W0,b8⟩:=eQ ((w.alloc (.cells #[.slice A1 c.Nd.length c1,.slice A2 c.Nf.length c2,.int .i64 c.main] 30)).alloc (.cells #[.slice none 0 0,.slice none 0 0,.int .i64 0] 30));have w9:w.heap.size+2≤W0.heap.size:=by rw[b8];simp
 have s4:W0.heap.size≤w.heap.size+2:=by rw[b8];simp
 have o3:=zy b8;have bK:=aA1 b8;have bZ:=zo b8 vI;obtain⟨k0,k1,k2⟩:=bK.c3;have HW:=J4 b8 o3 bK bZ;clear b8 o3 bK bZ;go_enter func10,ntmps10;go_upto_region 1 with fail;rw[←HW.1];obtain⟨q3,h2⟩:=eQ W0.heap.size;obtain⟨W1,j4⟩:=eQ (W0.alloc (.cells #[.slice none 0 0,.slice none 0 0,.int .i64 c.main] 30));have o4:=yf j4;have b1:al W1 q3 30 #[.slice none 0 0,.slice none 0 0,.int .i64 c.main]:=by rw[j4,h2];exact al.new _ _ _
 have x0:q3<W1.heap.size:=b1.lt;have x1:W0.heap.size≤q3:=eE h2.symm;have x2:q3≤W0.heap.size:=eE h2;have H1:=J4 j4 o4 b1 h2;clear j4 o4 b1 h2;go_upto_region 2 with fail;rw[←H1.1,←H1.2.2.2];have bK:=H1.2.1;clear k0 k1 k2;have h3:=HW.2.2.1.kept H1.2.1 trivial;obtain⟨k0,k1,k2⟩:=h3.c3;clear h3 bK;have b9:=H1.2.2.1;obtain⟨o0,o1,o2⟩:=b9.c3;clear b9
 go_upto_region 3 with (at_builtin
                        go_loud (
                        refine ux (E:=rI) W1 qgd rfl (.tmp 14) (.tmp 16) 27 rfl 52 iC _ underlying27 IC.1 IC.2.1 IC.2.2.1 IC.2.2.2 rfl (by decide) W1.heap.size rfl (cf _) rfl (HS.1 W1 (HW.2.1.trans H1.2.1)) ?_;intro CA ca v0 e9 o5 o6;have b3:aa All W1 v0:=kR.grown o6 fun b R=>by cases R
                        have bb:=H1.2.2.1.kept b3 trivial;have f0:=bb.free 0;have y0:=bb.cl 0;have HV:=J3 e9 b3 bb;have o7:=oH o5;clear e9 o5 o6 b3 bb))
 have l8:=HV.2.2.set 0 (.slice CA c.Nd.length ca);have o:=(aa.refl (fun b=>b≠q3) v0).setCell (p:=⟨q3,0,none⟩) (.inl fun h=>h rfl) (.slice CA c.Nd.length ca);simp only[ga] at l8;have HT:=J2 l8 o;clear l8 o k0 k1 k2 o0 o1 o2 y0 f0;generalize v0.setCell _ _=W2 at*;have h4:aa (fun b=>b≠q3) W1 W2:=HV.2.1.all.trans HT.2;have j5:aa All w W2:=am ((HW.2.1.trans H1.2.1).all.trans (h4.mono fun b (R:b<w.heap.size)=>by show b≠_;omega));have b4:qay (fun b=>W1.heap.size≤b∧b<W2.heap.size) W2 (.slice CA c.Nd.length ca) c.Nd:=bT.Good.wide bu (fun b (R:W1.heap.size≤b∧b<v0.heap.size)=>show W1.heap.size≤b∧b<W2.heap.size by have:=HT.2.size;omega) (bT.Good.keep bu (HT.2.mono fun b (R:W1.heap.size≤b∧b<v0.heap.size)=>by show b≠_;omega) HV.1);have s5:=oH (show 0<c.Nd.length→∃gb cs,CA=some ⟨gb,0,none⟩∧W1.heap.size≤gb∧gb<W2.heap.size∧al W2 gb 52 cs from fun h=>by obtain⟨gb,cs,e1,e2,e3⟩:=o7.out h;have e4:=e3.kept HT.2 (by show _≠_;omega);exact⟨gb,cs,e1,e2,e4.lt,e4⟩);clear o7;have o8:=(HW.2.2.2.kept H1.2.1 trivial).kept h4 (by show _≠_;omega);have o9:=(HW.2.2.1.kept H1.2.1 trivial).kept h4 (by show _≠_;omega);have x3:W1.heap.size≤W2.heap.size:=h4.size;have H2:=J5 j5 HT.1 b4 o8 o9;clear h4 j5 b4 o8 o9 HT HV;go_wp2_with fail;go_loopg [4] c.Nf.length (fun gg s wr=>∃(i:Nat) (v:Value),i≤c.Nf.length∧gg=c.Nf.length-i∧s=.int .i64 i∧aa (fun b=>b≠q3) W2 wr∧al wr q3 30 #[.slice CA c.Nd.length ca,v,.int .i64 c.main]∧dR 3 42 qO W2.heap.size wr v (c.Nf.take i));·exact⟨0,_,by omega,by omega,rfl,kR,H2.2.1,by rw[List.take_zero];exact dR.nil⟩
 obtain⟨i,v,hi,rfl,rfl,I,b9,C⟩:=hrel;have x4:W2.heap.size≤wr.heap.size:=I.size;have h5:aa All w wr:=am (H2.1.all.trans (I.mono fun b (R:b<w.heap.size)=>by show b≠_;omega));have h3:=H2.2.2.2.2.kept I (by show _≠_;omega);obtain⟨k0,k1,k2⟩:=h3.c3;clear h3;by_cases s8:i<c.Nf.length;·(
 obtain⟨b,R⟩:=eG s8;have l9:=HS.2.2.2.2.2 b (mG R);obtain⟨gb,go,x9,rfl,_,_,j6,bv,rfl,p3,p4,p5⟩:=aZ (HS.2.1 wr h5) R;have l4:=bg.la p3;obtain⟨B1,d1,rfl,q1,q2,q4,_⟩:=p3;unfold maxLen at q2;have z0:=j6 0 _ rfl;rw[dj] at z0;have z1:=j6 1 _ rfl;have z2:=j6 2 _ rfl;obtain⟨W5,j7⟩:=eQ (wr.alloc (.cells #[.int .i64 b.params,.int .i64 b.vars,.slice B1 b.Ng.length d1] 42));have p6:=yf j7;have b5:=yv j7;have x5:=b5.lt;have v7:=l9.1;have HB:=J12 R l4 j7 p6 b5 I h5 b9 C p4 p5 l9.2;clear R l4 j7 p6 b5 I h5 b9 C p4 p5 j6 l9;obtain⟨wo,rfl⟩:=eQ wr;go_upto_region 7 with fail;rw[←HB.2.2.1];clear z0 z1 z2 k0 k1 k2;go_wp2_with fail;go_loopg [6,7] b.Ng.length (fun gg s6 s7 wn=>∃k:Nat,k≤b.Ng.length∧gg=b.Ng.length-k∧s7=.int .i64 k∧aa All W5 wn∧dR 1 43 (eT tZ) W5.heap.size wn s6 (b.Ng.take k));·exact⟨0,by omega,by omega,rfl,kR,by rw[List.take_zero];exact dR.nil⟩
 obtain⟨k,hk,rfl,rfl,I,C⟩:=hrel;have x6:W5.heap.size≤wr.heap.size:=I.size;have d8:=HB.2.2.2.2.1.kept I trivial;obtain⟨b0,b1,b2⟩:=d8.c3;by_cases p7:k<b.Ng.length;·(
 obtain⟨l,hl⟩:=eG p7;obtain⟨rb,ro,rv,rfl,_,p8,m9⟩:=bn (HB.2.1 wr (HB.2.2.2.1.trans I)) hl;have w0:=HB.2.2.2.2.2.2.2.2.2.2.2 l (mG hl);have p9:w.heap.size≤wr.heap.size:=by omega
 obtain⟨LA,lc,rfl,l1,l2,l3,_⟩:=id m9;unfold maxLen at l2;obtain⟨X,hX⟩:=eQ (wr.alloc (.cells #[] 56));have Y:=yf hX;have bX:=yv hX;have q0:=d8.alloc (.cells #[] 56);obtain⟨d0,d1,d2⟩:=q0.c3;have q5:=((aa.refl All wr).alloc (.cells #[] 56)).cell trivial p8;have HX:=J4 hX Y bX (cT.keep Y.all m9);have HL:=J3 hl I C;clear hX Y bX hl I C d8 q0 p8 m9;obtain⟨w6,rfl⟩:=eQ wr
 go_upto_region 12 with (at_builtin
                         go_loud (rw[←HX.1];refine tV X rfl (.tmp 38) (.tmp 43) 43 rfl iO _ underlying43 j3.1 j3.2.1 j3.2.2.1 j3.2.2.2 rfl w6.heap.size w6.heap.size rfl HX.2.2.1 rfl HX.2.2.2 (fun b R=>Nat.lt_of_lt_of_le R p9) ?_;intro A8 c8 v8 g8 w1 q6 q7 l5 l6;have q8:aa All w6 v8:=HX.2.1.grown l6 fun q hq=>.inr (eE (kJ hq));have HV:=J3 q8 q6 l5;clear q8 q6 l6 l5))
 clear b0 b1 b2 d0 d1 d2 q5;go_wp2_with fail;go_loopg [9] l.length (fun gg s9 wn=>∃j:Nat,j≤l.length∧gg=l.length-j∧s9=.int .i64 j∧aa (fun q=>q≠g8) v8 wn∧(0<l.length→ki g8 w6.heap.size j false wn l));·exact⟨0,by omega,by omega,rfl,kR,fun h=>(HV.2.1 h).2⟩
 obtain⟨j,hj,rfl,rfl,I,a1⟩:=hrel;have q9:=HV.1.size;have x7:=I.size;by_cases r0:j<l.length;·(
 obtain⟨x,hx⟩:=eG r0;obtain⟨rfl,w2⟩:=HV.2.1 (by omega);have a1:=a1 (by omega);have w3:g8<wr.heap.size:=by obtain⟨_,h,_⟩:=a1;exact h.lt
 have d9:=oH hx;have j8:=J2 I a1;clear I a1 w2 hx;obtain⟨a5,f5,xc,n0,e0,e7⟩:=j8.2.get d9.out;obtain⟨ua,uc,rfl,_⟩:=id e0;obtain⟨va,vc,rfl,_⟩:=id e7;obtain⟨X5,j9⟩:∃X,X=wr.alloc (.cells #[] 3):=⟨_,rfl⟩;have Y:=yf j9;have bX:=yv j9;have h6:=rB (ah.keep Y.all e0);have xq:=((aa.refl All wr).alloc (.cells #[] 3)).cell (p:=⟨g8,j*9+5,none⟩) trivial (xc 5 _ rfl);have h7:=j8.2.keep Y (fun _ _=>trivial);have k3:=J5 j9 Y bX h6 h7;clear j9 Y bX h6 h7 xc n0 e0 e7
 go_upto_region 16 with (at_builtin
                         go_loud (rw[←k3.1];refine gx (E:=eT rQ) X5 BR rfl (.tmp 53) (.tmp 58) 54 rfl 3 iI _ underlying54 II.1 II.2.1 II.2.2.1 II.2.2.2 rfl (by decide) wr.heap.size wr.heap.size rfl k3.2.2.1 (cf _) rfl k3.2.2.2.1 ?_;intro C5 e5 v5 r3 r4;have b3:aa (fun b=>b<wr.heap.size) X5 v5:=kR.grown r4 fun b R=>.inl fun h=>absurd (kJ R) (by omega);have c4:aa All wr v5:=am (k3.2.1.all.trans b3);have c5:=j8.2.keep c4 (fun _ _=>trivial);obtain⟨a',f',h8,b6,_,_⟩:=c5.get d9.out;have y5:=h8 5 _ rfl;have w4:=b6 5;have k4:=J3 c4 c5 (jT r3);clear r3 r4 b3 c4 c5 h8 b6))
 have o:=(aa.refl (fun b=>b≠g8) v5).setCell (p:=⟨g8,j*9+5,none⟩) (.inl fun h=>h rfl) (.slice C5 x.args.length e5);have r5:=k4.2.1.args (u:=.slice C5 x.args.length e5) d9.out (ah.wide (fun b R=>⟨by omega,by omega⟩) k4.2.2);have k5:=J2 o r5;have w5:=k4.1.size;have s0:=o.size;clear o r5 xq y5 w4;generalize v5.setCell _ _=W6 at*;obtain⟨a6,f6,xc,n0,e0,e7⟩:=k5.2.get d9.out;obtain⟨ua,uc,rfl,_⟩:=id e0;obtain⟨va,vc,rfl,_⟩:=id e7;obtain⟨X6,k6⟩:∃X,X=W6.alloc (.cells #[] 3):=⟨_,rfl⟩;have Y:=yf k6;have bX:=yv k6;have h6:=rB (ah.keep Y.all e7);have xq:=((aa.refl All W6).alloc (.cells #[] 3)).cell (p:=⟨g8,j*9+6,none⟩) trivial (xc 6 _ rfl);have h7:=k5.2.keep Y (fun _ _=>trivial);have k7:=J5 k6 Y bX h6 h7;clear k6 Y bX h6 h7 xc n0 e0 e7;go_wp2_with (at_builtin;go_loud (rw[←k7.1];refine gx (E:=eT rQ) X6 BR rfl (.tmp 64) (.tmp 69) 54 rfl 3 iI _ underlying54 II.1 II.2.1 II.2.2.1 II.2.2.2 rfl (by decide) W6.heap.size W6.heap.size rfl k7.2.2.1 (cf _) rfl k7.2.2.2.1 ?_;intro C6 e6 v6 r7 r8;have b3:aa (fun b=>b<W6.heap.size) X6 v6:=kR.grown r8 fun b R=>.inl fun h=>absurd (kJ R) (by omega);have c4:aa All W6 v6:=am (k7.2.1.all.trans b3);have c5:=k5.2.keep c4 (fun _ _=>trivial);obtain⟨a',f',h8,b6,_,_⟩:=c5.get d9.out;have y6:=h8 6 _ rfl;have y1:=b6 6;have n1:=J3 c4 c5 (jT r7);clear r7 r8 b3 c4 c5 h8 b6));go_roundg (l.length-(j+1))
 ·have h1:=j8.1.trans (k4.1.all.trans k5.1)
  have o:=(aa.refl (fun b=>b≠g8) v6).setCell (p:=⟨g8,j*9+6,none⟩) (.inl fun h=>h rfl) (.slice C6 x.Nh.length e6);exact⟨j+1,by omega,rfl,by go_num,h1.trans (n1.1.all.trans o),fun _=>n1.2.1.Nh (u:=.slice C6 x.Nh.length e6) d9.out (ah.wide (fun b R=>⟨by omega,by omega⟩) n1.2.2)⟩
 omega)
 obtain rfl:j=l.length:=by omega
 have l7:tZ (fun b=>w6.heap.size≤b∧b<wr.heap.size) wr (.slice A8 l.length c8) l:=by
  by_cases h0:0<l.length
  ·obtain⟨rfl,_⟩:=HV.2.1 h0
   exact(a1 h0).done w1 q7 HV.2.2 l3
  exact⟨_,_,rfl,q7,HV.2.2,l3,fun i x hx=>by have:=(lS.1 hx).1;omega⟩
 have n2:aa All w6 wr:=am (HV.1.all.trans (I.mono fun b (R:b<w6.heap.size)=>by show b≠_;omega));obtain⟨A6,c6,rfl⟩:=HL.2.2.form;rw[fN,Nat.min_eq_left hk];have C:=HL.2.2;rw[fN,Nat.min_eq_left hk] at C;have h9:=C.keep (aS cT) (n2.alloc (.cells #[.slice A8 l.length c8] 43)) (fun _ _ _=>trivial);have HM:=J3 n2 C l7;clear I a1 l7 n2 C;go_wp2_with (
  at_builtin;refine bN (E:=eT tZ) _ (aS cT) rfl (.tmp 73) (.tmp 75) 40 rfl iR _ 24 underlying40 IR.1 IR.2.1 IR.2.2.1 IR.2.2.2 rfl (by decide) _ _ rfl h9 wr.heap.size 0 1 rfl [.slice A8 l.length c8] l rfl ?_ ?_ (by rw[fN];omega) (by omega) (by simp;omega) (fun b=>w6.heap.size≤b∧b<wr.heap.size) ?_ ?_ ?_
  ·intro j u hu
   rw[cN,al.cell (al.new _ _ _)];simpa using hu
  ·intro u hu
   rw[cx.1 hu];rfl
  ·intro b R;obtain⟨xs,ho⟩:=HM.2.1.own;refine⟨by omega,by have:=R.2;simp;omega,fun e=>?_⟩;have:=(aD ho e).2;omega
  ·exact⟨_,rfl,cT.keep (kR.alloc _) HM.2.2⟩
  intro A9 c9 v9 J b7 a7;have c7:aa All W5 v9:=((HL.2.1.trans HM.1).alloc _).grown b7 fun b R=>.inr (a7 b R);rw[fN,Nat.min_eq_left hk] at J;have H9:=J2 c7 J;clear c7 J b7 a7 h9)
 go_roundg (b.Ng.length-(k+1));·exact⟨k+1,by omega,rfl,by go_num,H9.1,by rw[show b.Ng.take (k+1)=b.Ng.take k++[l] by rw[cU,HL.1];rfl];exact H9.2⟩
 omega)
 obtain rfl:k=b.Ng.length:=by omega
 rw[dZ] at C;obtain⟨A6,c6,rfl⟩:=C.form;have f5:=d8.free 2;have j0:=d8.set 2 (.slice A6 b.Ng.length c6);have o:=(aa.refl (fun q=>q≠wo.heap.size) wr).setCell (p:=⟨wo.heap.size,2,none⟩) (.inl fun h=>h rfl) (.slice A6 b.Ng.length c6);simp only[ga] at j0;obtain⟨W8,n3⟩:=eQ (wr.setCell ⟨wo.heap.size,2,none⟩ (.slice A6 b.Ng.length c6));rw[←n3] at j0 o;have q9:wr.heap.size≤W8.heap.size:=o.size;have j1:=C.keep (aS cT) o (fun q h1 _=>by show q≠_;omega);have k8:aa All wo W8:=am ((HB.2.2.2.1.trans I).all.trans (o.mono fun q (hq:q<wo.heap.size)=>by show q≠_;omega));have k9:=HB.2.2.2.2.2.2.2.1.kept k8 trivial;obtain⟨Av,e8,rfl⟩:=HB.2.2.2.2.2.2.2.2.1.form;rw[fN,Nat.min_eq_left hi] at k9;obtain⟨p0,p1,p2⟩:=k9.c3;obtain⟨d0,d1,d2⟩:=j0.c3;have d7:=HB.2.2.2.2.2.2.2.2.1.keep gI (k8.alloc (.cells #[.int .i64 b.params,.int .i64 b.vars,.slice A6 b.Ng.length c6] 42)) (fun _ _ _=>trivial);have a8:bW (fun q=>W5.heap.size≤q∧q<W8.heap.size) W8 (.slice A6 b.Ng.length c6) b.Ng:=jT (j1.read (aS cT) (by omega));rw[fN,Nat.min_eq_left hi] at d7;have j2:∀q,(Value.slice Av i e8).ownBlock=some q→q<wo.heap.size:=by intro q e;obtain⟨xs,ho⟩:=HB.2.2.2.2.2.2.2.2.1.own;rw[fN,Nat.min_eq_left hi] at ho;exact(aD ho e).2
 have HM:=J6 n3 k8 j0 k9 j2 a8;clear n3 k8 j0 k9 j2 a8 j1 o I C d8;go_upto_region 19 with fail;rw[←HM.1];clear b0 b1 b2 f5;go_wp2_with (
  at_builtin;go_loud (
  refine bN (E:=qO) _ gI rfl (.tmp 80) (.tmp 82) 28 rfl iB _ 40 underlying28 IB.1 IB.2.1 IB.2.2.1 IB.2.2.2 rfl (by decide) _ _ rfl d7 W8.heap.size 0 1 rfl [.int .i64 b.params,.int .i64 b.vars,.slice A6 b.Ng.length c6] b rfl ?_ ?_ (by rw[fN];omega) (by omega) (by simp;omega) (fun q=>W5.heap.size≤q∧q<W8.heap.size) ?_ ?_ ?_
  ·intro j u hu
   rw[cN,al.cell (al.new _ _ _)];simpa using hu
  ·intro u hu;simp only[fX,List.not_mem_nil,or_false] at hu;rcases hu with rfl|rfl|rfl<;>rfl
  ·intro q hq;refine⟨by omega,by have:=hq.2;simp;omega,fun e=>?_⟩;have:=HM.2.2.2.2.1 q e;omega
  ·exact⟨_,rfl,bg.keep (kR.alloc _) HM.2.2.2.2.2,HB.2.2.2.2.2.2.2.2.2.1,HB.2.2.2.2.2.2.2.2.2.2.1⟩
  intro A9 c9 v9 J b7 a7;have c7:aa (fun q=>q<W2.heap.size) wo v9:=((HM.2.1.mono fun _ _=>trivial).alloc _).grown b7 fun q hq=>.inl fun h=>by have:=a7 q hq;omega
  have l0:=HB.2.2.2.2.2.2.2.1.kept c7 (by show _<_;omega);have y9:=l0.cl 1;have f9:=l0.free 1;rw[fN,Nat.min_eq_left hi] at J;have H9:=J3 c7 J l0;have x8:=c7.size;clear c7 J b7 a7 d7 l0))
 go_roundg (c.Nf.length-(i+1));·have o:=(aa.refl (fun b=>b≠q3) v9).setCell (p:=⟨q3,1,none⟩) (.inl fun h=>h rfl) (.slice A9 (i+1) c9);have r9:=H9.2.2.set 1 (.slice A9 (i+1) c9);simp only[ga] at r9;have j5:aa (fun b=>b≠q3) W2 v9:=⟨H9.1.os.trans HB.2.2.2.2.2.1.os,H9.1.output.trans HB.2.2.2.2.2.1.output,by omega,fun q hq w7=>(H9.1.block q (by omega) hq).trans (HB.2.2.2.2.2.1.block q hq w7)⟩;refine⟨i+1,.slice A9 (i+1) c9,by omega,rfl,by go_num,j5.trans o,r9,?_⟩;rw[show c.Nf.take (i+1)=c.Nf.take i++[b] by rw[cU,HB.1];rfl];exact H9.2.1.keep gI o (fun q h1 _=>by show q≠_;omega)
 omega)
 obtain rfl:i=c.Nf.length:=by omega
 rw[dZ] at C;obtain⟨Av,e8,rfl⟩:=C.form;have hz:=H2.2.2.2.1.kept I (by show _≠_;omega);obtain⟨p0,p1,p2⟩:=b9.c3;obtain⟨z0,z1,z2⟩:=hz.c3;have f0:=hz.free 0;have f1:=hz.free 1;have f2:=hz.free 2;have n4:=((hz.set 0 (.slice CA c.Nd.length ca)).set 1 (.slice Av c.Nf.length e8)).set 2 (.int .i64 c.main);have o:=(((aa.refl (fun b=>b≠w.heap.size+1) wr).setCell (p:=⟨w.heap.size+1,0,none⟩) (.inl fun h=>h rfl) (.slice CA c.Nd.length ca)).setCell (p:=⟨w.heap.size+1,1,none⟩) (.inl fun h=>h rfl) (.slice Av c.Nf.length e8)).setCell (p:=⟨w.heap.size+1,2,none⟩) (.inl fun h=>h rfl) (.int .i64 c.main);simp only[ga] at n4;obtain⟨c0,c1,c2⟩:=n4.c3;have a8:mL (fun q=>W2.heap.size≤q∧q<wr.heap.size) wr (.slice Av c.Nf.length e8) c.Nf:=C.read gI (by omega);have b4:=bT.Good.keep bu (I.mono fun b (R:W1.heap.size≤b∧b<W2.heap.size)=>by show b≠_;omega) H2.2.2.1;have w8:=oH (show 0<c.Nd.length→∃gb cs,CA=some ⟨gb,0,none⟩∧W1.heap.size≤gb∧al wr gb 52 cs from fun h=>by obtain⟨gb,cs,e1,e2,_,e3⟩:=s5.out h;exact⟨gb,cs,e1,e2,e3.kept I (by show _≠_;omega)⟩);have HF:=J4 o a8 b4 h5;clear o a8 b4 h5 n4 hz C I b9;go_wp2_with fail;generalize ((wr.setCell _ _).setCell _ _).setCell _ _=WF at*;have y2:=HF.1.size;refine bodyPost_ret (v:=.agg #[.slice CA c.Nd.length ca,.slice Av c.Nf.length e8,.int .i64 c.main]) (by simp[results,Tryz.f10,go_sem,c0,c1,c2]) rfl ⟨CA,ca,_,W2.heap.size,rfl,am (HF.2.2.2.all.trans (HF.1.mono fun b (R:b<w.heap.size)=>by show b≠_;omega)),fun h=>?_,?_,?_,HS.2.2.1,by omega,by omega⟩
 ·obtain⟨gb,cs,e1,e2,e3⟩:=w8.out h
  exact⟨gb,cs,e1,e3.kept HF.1 (by show _≠_;omega)⟩
 ·exact bT.Good.wide bu (fun b (R:W1.heap.size≤b∧b<W2.heap.size)=>show w.heap.size≤b∧b<W2.heap.size by omega) (bT.Good.keep bu (HF.1.mono fun b (R:W1.heap.size≤b∧b<W2.heap.size)=>by show b≠_;omega) HF.2.2.1)
 exact bT.Good.wide bV (fun b (R:W2.heap.size≤b∧b<wr.heap.size)=>show W2.heap.size≤b∧b<WF.heap.size by omega) (bT.Good.keep bV (HF.1.mono fun b (R:W2.heap.size≤b∧b<wr.heap.size)=>by show b≠_;omega) HF.2.1)
namespace Q
def qaC (c:aE)(k:Int):aE:=⟨c.Nd.map fun a=>(a.1+k,a.2),c.Nf,c.main⟩
theorem qdd {c:aE}{k:Int}(r:Int):qbv (qaC c k) r=qbv c r+k∨(qbv (qaC c k) r=0∧qbv c r=0):=by
 unfold qbv qaC;simp only[iG,cL];cases c.Nd[r.toNat]? with
 |none=>exact .inr ⟨rfl,rfl⟩
 |some a=>exact .inl rfl
theorem qeX {p:aH}{c:aE}{k:Int}(J:0≤k)(o:bJ p c){s:qaI}(R:s∈qaw (qaC c k)):s∈qaw c:=by
 obtain⟨b,l,x,Y,hl,I,h1,h2,h3⟩:=qcW.1 R;have j:c.Nf[s.fn]? =some b:=Y;have hS:=qbi o (mG j);have C:x∈b.Ng.flatten:=List.mem_flatten.2 ⟨l,mG hl,mG I⟩;have e:=qeP (c:=c) (d:=qaC c k) (b:=b) (x:=x) qdd J (fun hk=>by
  obtain⟨_,h4,h5⟩:=hS.mem x C hk;rcases qdd (c:=c) (k:=k) x.ref with h|⟨h,_⟩;·exact h
  have:x.ref.toNat<c.Nd.length:=by omega
  unfold qbv qaC;simp only[iG,cL,lG this,Option.map_some,Option.getD_some]) h1
 exact qcW.2 ⟨b,l,x,j,hl,I,by rw[e];exact h1,by rw[e];exact h2,by rw[e];exact h3⟩
theorem qhG {p:aH}{c:aE}{k n:Int}{b:aw}{x:bz}(h:aT p c b n x):aT p (qaC c k) b n x:=by
 have e:∀j,cW p (qaC c k) b j=cW p c b j:=fun j=>by simp[cW,qaC]
 unfold aT at h⊢;simp only[e];exact h
theorem qhF {p:aH}{c:aE}{k:Int}(h:qaL p c)(h0:0≤k)(j:∀a∈c.Nd,a.1+k≤256):qaL p (qaC c k):=by
 obtain⟨⟨h1,C,I,J,R,Y,h7,h8,h9⟩,hs⟩:=h;refine⟨⟨h1,by simpa [qaC] using C,I,J,R,Y,fun a ha=>?_,fun b hb=>?_,h9⟩,hs⟩
 ·obtain⟨a,o,rfl⟩:=dr.1 ha
  have:=h7 a o;have:=j a o;exact⟨by show 1≤a.1+k;omega,by show a.1+k≤256;omega,by show 0≤a.2;omega,by show a.2<_;omega⟩
 obtain⟨k1,k2,k3,k4,k5,k6,k7⟩:=h8 b hb;exact⟨k1,k2,k3,k4,k5,fun i x hx=>qhG (k6 i x hx),k7⟩
theorem qhE {p:aH}{c:aE}{k:Int}(h:qaZ p c)(C:rK c)(Y:0≤k)(j:∀a∈c.Nd,a.1+k≤256):qaZ p (qaC c k):=by refine⟨h.pol,⟨h.code.main,fun a I=>?_,h.code.fns⟩,h.psm,⟨by simpa [qaC] using h.csm.Nd,h.csm.Nf,h.csm.Ng,h.csm.ops,h.csm.op⟩,Dr names ⟨C.main,C.ops⟩⟩;obtain⟨a,o,rfl⟩:=dr.1 I;obtain⟨J,R⟩:=h.code.arr a o;have:=j a o;unfold aV at J⊢;exact⟨by show _∧_;constructor<;>omega,R⟩
def wk (c:aE)(k:Int)(i:Nat):List (List V):=c.Nd.mapIdx fun j a=>if j<i then [.s (.int .i64 (a.1+k)),.s (.int .i64 a.2)] else qbI a
theorem qcH (c:aE)(k:Int)(i:Nat):(wk c k i).length=c.Nd.length:=by simp[wk]
theorem qbN (c:aE)(k:Int)(i:Nat):∀e∈wk c k i,e.length=2:=by intro e he;obtain⟨j,o⟩:=cY.1 he;unfold wk at o;rw[jA] at o;obtain⟨a,_,rfl⟩:=oE.1 o;split<;>rfl
theorem qiC (c:aE)(k:Int):wk c k c.Nd.length=(qaC c k).Nd.map qbI:=by
 apply List.ext_getElem?;intro i;simp only[wk,qaC,jA,cL,List.map_map];cases h:c.Nd[i]? with
 |none=>rfl
 |some a=>simp[(lS.1 h).1,qbI]
theorem qdA {c:aE}{k:Int}{i:Nat}{a:Int×Int}(h:c.Nd[i]? =some a)(j:Nat):(wk c k j)[i]? =some (if i<j then [.s (.int .i64 (a.1+k)),.s (.int .i64 a.2)] else qbI a):=by simp[wk,h]
theorem qdS {α:Type}{k:Nat}:∀ {es:List (List α)},(∀e∈es,e.length=k)→∀ {i j:Nat} {e:List α} (x:α),es[i]? =some e→j<k→es.flatten.set (i*k+j) x=(es.set i (e.set j x)).flatten
 | [],_,i,_,_,_,h,_=>by simp at h
 |a::es,o,0,j,e,x,h,C=>by simp at h;subst h;have:=o a (List.mem_cons_self ..);simp[this,C]
 |a::es,o,i+1,j,e,x,h,C=>by simp at h;have I:=o a (List.mem_cons_self ..);have:=qdS (fun e he=>o e (List.mem_cons_of_mem _ he)) x h C;rw[List.flatten_cons,List.set_append,ae (by rw[I,Nat.succ_mul];omega),List.set_cons_succ,List.flatten_cons,←this,I];congr 2;rw[Nat.succ_mul];omega
theorem qiD {c:aE}{k:Int}{i:Nat}{a:Int×Int}(h:c.Nd[i]? =some a)(post:List V):((wk c k i).flatten++post).set (i*2) (.s (.int .i64 (a.1+k)))=(wk c k (i+1)).flatten++post:=by
 have hi:=(lS.1 h).1;have hl:(wk c k i).flatten.length=c.Nd.length*2:=by rw[qaS (qbN c k i),qcH]
 rw[List.set_append,ap (by rw[hl];omega)];have:=qdS (qbN c k i) (j:=0) (.s (.int .i64 (a.1+k))) (qdA h i) (by omega);rw[dj] at this;rw[this];congr 2;apply List.ext_getElem?;intro j;rw[List.getElem?_set];by_cases e:i=j
 ·subst e
  rw[ap rfl,ap (by rw[qcH];exact hi),qdA h,ae (by omega),ap (by omega)];rfl
 rw[ae e];simp only[wk,jA];cases C:c.Nd[j]? with
 |none=>rfl
 |some b=>
  simp only[Option.map_some];by_cases o:j<i;·rw[ap o,ap (by omega)]
  rw[ae o,ae (by omega)]
theorem qiY {c:aE}{k:Int}{i:Nat}{a:Int×Int}(h:c.Nd[i]? =some a)(j:Nat)(post:List V):((wk c k j).flatten++post)[i*2]? =some (.s (.int .i64 (if i<j then a.1+k else a.1))):=by
 have hi:=(lS.1 h).1;have hl:(wk c k j).flatten.length=c.Nd.length*2:=by rw[qaS (qbN c k j),qcH]
 rw[ma (by rw[hl];omega)];have:=lF (qbN c k j) (j:=0) (qdA h j) (by omega);rw[dj] at this;rw[this];split<;>rfl
def qhH (c:aE)(k:Int)(N:Nat)(q:V)(o:HO):Prop:=∃x,q=.agg [x,.row 3 40 (c.Nf.map qaH) none,.s (.int .i64 c.main)]∧qbd x=true∧(c.Nd=[]∧x=.row 2 16 ((qaC c k).Nd.map qbI) none∧o=.tok 52 2 0∨∃cap post,x=.sl N 0 c.Nd.length cap∧o=.cells 52 ((wk c k 0).flatten++post)∧∀y∈post,y=.any)
theorem qhX {c:aE}(k:Int)(hI:qcq c)(hf:MH c){g:Gh}{w:World}{H:List HO}{vs:List Value}(J:HR g w H)(hv:da g w [.agg (qax c)] vs):Calls prog 10 vs.toArray w fun e w'=>∃v q o g',e=.returned v∧qhH c k H.length q o∧Le g w g' w'∧VR g' w' q v∧HR g' w' (H++[o]):=by
 obtain⟨_,_,rfl,h1,rfl⟩:=hv.inv;refine(qcI (fun b=>b<w.heap.size) _ c w (qct J.lt hI h1) (fun b h=>h) hf).mono ?_;rintro e w' ⟨A,ca,v,mid,rfl,hk,C,R,hb,hm,h5,h6⟩;have a1:∀ {G:Gh},(∀b,mid≤b∧b<w'.heap.size→∀o,G.fz b o)→VR G w' (.row 3 40 (c.Nf.map qaH) none) v:=fun hS=>qdO (.of hS) hb;rcases Nat.eq_zero_or_pos c.Nd.length with h0|h0;·have e0:=oD h0;obtain⟨g',l1,r1,_⟩:=qdx (e:=52) (k:=2) (HR.frz J hk);refine⟨_,_,_,g',rfl,⟨_,rfl,rfl,.inl ⟨e0,rfl,rfl⟩⟩,(Le.frz J hk).trans l1,?_,r1⟩;refine VR.le l1 (qdG (da.cons ?_ (da.cons (a1 fun b hb o=>.inr ⟨by omega,hb.2⟩) (da.cons (.s _) da.nil))));rw[e0] at R⊢;rw[qaC,e0];obtain⟨_,_,e1,k1,k2,_⟩:=R;cases e1;exact .row 2 16 [] none _ _ (fun _ _=>undef) k1 k2 (by simp) nofun (fun h=>by simp at h) (fun i e j x h=>by simp at h) nofun
 obtain⟨gb,us,rfl,hB⟩:=C h0;obtain⟨_,_,e1,k1,k2,k3,k4⟩:=R;cases e1;have a6:w.heap.size≤gb∧gb<mid:=by obtain⟨b,off,cs,I,hS,_⟩:=k4 0 _ (lG h0);cases I;exact hS
 have cells:∀(i:Nat) a,c.Nd[i]? =some a→us.toList[i*2]? =some (.int .i64 a.1)∧us.toList[i*2+1]? =some (.int .i64 a.2):=fun i a hi=>by obtain⟨b,off,cs,I,hS,_,hc,hE⟩:=k4 i a hi;cases I;obtain⟨rfl,_⟩:=hE;have Y:=hc 0 _ rfl;have c1:=hc 1 _ rfl;rw[hB.cell] at Y c1;simp only[cN,dj] at Y c1;simpa using⟨Y,c1⟩
 have hlen:c.Nd.length*2≤us.toList.length:=by have:=(cells (c.Nd.length-1) _ (lG (by omega))).2;have:=(lS.1 this).1;omega
 have hl:(wk c k 0).flatten.length=c.Nd.length*2:=by rw[qaS (qbN c k 0),qcH]
 have a7:∀ {G:Gh},da G w' ((wk c k 0).flatten++List.replicate (us.toList.length-c.Nd.length*2) .any) us.toList:=by(
 refine⟨by simp only[iQ,List.length_replicate,hl];omega,fun i x u C hu=>?_⟩;rcases Nat.lt_or_ge i (c.Nd.length*2) with hi|hi
 ·rw[ma (by omega)] at C;have a8:i/2<c.Nd.length:=by omega
  have R:=lG a8;have hg:=lF (qbN c k 0) (j:=i%2) (qdA R 0) (by omega);obtain⟨Y,c1⟩:=cells _ _ R;have e:i/2*2+i%2=i:=by omega
  rw[e,C] at hg;have:i%2=0∨i%2=1:=by omega
  rcases this with I|I<;>rw[I] at hg<;>simp[qbI] at hg<;>subst hg;·rw[I,dj] at e;rw[e,hu] at Y;cases Y;exact .s _
  rw[I] at e;rw[e,hu] at c1;cases c1;exact .s _
 rw[kH (by omega),List.getElem?_replicate] at C;split at C;·cases C;exact .any _
 cases C)
 refine⟨_,.agg [.sl H.length 0 c.Nd.length ca,.row 3 40 (c.Nf.map qaH) none,.s (.int .i64 c.main)],.cells 52 ((wk c k 0).flatten++List.replicate (us.toList.length-c.Nd.length*2) .any),g.giv H.length gb w.heap.size w',rfl,⟨.sl H.length 0 c.Nd.length ca,rfl,rfl,.inr ⟨ca,List.replicate (us.toList.length-c.Nd.length*2) .any,rfl,rfl,fun y hy=>List.eq_of_mem_replicate hy⟩⟩,Le.giv J hk a6.1,?_,HR.giv (o:=.cells _ _) J hk a6.1 ⟨gb,us.toList,⟨by simp[Gh.giv],(J.nil _ (cf _)).2⟩,by simpa using hB,a7,fun o e=>e.elim (fun e=>by have:=qaP J e;omega) fun e=>e.2.2 rfl⟩⟩;exact qdG (da.cons (.sl _ _ _ _ gb (by simp[Gh.giv]) k1 k2) (da.cons (a1 fun b hb o=>.inr ⟨by omega,hb.2,by omega⟩) (da.cons (.s _) da.nil)))
end Q
namespace Q
theorem qgF (a b:qaI)(w:World):(binOp .eql 47 (.agg #[.int .i64 a.fn,.int .i64 a.block,.int .i64 a.Nj,.int .i64 a.kind,.int .i64 a.value]) (.agg #[.int .i64 b.fn,.int .i64 b.block,.int .i64 b.Nj,.int .i64 b.kind,.int .i64 b.value])).run prog w=.ok (.bool (pB (a=b))) w:=by
 have h:prog.stoodInHeld 47=false:=by kernel_rfl
 by_cases e:a=b;·subst e;rw[av rfl];go_simp
 rw[au e];obtain⟨j,a2,a3,a4,a5⟩:=a;obtain⟨o,C,I,J,R⟩:=b;simp only[qaI.mk.injEq] at e;go_simp;intros;omega
theorem qja (p:aH)(c:aE)(k:Nat)(hI:qaZ p c)(hn:rK c)(b3:k<256):VFL LM prog 5 [.agg (qaY p),.agg (qax c),.s (.int .u8 k)] (·=.s (.bool true)):=by
 refine qbW [6] func5 rfl Tryz.results5 ntmps5 rfl fun g w hL hk=>?_;have fin:∀ {e:Exit} {T:VT} {H:List HO},e=.ret→Oo T 6=some (.s (.bool true))→qcM [6] (·=.s (.bool true)) e T H:=fun he e1=>⟨.inl he,[.s (.bool true)],_,by simp[e1],yc.cons (.lt _ (.s _)) yc.nil,by simp[qeU]⟩;refine st ?_;refine qjZ _ (fun J w' vs hl hh hv=>qip hI hh hv) ?_;rintro _ ⟨few,rfl,a8⟩;refine st ?_;refine qcg (fun h=>?_) fun h=>?_
 ·refine st ?_
  exact qar (fin rfl rfl)
 have hf:=a8 (by simpa using h);refine st ?_;have C:=qdI p c hI (fun h b hb=>qbi h.1 hb) qba;unfold qdH at C;by_cases hr:qaL p c
 case neg=>(rw[ae hr] at C;refine qaG (fun J w' hle=>C w' (LM.keep hL (hk J w' hle)).1) ?_ (hl:=xz (.agg _ (qaN 0 p)) (xz (.agg _ (qaA 0 c)) ik));refine st ?_;refine qaG (fun J w' hle=>qdj w' (LM.keep hL (hk J w' hle))) ?_;refine st ?_;exact qar (fin rfl rfl))
 rw[ap hr] at C;refine qaG (fun J w' hle=>C w' (LM.keep hL (hk J w' hle)).1) ?_ (hl:=xz (.agg _ (qaN 0 p)) (xz (.agg _ (qaA 0 c)) ik));refine st ?_;refine qiw (qhH c k 2) (fun J w' vs hl hh hv=>qhX k hI.code hf hh hv) ?_;rintro _ o ⟨x,rfl,b4,hR⟩;refine qfr ?_;refine qeq ?_ (h1:=by simp only[qaq,List.all_cons,List.all_nil,b4];rfl);refine qhL ?_;refine qiN (fun o':HO=>HLt 3 o'∧∀a∈c.Nd,a.1+k≤256) (fun _=>[(9,.ptr 3 0),(7,.row 5 40 ((qaw c).map qaB) none),(3,.ptr 0 0)]) (fun o'=>[.cells 26 (qaY p),.cells 30 (qax c),o',.cells 30 (qax (qaC c k))]) ?_ ?_;·(
 rcases hR with ⟨e0,rfl,rfl⟩|⟨cap,post,rfl,rfl,b5⟩
 ·refine st ?_;refine qbf (fun j=>j=0) (fun _=>0) (fun _=>[(10,.s (.int .i64 0)),(9,.ptr 3 0),(7,.row 5 40 ((qaw c).map qaB) none),(3,.ptr 0 0)]) (fun _=>[.cells 26 (qaY p),.cells 30 (qax c),.tok 52 2 0,.cells 30 (qax (qaC c k))]) 0 rfl ⟨rfl,rfl,rfl,rfl,trivial⟩ (.inl rfl) ?_;rintro j rfl;refine st ?_;refine qbu (fun h=>?_) fun h=>?_;·exact absurd h (by simp[qaC,e0])
  refine qbe ?_;exact⟨.tok 52 2 0,⟨trivial,fun a ha=>by rw[e0] at ha;cases ha⟩,⟨rfl,rfl,rfl,trivial⟩,.inl rfl⟩
 refine st ?_;refine qbf (fun j=>j≤c.Nd.length∧∀(i:Nat) a,i<j→c.Nd[i]? =some a→a.1+k≤256) (fun j=>c.Nd.length-j) (fun j=>[(10,.s (.int .i64 j)),(9,.ptr 3 0),(7,.row 5 40 ((qaw c).map qaB) none),(3,.ptr 0 0),(2,.s (.int .u8 k))]) (fun j=>[.cells 26 (qaY p),.cells 30 (qax c),.cells 52 ((wk c k j).flatten++post),.cells 30 [.sl 2 0 c.Nd.length cap,.row 3 40 (c.Nf.map qaH) none,.s (.int .i64 c.main)]]) 0 ⟨Nat.zero_le _,fun i a hi=>by omega⟩ ⟨rfl,rfl,rfl,rfl,rfl,trivial⟩ (.inl rfl) ?_;rintro j ⟨hj,b0⟩;have c1:=hI.csm.Nd;refine st ?_;refine qbu (fun h=>?_) fun h=>?_
 case refine_2=>(
 have ej:j=c.Nd.length:=by omega
 subst ej;refine qgK 2 3 0 c.Nd.length cap 2 16 _ _ [] post [.sl 2 0 c.Nd.length cap,.row 3 40 (c.Nf.map qaH) none,.s (.int .i64 c.main)] (qax (qaC c k)) ((qaC c k).Nd.map qbI) (by decide) (by rw[qiC];rfl) rfl rfl (fun e he=>by obtain⟨a,_,rfl⟩:=dr.1 he;rfl) (by simp[qaC]) (by have:=hI.csm.Nd;simp[qaC];omega) rfl (fun i x y hx hy=>?_) ?_
 ·rcases i with _|_|_|i<;>simp at hx hy
  ·exact .inr ⟨hx.symm,hy.symm⟩
  ·exact .inl (hx.symm.trans hy)
  exact .inl (hx.symm.trans hy)
 refine qbe ?_;exact⟨.gone,⟨trivial,fun a ha=>by obtain⟨i,hi⟩:=cY.1 ha;exact b0 i a (lS.1 hi).1 hi⟩,⟨rfl,rfl,rfl,trivial⟩,.inl rfl⟩)
 obtain⟨a,ha⟩:∃a,c.Nd[j]? =some a:=⟨_,lG (by omega)⟩;have c4:=hr.1.2.2.2.2.2.2.1 a (mG ha);have b1:∀m:Nat,vld false 1 ((wk c k m).flatten++post) (0+j*2+0)=some (.s (.int .i64 (if j<m then a.1+k else a.1))):=fun m=>by have:=qiY (k:=k) ha m post;simpa [vld] using this
 refine st ?_;refine qeW ?_ (hy:=b1 j);rw[ae (Nat.lt_irrefl j)];refine st ?_;refine qfs ?_ (hl:=Nat.ble_eq_true_of_le (by
  have:((wk c k j).flatten++post).length=c.Nd.length*2+post.length:=by rw[iQ,qaS (qbN c k j),qcH]
  rw[this];simp only[qaq,kI,List.length_nil];omega)) (H':=[.cells 26 (qaY p),.cells 30 (qax c),.cells 52 ((wk c k (j+1)).flatten++post),.cells 30 [.sl 2 0 c.Nd.length cap,.row 3 40 (c.Nf.map qaH) none,.s (.int .i64 c.main)]]) (hH:=by have:=qiD (k:=k) ha post;simp only[ga,qaq,wr,cN,dj,this])
 refine st ?_;refine qeW ?_ (hy:=b1 (j+1));rw[ap (Nat.lt_succ_self j)];refine st ?_;refine qbu (fun R=>?_) fun R=>?_
 ·refine st ?_
  refine qaG (fun J w' hle=>qdj w' (LM.keep hL (hk J w' hle))) ?_;refine st ?_;exact qar (fin rfl rfl)
 refine st ?_;exact⟨j+1,⟨by omega,fun i b hi hb=>by
  by_cases e:i=j;·subst e;rw[ha] at hb;cases hb;omega
  exact b0 i b (by omega) hb⟩,by omega,⟨rfl,rfl,rfl,rfl,rfl,trivial⟩,.inl rfl⟩)
 rintro o' ⟨c5,Y⟩;have b6:=qhE hI hn (by omega) Y;have b2:=qhF (k:=k) hr (by omega) Y;have I:=qdI p (qaC c k) b6 (fun h b hb=>qbi h.1 hb) qba;unfold qdH at I;rw[ap b2] at I;have a1:∀s∈qaw (qaC c k),s∈qaw c:=fun s hs=>qeX (by omega) hr.1 hs;refine st ?_;refine qaG (fun J w' hle=>I w' (LM.keep hL (hk J w' hle)).1) ?_ (hl:=xz (.agg _ (qaN 0 p)) (xz (.agg _ (qaA 0 _)) ik));obtain⟨M,hM⟩:=eQ (qaw (qaC c k));obtain⟨L,a6⟩:=eQ (qaw c);have b7:=qba b2;have b8:=qba hr;rw[←hM] at b7;rw[←a6] at b8;rw[←hM,←a6] at a1⊢;clear hM a6;refine st ?_;refine qbf (fun i=>i≤M.length) (fun i=>M.length-i) (fun i=>[(13,.s (.int .i64 i)),(11,.row 5 40 (M.map qaB) none),(7,.row 5 40 (L.map qaB) none)]) (fun _=>[.cells 26 (qaY p),.cells 30 (qax c),o',.cells 30 (qax (qaC c k))]) 0 (Nat.zero_le _) ⟨rfl,rfl,rfl,trivial⟩ (.inl rfl) ?_;intro i hi;refine st ?_;refine qbu (fun h=>?_) fun h=>?_
 case refine_2=>refine qbe (st ?_);refine qaG (fun J w' hle=>qdj w' (LM.keep hL (hk J w' hle))) ?_;refine st ?_;exact qar (fin rfl rfl)
 obtain⟨s,hs⟩:=eG h;have b9:=a1 s (mG hs);refine st ?_;refine qbf (fun j=>j≤L.length) (fun j=>L.length-j) (fun j=>[(15,.s (.int .i64 j)),(14,.s (.bool (pB (s∈L.take j)))),(13,.s (.int .i64 i)),(11,.row 5 40 (M.map qaB) none),(7,.row 5 40 (L.map qaB) none)]) (fun _=>[.cells 26 (qaY p),.cells 30 (qax c),o',.cells 30 (qax (qaC c k))]) 0 (Nat.zero_le _) ⟨rfl,by rw[au (by simp)];rfl,rfl,rfl,rfl,trivial⟩ (.inl rfl) ?_;intro j hj;refine st ?_;refine qbu (fun h2=>?_) fun h2=>?_
 case refine_2=>(
 refine qbe (st ?_);refine qcg (fun R=>?_) fun R=>?_;·rw[oF (by omega),av b9] at R;cases R
 refine st ?_;exact⟨i+1,by omega,by omega,⟨rfl,rfl,rfl,trivial⟩,.inl rfl⟩)
 obtain⟨s2,c0⟩:∃s,L[j]? =some s:=⟨_,lG h2⟩;have ht:L.take (j+1)=L.take j++[s2]:=by rw[cU,c0];rfl
 refine st ?_;refine qaW 12 ?_;refine st ?_;refine qcy (fun R=>?_) fun R=>?_
 ·have a7:some (V.s (.bool true))=some (V.s (.bool (pB (s∈L.take (j+1))))):=by(
 by_cases hm:s∈L.take j;·rw[av (by rw[ht];exact List.mem_append_left _ hm)]
 rw[au hm] at R;cases R)
  refine st ?_;exact⟨j+1,by omega,by omega,⟨rfl,a7,rfl,rfl,rfl,trivial⟩,.inl rfl⟩
 have a7:some (V.s (.bool (pB (s2=s))))=some (V.s (.bool (pB (s∈L.take (j+1))))):=by(
 by_cases hm:s∈L.take j;·rw[av hm] at R;cases R
 by_cases e:s2=s;·rw[av e,av (by rw[ht,e];simp)]
 rw[au e,au (by rw[ht,eD,cx];rintro(h|h);exact hm h;exact e h.symm)])
 refine st ?_;refine qgS ?_ (h:=qgF s2 s);refine st ?_;exact⟨j+1,by omega,by omega,⟨rfl,a7,rfl,rfl,rfl,trivial⟩,.inl rfl⟩
end Q

def In (w:World)(e:Ending)(w':World):Prop:=e=.returned (.bool true)∧aa All w w'
theorem qfT (S:Nat→Prop)(o C:Value)(p:aH)(c:aE)(k:Nat)(w:World)(hk:k<256)(Y:dJ S w o p)(hc:cQ S w C c)(hl:gz w)(hm:Ws w)(hS:∀b,S b→b<w.heap.size)(I:kj p)(J:lY c)(j:rK c):
 Calls prog 5 #[o,C,.int .u8 k] w (In w):=by
 have hI:Q.qaZ p c:=⟨Q.qgv Y,Q.qfx hc,I,J,Dr names j⟩;refine(Q.qja p c k hI j hk w ⟨hl,hm⟩ (Q.Gh.top w) [o,C,.int .u8 k] (Q.HR.top w) (Q.da.cons (Q.qiM (.of fun b R _=>hS b R) Y) (Q.da.cons (Q.qhW (.of fun b R _=>hS b R) hc) (Q.da.cons (.s _) Q.da.nil)))).mono ?_;rintro e w' ⟨v,x,g',H',rfl,⟨rfl,rfl⟩,hx,hle,_⟩;cases hx.of_s;exact⟨rfl,hle.all (Q.HR.top w).none⟩
section
section
variable {H:Type} {enc:TypeId×Value→H} {w:World}
def jm (w:World)(b:Nat):Prop:=b<w.heap.size
def qkd {α:Type}(enc:TypeId×Value→H)(w:World)(t:TypeId)(E:cO α)(Q:α→Prop):Prop:=
 ∀fuel cs d ps,DataW.trod enc prog w 0 (fun _=>true) true fuel t cs=some (d,ps)→Rows.uptoBulk d≤1048576→∃x,E (jm w) w cs x∧Q x
theorem uJ {d:DataW H}{l:List (DataW H)}(h:d∈l):Rows.uptoBulk d≤Rows.uptoBulkAll l:=by
 induction l with
 |nil=>cases h
 |cons x r j=>
  simp only[Rows.uptoBulkAll];cases fX.1 h with
  |inl e=>subst e;omega
  |inr e=>have:=j e;omega
theorem Fc (d:DataW H):1≤Rows.uptoBulk d:=by
 cases d with
 |lit l=>cases l<;>simp[Rows.uptoBulk]
 |nil=>simp[Rows.uptoBulk]
 |ptr d=>simp[Rows.uptoBulk]
 |slice elems spare=>simp[Rows.uptoBulk]
 |agg qaq=>simp[Rows.uptoBulk]
 |iface t d=>simp[Rows.uptoBulk]
 |map entries=>simp[Rows.uptoBulk]
 |held h=>simp[Rows.uptoBulk]
theorem Fb (l:List (DataW H)):l.length≤Rows.uptoBulkAll l:=by
 induction l with
 |nil=>simp[Rows.uptoBulkAll]
 |cons x r j=>have:=Fc x;simp only[Rows.uptoBulkAll,kI];omega
theorem Cc {α:Type}{P:Nat→α→Prop}:∀ {n:Nat},(∀i,i<n→∃x,P i x)→∃l:List α,l.length=n∧∀(i:Nat) x,l[i]? =some x→P i x
 |0,_=>⟨[],rfl,fun i x h=>by simp at h⟩
 |n+1,h=>by(
 obtain⟨l,h1,j⟩:=Cc (n:=n) fun i hi=>h i (by omega);obtain⟨x,o⟩:=h n (by omega);refine⟨l++[x],by simp[h1],fun i y hy=>?_⟩;by_cases hi:i<n
 ·rw[ma (by omega)] at hy
  exact j i y hy
 rw[kH (by omega)] at hy;have C:i-l.length=0:=by have:=(lS.1 hy).1;simp at this;omega
 rw[C] at hy;cases hy;obtain rfl:i=n:=by omega
 exact o)
theorem nI (b o r:Nat):(⟨b,o,none⟩:Addr).add r=⟨b,o+r,none⟩:=by
 unfold Addr.add;split;·rename_i h;subst h;rfl
 rfl
theorem fi {α:Type}{t e:TypeId}{n bw:Nat}{E:cO α}{Q:α→Prop}(ht:prog.underlying t=some (.slice e))(hc:prog.cellsOf e=n)(hn:0<n)(a8:bw≤1000000)(o:qkd enc w e E Q):
 qkd enc w t (eT (rx n bw E)) fun l=>l.length≤1048576∧∀x∈l,Q x:=by
 intro fuel cs d ps h hb;rcases DataW.trod_slice ht h with ⟨rfl,J⟩|⟨a,len,cap,elems,rest,n',rfl,rfl,J,_,hl,hm,b4,Y,_,_⟩;·exact⟨[],⟨_,rfl,rx.nil⟩,by simp,by simp⟩
 injection J with hd _;subst hd;rw[hc] at Y;have b5:Rows.uptoBulkAll (elems.map (·.1))+1≤1048576:=by simp only[Rows.uptoBulk] at hb;omega
 have hlen:=Fb (elems.map (·.1));rw[ce] at hlen;obtain⟨l,b0,hP⟩:=Cc (n:=len) (P:=fun i x=>(∃ci,w.cells? 0 (a.add (i*n)) n=some ci∧E (jm w) w ci x)∧Q x) fun i hi=>by(
 have h1:=Y i hi;have h2:i<elems.length:=by omega
 rw[lG h2] at h1;obtain⟨ci,C,b1⟩:=Option.bind_eq_some_iff.1 h1;have b6:=uJ (d:=elems[i].1) (l:=elems.map (·.1)) (dr.2 ⟨elems[i],eL h2,rfl⟩);obtain⟨x,J,hq⟩:=o n' ci elems[i].1 elems[i].2 b1 (by omega);exact⟨x,⟨ci,C,J⟩,hq⟩)
 have b2:l.length*bw≤1048576*1000000:=Nat.mul_le_mul (by omega) a8;refine⟨l,⟨_,rfl,some a,cap,by rw[b0],by omega,hm,by omega,fun i x J=>?_⟩,by omega,fun x J=>?_⟩
 ·obtain⟨⟨ci,C,hE⟩,_⟩:=hP i x J;have hi:=(lS.1 J).1;obtain⟨⟨c0,R,_⟩,_⟩:=hP 0 _ (lG (show 0<l.length by omega));unfold World.cells? at C R;rw[ap (Nat.zero_le _)] at C R;obtain⟨b,off,sp⟩:=a;obtain rfl:sp=none:=by obtain⟨c,_,h0⟩:=Lib.mapM_at R 0 0 (by rw[ln hn]);have:=World.cell?_spot h0;simpa [Addr.add] using this
  have a1:=Lib.mapM_length C;rw[List.length_range] at a1;have a6:b<w.heap.size:=by obtain⟨c,_,h0⟩:=Lib.mapM_at R 0 0 (by rw[ln hn]);have:=jy w _ h0;rw[nI,nI] at this;exact this
  refine⟨b,off,ci,rfl,a6,a1,fun j c hj=>?_,hE⟩;have b3:j<n:=by have:=(lS.1 hj).1;omega
  obtain⟨c',a7,I⟩:=Lib.mapM_at C j j (by rw[ln b3]);rw[hj] at a7;cases a7;rw[nI,nI] at I;exact I
 obtain⟨i,hi⟩:=cY.1 J;exact(hP i x hi).2
theorem pR {α:Type}{t:TypeId}{bw:Nat}{E:bT α}{Q:List α→Prop}(h:qkd enc w t (eT (rx 1 bw (eT E))) Q):qkd enc w t (eT (Sl bw E)) Q:=by intro fuel cs d ps h1 j;obtain⟨x,⟨v,e,o⟩,C⟩:=h fuel cs d ps h1 j;exact⟨x,⟨v,e,jT o⟩,C⟩
theorem bm {α:Type}{t j:TypeId}{Y:Array Field}{m off:Nat}{E:cO α}{Q:α→Prop}(ht:prog.underlying t=some (.struct Y)){fuel:Nat}{cs:List Value}{d:DataW H}{ps:List MemPlace}
 (h:DataW.trod enc prog w 0 (fun _=>true) true fuel t cs=some (d,ps)) (hb:Rows.uptoBulk d≤1048576) (i:Nat) (f:Field) (hf:Y[i]? =some f) (C:f.type=j) (I:f.offset=off) (hm:prog.cellsOf j=m) (o:qkd enc w j E Q):∃x,E (jm w) w ((cs.drop off).take m) x∧Q x:=by
 obtain⟨xs,n,rfl,hx,_,J,R⟩:=DataW.trod_struct ht h;injection hx with hd _;subst hd;have h1:=R i f hf;have hi:i<xs.length:=by rw[J];exact(mV.1 hf).1
 rw[lG hi,C,I,hm] at h1;have a1:=uJ (d:=xs[i].1) (l:=xs.map (·.1)) (dr.2 ⟨xs[i],eL hi,rfl⟩);simp only[Rows.uptoBulk] at hb;exact o n _ xs[i].1 xs[i].2 h1 (by omega)
theorem jV {t:TypeId}{j:Array Field}{m:Nat}(o:prog.underlying t=some (.struct j))(hm:prog.cellsOf t=m){fuel:Nat}{cs:List Value}{x:DataW H×List MemPlace}(h:DataW.trod enc prog w 0 (fun _=>true) true fuel t cs=some x):cs.length=m:=by obtain⟨_,_,_,_,hl,_⟩:=DataW.trod_struct o h;rw[hl,hm]
theorem mA:prog.cellsOf 3=1:=by kernel_rfl
theorem Mg:prog.cellsOf 2=1:=by kernel_rfl
theorem KS:prog.cellsOf 5=1:=by kernel_rfl
theorem Ml:prog.cellsOf 163=1:=by kernel_rfl
theorem Fi:prog.cellsOf 9=1:=by kernel_rfl
theorem Ff:prog.cellsOf 226=2:=by kernel_rfl
theorem Fe:prog.cellsOf 52=2:=by kernel_rfl
theorem Mh:prog.cellsOf 56=9:=by kernel_rfl
theorem Mj:prog.cellsOf 43=1:=by kernel_rfl
theorem Mi:prog.cellsOf 40=1:=by kernel_rfl
theorem Fd:prog.cellsOf 42=3:=by kernel_rfl
theorem KN:prog.cellsOf 28=1:=by kernel_rfl
theorem KO:prog.cellsOf 27=1:=by kernel_rfl
theorem Fh:prog.cellsOf 54=1:=by kernel_rfl
theorem KQ:prog.cellsOf 22=1:=by kernel_rfl
theorem KR:prog.cellsOf 23=1:=by kernel_rfl
theorem Fg:prog.cellsOf 24=1:=by kernel_rfl
theorem Mk:prog.cellsOf 26=5:=by kernel_rfl
theorem KP:prog.cellsOf 30=3:=by kernel_rfl
theorem mB:qkd enc w 3 (eT rQ) fun n=>(Lit.int .i64 n).wf=true:=fun fuel cs d ps h _=>by obtain⟨n,rfl,_,hw⟩:=DataW.trod_int underlying3 h;exact⟨n,⟨_,rfl,rfl,hw⟩,hw⟩
theorem Mw:qkd enc w 2 (eT rQ) fun n=>(Lit.int .i64 n).wf=true:=fun fuel cs d ps h _=>by obtain⟨n,rfl,_,hw⟩:=DataW.trod_int underlying2 h;exact⟨n,⟨_,rfl,rfl,hw⟩,hw⟩
def MT:cO Nat:=fun _ _ cs n=>cs=[.int .u8 n]
theorem MA:qkd enc w 5 MT fun n=>n<256:=fun fuel cs d ps h _=>by obtain⟨n,rfl,_,hw⟩:=DataW.trod_int underlying5 h;obtain⟨j,h1⟩:=bounds_u8 hw;exact⟨n.toNat,by unfold MT;rw[Int.toNat_of_nonneg j],by omega⟩
theorem Kn:qkd enc w 9 (eT EQ) fun s=>s.size≤1048576:=fun fuel cs d ps h j=>by obtain⟨s,rfl,o,_⟩:=DataW.trod_string underlying9 h;injection o with C _;subst C;simp only[Rows.uptoBulk,Array.length_toList] at j;exact⟨s,⟨_,rfl,rfl⟩,by show s.data.size≤_;omega⟩
theorem Mz:qkd enc w 163 (eT Cz) fun _=>True:=fun fuel cs d ps h _=>by obtain⟨n,rfl,_,hw⟩:=DataW.trod_int underlying163 h;obtain⟨j,h1⟩:=bounds_u64 hw;refine⟨BitVec.ofNat 64 n.toNat,⟨_,rfl,?_⟩,trivial⟩;show Value.int .u64 n=U (BitVec.ofNat 64 n.toNat);unfold U;rw[BitVec.toNat_ofNat,Nat.mod_eq_of_lt (by omega),Int.toNat_of_nonneg j]
theorem Gr:qkd enc w 54 (eT aK) fun l=>l.length≤1048576∧∀x∈l,(Lit.int .i64 x).wf=true:=pR (fi underlying54 mA (by decide) (by decide) mB)
theorem Ln:qkd enc w 22 (eT gB) fun l=>l.length≤1048576∧∀s∈l,s.size≤1048576:=pR (fi underlying22 Fi (by decide) (by decide) Kn)
theorem Lo:qkd enc w 23 (eT nZ) fun l=>l.length≤1048576∧∀s∈l,True:=pR (fi underlying23 Ml (by decide) (by decide) Mz)
theorem Ms {cs:List Value}(h:cs.length=2):∃a b,cs=[a,b]:=by
 match cs,h with
 | [a,b],_=>exact⟨a,b,rfl⟩
theorem Mt {cs:List Value}(h:cs.length=3):∃a b c,cs=[a,b,c]:=by
 match cs,h with
 | [a,b,c],_=>exact⟨a,b,c,rfl⟩
theorem MO {cs:List Value}(h:cs.length=5):∃a b c d e,cs=[a,b,c,d,e]:=by
 match cs,h with
 | [a,b,c,d,e],_=>exact⟨a,b,c,d,e,rfl⟩
theorem MP {cs:List Value}(h:cs.length=9):∃a b c d e f g i j,cs=[a,b,c,d,e,f,g,i,j]:=by
 match cs,h with
 | [a,b,c,d,e,f,g,i,j],_=>exact⟨a,b,c,d,e,f,g,i,j,rfl⟩
theorem el {α:Type}{E:bT α}{c:Value}{x:α}(h:eT E (jm w) w [c] x):E (jm w) w c x:=by obtain⟨v,e,h⟩:=h;cases e;exact h
theorem Lm:qkd enc w 226 uy fun x=>x.1.size≤1048576:=fun fuel cs d ps h j=>by obtain⟨a,b,rfl⟩:=Ms (jV underlying226 Ff h);obtain⟨s,o,C⟩:=bm underlying226 h j 0 _ rfl rfl rfl Fi Kn;obtain⟨n,h1,I⟩:=bm underlying226 h j 1 _ rfl rfl rfl mA mB;have J:a=.string s:=el (c:=a) o;have R:b=.int .i64 n:=(el (c:=b) h1).1;subst J;subst R;exact⟨(s,n),⟨rfl,I⟩,C⟩
theorem Ci:qkd enc w 24 (eT kh) fun l=>l.length≤1048576∧∀x∈l,x.1.size≤1048576:=fi underlying24 Ff (by decide) (by decide) Lm
theorem gC {n:Int}(h:(Lit.int .i64 n).wf=true):aV n:=bounds_i64 h
theorem Lk:qkd enc w 52 rI fun _=>True:=fun fuel cs d ps h j=>by obtain⟨a,b,rfl⟩:=Ms (jV underlying52 Fe h);obtain⟨m,o,C⟩:=bm underlying52 h j 0 _ rfl rfl rfl mA mB;obtain⟨n,h1,I⟩:=bm underlying52 h j 1 _ rfl rfl rfl mA mB;have J:a=.int .i64 m:=(el (c:=a) o).1;have R:b=.int .i64 n:=(el (c:=b) h1).1;subst J;subst R;exact⟨(m,n),⟨rfl,gC C,gC I⟩,trivial⟩
theorem MQ:qkd enc w 56 KD fun x=>Cv x∧iM x:=fun fuel cs d ps h j=>by obtain⟨c0,c1,c2,c3,J,o,C,R,Y,rfl⟩:=MP (jV underlying56 Mh h);obtain⟨k,h0,q0⟩:=bm underlying56 h j 0 _ rfl rfl rfl KS MA;obtain⟨op,h1,q1⟩:=bm underlying56 h j 1 _ rfl rfl rfl KS MA;obtain⟨dst,h2,q2⟩:=bm underlying56 h j 2 _ rfl rfl rfl mA mB;obtain⟨ref,h3,q3⟩:=bm underlying56 h j 3 _ rfl rfl rfl mA mB;obtain⟨Ni,h4,q4⟩:=bm underlying56 h j 4 _ rfl rfl rfl mA mB;obtain⟨ar,h5,q5⟩:=bm underlying56 h j 5 _ rfl rfl rfl Fh Gr;obtain⟨fr,h6,q6⟩:=bm underlying56 h j 6 _ rfl rfl rfl Fh Gr;obtain⟨nm,h7,q7⟩:=bm underlying56 h j 7 _ rfl rfl rfl Mg Mw;obtain⟨pl,h8,q8⟩:=bm underlying56 h j 8 _ rfl rfl rfl mA mB;have e0:[c0]=[.int .u8 k]:=h0;have e1:[c1]=[.int .u8 op]:=h1;have e2:c2=.int .i64 dst:=(el (c:=c2) h2).1;have e3:c3=.int .i64 ref:=(el (c:=c3) h3).1;have e4:J=.int .i64 Ni:=(el (c:=J) h4).1;have e5:aK (jm w) w o ar:=el (c:=o) h5;have e6:aK (jm w) w C fr:=el (c:=C) h6;have e7:R=.int .i64 nm:=(el (c:=R) h7).1;have e8:Y=.int .i64 pl:=(el (c:=Y) h8).1;cases e0;cases e1;subst e2;subst e3;subst e4;subst e7;subst e8;exact⟨⟨k,op,dst,ref,Ni,ar,fr,nm,pl⟩,⟨o,C,rfl,e5,e6,⟨q0,q1,gC q2,gC q3,gC q4,gC q7,gC q8⟩⟩,⟨q5.1,q6.1⟩,⟨gC q2,gC q3,gC q4,fun a I=>gC (q5.2 a I),fun a I=>gC (q6.2 a I)⟩⟩
theorem My:qkd enc w 43 (eT tZ) fun l=>l.length≤1048576∧∀x∈l,Cv x∧iM x:=fi underlying43 Mh (by decide) (by decide) MQ
theorem Mx:qkd enc w 40 (eT bW) fun l=>l.length≤1048576∧∀x∈l,x.length≤1048576∧∀y∈x,Cv y∧iM y:=pR (fi underlying40 Mj (by decide) (by decide) My)
def LS (b:aw):Prop:=b.Ng.length≤1048576∧∀x∈b.Ng,x.length≤1048576∧∀y∈x,Cv y∧iM y
theorem Lj:qkd enc w 42 qO LS:=fun fuel cs d ps h j=>by obtain⟨a,b,c,rfl⟩:=Mt (jV underlying42 Fd h);obtain⟨m,o,C⟩:=bm underlying42 h j 0 _ rfl rfl rfl mA mB;obtain⟨n,h1,I⟩:=bm underlying42 h j 1 _ rfl rfl rfl mA mB;obtain⟨l,J,R⟩:=bm underlying42 h j 2 _ rfl rfl rfl Mi Mx;have Y:a=.int .i64 m:=(el (c:=a) o).1;have e1:b=.int .i64 n:=(el (c:=b) h1).1;have e2:bW (jm w) w c l:=el (c:=c) J;subst Y;subst e1;exact⟨⟨m,n,l⟩,⟨c,rfl,e2,gC C,gC I⟩,R⟩
theorem Li:qkd enc w 28 (eT mL) fun l=>l.length≤1048576∧∀b∈l,LS b:=fi underlying28 Fd (by decide) (by decide) Lj
theorem Ll:qkd enc w 27 (eT qay) fun l=>l.length≤1048576∧∀b∈l,True:=fi underlying27 Fe (by decide) (by decide) Lk
theorem Gu {fuel:Nat}{xs:Array Value}{d:DataW H}{ps:List MemPlace}(h:DataW.trod enc prog w 0 (fun _=>true) true fuel 26 xs.toList=some (d,ps))(j:Rows.uptoBulk d≤1048576):∃p,dJ (jm w) w (.agg xs) p∧kj p:=by obtain⟨a,b,c,e,f,o⟩:=MO (jV underlying26 Mk h);rw[o] at h;obtain⟨C,Y,q0⟩:=bm underlying26 h j 0 _ rfl rfl rfl KQ Ln;obtain⟨I,h1,q1⟩:=bm underlying26 h j 1 _ rfl rfl rfl KR Lo;obtain⟨J,h2,q2⟩:=bm underlying26 h j 2 _ rfl rfl rfl Fg Ci;obtain⟨R,h3,q3⟩:=bm underlying26 h j 3 _ rfl rfl rfl Fg Ci;obtain⟨n,h4,q4⟩:=bm underlying26 h j 4 _ rfl rfl rfl mA mB;have e0:gB (jm w) w a C:=el (c:=a) Y;have e1:nZ (jm w) w b I:=el (c:=b) h1;have e2:kh (jm w) w c J:=el (c:=c) h2;have e3:kh (jm w) w e R:=el (c:=e) h3;have e4:f=.int .i64 n:=(el (c:=f) h4).1;subst e4;exact⟨⟨C,I,J,R,n⟩,⟨a,b,c,e,by rw[←Array.toArray_toList (xs:=xs),o],e0,e1,e2,e3,q4⟩,⟨q0.2,q2.2,q3.2⟩⟩
theorem DA {fuel:Nat}{xs:Array Value}{d:DataW H}{ps:List MemPlace}(h:DataW.trod enc prog w 0 (fun _=>true) true fuel 30 xs.toList=some (d,ps))(j:Rows.uptoBulk d≤1048576):∃c,cQ (jm w) w (.agg xs) c∧lY c∧rK c:=by obtain⟨a,b,c,o⟩:=Mt (jV underlying30 KP h);rw[o] at h;obtain⟨J,h0,q0⟩:=bm underlying30 h j 0 _ rfl rfl rfl KO Ll;obtain⟨R,h1,C⟩:=bm underlying30 h j 1 _ rfl rfl rfl KN Li;obtain⟨n,h2,Y⟩:=bm underlying30 h j 2 _ rfl rfl rfl mA mB;have e0:qay (jm w) w a J:=el (c:=a) h0;have e1:mL (jm w) w b R:=el (c:=b) h1;have e2:c=.int .i64 n:=(el (c:=c) h2).1;subst e2;refine⟨⟨J,R,n⟩,⟨a,b,by rw[←Array.toArray_toList (xs:=xs),o],e0,e1,gC Y⟩,⟨q0.1,C.1,fun b j=>(C.2 b j).1,fun b j l hl=>((C.2 b j).2 l hl).1,fun b j l hl x I=>(((C.2 b j).2 l hl).2 x I).1⟩,⟨gC Y,fun b j x I=>?_⟩⟩;obtain⟨l,hl,I⟩:=List.mem_flatten.1 I;exact(((C.2 b j).2 l hl).2 x I).2
end
end
end Go.Proofs.YtgdlhckhpolnnaaGreatDoor
