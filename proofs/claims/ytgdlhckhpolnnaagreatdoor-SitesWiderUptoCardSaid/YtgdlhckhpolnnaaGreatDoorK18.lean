/- Part 19 of the proof (its last part says what is proved). No condition. -/
import Derived.Test.YtgdlhckhpolnnaaGreatDoorK17
namespace Go.Proofs.YtgdlhckhpolnnaaGreatDoor
set_option maxRecDepth 100000
set_option maxHeartbeats 8000000
open Go.RowKit Go.Proofs.Tryz
theorem JO {S:Nat→Prop}{w:World}{v:Value}{l:List ByteArray}(h:gB S w v l):gB (fun b=>b<w.heap.size) w v l:=by obtain⟨a,cap,o,h1,C,I,h⟩:=h;refine⟨a,cap,o,h1,C,I,fun i x J=>?_⟩;obtain⟨b,off,c,e,R,j,he⟩:=h i x J;exact⟨b,off,c,e,jy w _ j,j,he⟩
theorem xT {S:Nat→Prop}{w:World}{v:Value}{l:List (ByteArray×Int)}(h:kh S w v l):kh (fun b=>b<w.heap.size) w v l:=by obtain⟨a,cap,o,h1,C,I,h⟩:=h;refine⟨a,cap,o,h1,C,I,fun i x J=>?_⟩;obtain⟨b,off,cs,e,Y,R,j,he⟩:=h i x J;obtain⟨rfl,hw⟩:=he;exact⟨b,off,_,e,jy w _ (j 0 _ rfl),R,j,rfl,hw⟩
theorem rF {S:Nat→Prop}{w:World}{v:Value}{l:List ByteArray}(h:gB S w v l):gB (fun b=>S b∧b<w.heap.size) w v l:=by obtain⟨a,cap,o,h1,C,I,h⟩:=h;refine⟨a,cap,o,h1,C,I,fun i x J=>?_⟩;obtain⟨b,off,c,e,R,j,he⟩:=h i x J;exact⟨b,off,c,e,⟨R,jy w _ j⟩,j,he⟩
theorem fa (c:UInt8)(n:Int):(aL c n).size≤22:=by have:=vV n;show(tr c n).toArray.size≤22;simp[tr];omega
structure Cv (x:bz):Prop where
 args:x.args.length≤1048576
 Nh:x.Nh.length≤1048576
structure kj (p:aH):Prop where
 MZ:∀s∈p.MZ,s.size≤1048576
 Nb:∀c∈p.Nb,c.1.size≤1048576
 Na:∀c∈p.Na,c.1.size≤1048576
theorem Da {l:List ByteArray}(h:∀s∈l,s.size≤1048576)(i:Nat):(l.getD i gR).size≤1048576:=by
 rw[iG];cases hi:l[i]? with
 |none=>exact Nat.zero_le _
 |some s=>exact h s (mG hi)
theorem sG {l:List (ByteArray×Int)}(h:∀s∈l,s.1.size≤1048576)(i:Nat):(l.getD i (gR,0)).1.size≤1048576:=by
 rw[iG];cases hi:l[i]? with
 |none=>exact Nat.zero_le _
 |some s=>exact h s (mG hi)
theorem DR {p:aH}(h:kj p)(main:Int)(x:bz):(gW p main x).size≤1048576:=by
 unfold gW qY
 repeat' split
 all_goals first
  |(have:=fa 97 x.ref;omega)
  |(have:=fa 98 x.ref;omega)
  |(have:=fa 102 x.ref;omega)
  |exact sG h.Nb _
  |exact sG h.Na _
  |exact Da h.MZ _
  |decide
theorem Lr {p:aH}{main:Int}{x:bz}(j:jx x)(h:kj p):uB (jC p main x):=by
 refine⟨j.kind,j.op,j.num,j.Nj,?_,fR (DR h main x) (by omega),?_,?_,?_⟩
 ·show(if 0≤x.dst then aL 118 x.dst else gR).size≤_
  split;·have:=fa 118 x.dst;omega
  exact Nat.zero_le _
 ·show(if x.kind=12 then aL 98 x.Ni else gR).size≤_
  split;·have:=fa 98 x.Ni;omega
  exact Nat.zero_le _
 ·intro s o
  obtain⟨a,_,rfl⟩:=dr.1 o;have:=fa 118 a;omega
 intro s o;obtain⟨a,_,rfl⟩:=dr.1 o;have:=fa 98 a;omega
theorem dV {w w':World}(h:aa (fun b=>b<w.heap.size) w w'):aa All w w':=⟨h.os,h.output,h.size,fun k j _=>h.block k j j⟩
def CB (x:bz):ByteArray:=if x.kind=12 then aL 98 x.Ni else gR
def IE (x:bz):ByteArray:=if 0≤x.dst then aL 118 x.dst else gR
theorem AR (S:Nat→Prop)(pv:Value)(p:aH)(va vf:Value)(main:Int)(a f:Value)(x:bz)(w:World)(hp:dJ S w pv p)(ha:aK S w a x.args)(hf:aK S w f x.Nh)(hx:jx x)(hz:Cv x)(o4:kj p):
 Calls prog 205 #[pv,.agg #[va,vf,.int .i64 main],.agg #[.int .u8 x.kind,.int .u8 x.op,.int .i64 x.dst,.int .i64 x.ref,.int .i64 x.Ni,a,f,.int .i64 x.num,.int .i64 x.Nj]] w fun e w'=>
  ∃u b,e=.returned (.tuple #[u,.bool b])∧b=pB (dx p x)∧aa All w w'∧∃(d r t:ByteArray) (a1:Option Addr) (n1 c1:Nat) (a2:Option Addr) (n2 c2:Nat),u=.agg #[.int .u8 x.kind,.int .u8 x.op,.string d,.string r,.string t,.slice a1 n1 c1,.slice a2 n2 c2,.int .i64 x.num,.int .i64 x.Nj]∧
   (dx p x→zH (fun b=>w.heap.size≤b) w' [.int .u8 x.kind,.int .u8 x.op,.string d,.string r,.string t,.slice a1 n1 c1,.slice a2 n2 c2,.int .i64 x.num,.int .i64 x.Nj] (jC p main x)):=by
 obtain⟨iS,IS⟩:=iH FV;obtain⟨j8,vu,vi,vo,rfl,j9,o5,k0,k1,o6⟩:=hp;have hA:=fun wn (hk:aa (fun b=>b<w.heap.size) w wn)=>ah.keep hk (kV ha);have hF:=fun wn (hk:aa (fun b=>b<w.heap.size) w wn)=>ah.keep hk (kV hf);obtain⟨A1,c1,rfl,l1,l2,l3,_⟩:=ha;obtain⟨A2,c2,rfl,m1,m2,m3,_⟩:=hf;unfold maxLen at l2 m2;obtain⟨W0,b3⟩:=eQ ((((((((w.alloc (.cells #[j8,vu,vi,vo,.int .i64 p.Nc] 26)).alloc (.cells #[va,vf,.int .i64 main] 30)).alloc (.cells #[.int .u8 x.kind,.int .u8 x.op,.int .i64 x.dst,.int .i64 x.ref,.int .i64 x.Ni,.slice A1 x.args.length c1,.slice A2 x.Nh.length c2,.int .i64 x.num,.int .i64 x.Nj] 56)).alloc (.cells #[.int .u8 0,.int .u8 0,.string ⟨#[]⟩,.string ⟨#[]⟩,.string ⟨#[]⟩,.slice none 0 0,.slice none 0 0,.int .i64 0,.int .i64 0] 188)).alloc (.cells #[.int .u8 x.kind,.int .u8 x.op,.string ⟨#[]⟩,.string ⟨#[]⟩,.string ⟨#[]⟩,.slice none 0 0,.slice none 0 0,.int .i64 x.num,.int .i64 x.Nj] 188)).alloc (.cells #[.bool true] 4)).alloc (.cells #[.func (.func 233) #[] #[.pointer (some ⟨w.heap.size+1+1+1+1+1,0,none⟩)]] 247)));have k2:=aD7 b3;have k3:=aC7 b3;have k4:=aB4 b3 aE2;have k5:=aB2 b3 aE4;have k6:=aB1 b3 aE5;have k7:=zo b3 aE6;have l0:=aB5 b3 vI;have l4:=aA6 b3;have l5:=aB3 b3 aE3;have l6:=fun wn (hk:aa (fun b=>b<w.heap.size) w wn)=>ax.keep hk (JO j9);have l7:=fun wn (hk:aa (fun b=>b<w.heap.size) w wn)=>aX.keep hk (xT k0);have l8:=fun wn (hk:aa (fun b=>b<w.heap.size) w wn)=>aX.keep hk (xT k1);have HW:=J8 b3 k2 k3 hA hF k4 k5 hx;have HP:=J8 k6 k7 l0 l4 l6 l7 l8 l5;have o7:=hx.dst;have j1:=hx.ref;have o8:=hx.kind;have o9:=hx.Ni;have l9:=J2 hx o4;obtain⟨z1,z2⟩:=hz;clear l5 k6 k7 l0 l4 l6 l7 l8 b3 k2 k3 hA hF k4 k5 j9 o5 k0 k1 o6;go_enter func205,ntmps205;go_upto_if 29 with fail;rw[←HW.1];go_cut [] (fun wx=>aa (fun b=>b≠w.heap.size+1+1+1+1) W0 wx∧al wx (w.heap.size+1+1+1+1) 188 #[.int .u8 x.kind,.int .u8 x.op,.string (IE x),.string ⟨#[]⟩,.string ⟨#[]⟩,.slice none 0 0,.slice none 0 0,.int .i64 x.num,.int .i64 x.Nj])
 case first=>(
 have q2:=HW.2.2.2.2.2.2.1.cl 2;have r2:=HW.2.2.2.2.2.2.1.free 2;have x2:=HW.2.2.2.2.2.1.cl 2;by_cases hd:0≤x.dst;·have t:=bL hd;have HD:=oH (show IE x=aL 118 x.dst from ap hd);have hn:=fun wn=>ez 118 x.dst o7 wn;have HN:=oH hn;clear hn;go_wp2_with fail;refine(HN.out _).mono ?_;rintro e w1 ⟨rfl,I⟩;have R:=HW.2.2.2.2.2.2.1.kept I trivial;have y2:=R.cl 2;have z2:=R.free 2;have H1:=J2 I R;clear I R q2 r2 x2;go_wp2_with fail;go_meet;refine⟨H1.1.all.setCell (.inl fun h=>h rfl) _,?_⟩;have:=H1.2.set 2 (.string (aL 118 x.dst));rw[HD.out];simpa using this
 have t:=cI hd;have HD:=oH (show IE x=gR from ae hd);go_wp2_with fail;go_meet;exact⟨kR,by rw[HD.out];exact HW.2.2.2.2.2.2.1⟩)
 obtain⟨I,R⟩:=hcut;have x5:=(HW.2.2.2.2.2.1.kept I (by show _≠_;omega)).cl 5;have H1:=J2 I R;clear I R;obtain⟨DB,j2⟩:=eR (IE x);rw[j2] at H1;have p0:=oH j2;clear j2;go_wp2_with fail;clear x5;go_loopg [37] x.args.length (fun g p1 wr=>∃(k:Nat) (v5:Value),k≤x.args.length∧g=x.args.length-k∧p1=.int .i64 k∧aa (fun b=>b≠w.heap.size+1+1+1+1) W0 wr∧al wr (w.heap.size+1+1+1+1) 188 #[.int .u8 x.kind,.int .u8 x.op,.string DB,.string ⟨#[]⟩,.string ⟨#[]⟩,v5,.slice none 0 0,.int .i64 x.num,.int .i64 x.Nj]∧wr.ownsRow (w.heap.size+7) 9 1 v5 k (de ((x.args.take k).map (aL 118))));·exact⟨0,_,by omega,by omega,rfl,H1.1,H1.2,⟨rfl,.inl ⟨rfl,rfl⟩⟩⟩
 obtain⟨k,v5,hk,rfl,rfl,b1,a7,J⟩:=hrel;have c9:aa (fun b=>b<w.heap.size) w wr:=HW.2.2.1.all.trans (b1.mono fun b hb=>by omega);have q1:w.heap.size+7≤wr.heap.size:=by have:=b1.size;have:=HW.2.1;omega
 have HR:=J4 b1 a7 J c9;by_cases j3:k<x.args.length;·(
 obtain⟨ak,d9⟩:=eG j3;obtain⟨bb,o,cc,rfl,p2,p4,rfl,e0⟩:=bn (HW.2.2.2.1 wr c9) d9;have hn:=fun wn=>ez 118 ak (rs e0) wn;have e5:∀wn,aa All wr wn→wn.cell? ⟨w.heap.size+1+1+1+1,5,none⟩=some v5:=fun wn hk=>(a7.kept hk trivial).cell 5;obtain⟨C,cp,rfl⟩:=aU J;have HN:=J4 hn e5 d9 e0;clear hn e5 d9 e0 b1 a7 J c9;go_wp2_with fail;refine R1 5 wr [45] (fun _ v wn=>∃g,v=.slice (some ⟨g,0,none⟩) 1 1∧wr.heap.size≤g∧al wn g 9 #[.string (aL 118 ak)]) (fun k=>if k=3 then some (·=.string (aL 118 ak)) else if k=4 then some (fun v=>∃g,v=.slice (some ⟨g,0,none⟩) 1 1) else none) ?_;refine O0 ?_;refine O3 (fun wn hk hp=>by(have e1:=HN.2.1 wn hk;go_simp;with_reducible rfl)) ?_;refine O0 ?_;refine O5 (v:=.string (aL 118 ak)) (fun wn hk hp=>⟨_,_,by(go_simp<;>with_reducible rfl),(HN.1 wn).mono fun e w' h=>⟨h.1,hk.trans h.2,fun t _ v ⟨g,e,h1,h2⟩=>⟨g,e,h1,h2.kept h.2 trivial⟩⟩⟩) ?_;refine OB fun g wt _ b4 p5 e6=>?_;have a6:=be HR.2.2.1 b4 (fun _ _=>trivial);have b5:=HR.2.1.kept b4 trivial;have d7:=e6.cl 0;have m9:=b4.size;have HT:=J3 b4 b5 d7;clear b4 b5 e6;go_wp2_with (
  at_builtin;go_must (refine aR _ rfl (.tmp 42) (.tmp 45) 22 rfl (w.heap.size+7) 9 iS _ 1 16 underlying22 IS.1 IS.2.1 IS.2.2.1 IS.2.2.2 rfl (by decide) _ _ _ rfl a6 (some ⟨g,0,none⟩) 1 1 [.string (aL 118 ak)] rfl rfl ?_ ?_ (by unfold maxLen;omega) (by omega) (by omega) ?_);·(
 intro _;exact⟨_,_,rfl,fun j u hu=>by
  rcases j with _|j;·rw[cN,HT.2.2];exact hu
  simp at hu⟩)
  ·intro u hu
   rw[cx.1 hu];rfl
  intro v2 w2 a8 e2 d8;obtain⟨C2,e7,rfl⟩:=aU a8;have b0:=HT.2.1.grown e2 (fun e=>by have:=(aD a6 e.symm).1;omega);have y5:=b0.cl 5;have f5:=b0.free 5;have Y:=J4 b0 a8 e2 d8;clear b0 a8 e2 d8)
 go_roundg (x.args.length-(k+1))
 ·refine⟨k+1,.slice C2 (k+1) e7,by omega,rfl,by go_num,(((HR.1.trans HT.1.all).grown Y.2.2.1 fun b hb=>.inr (by have:=(aD a6 hb).1;have:=HW.2.1;omega)).setCell (.inl fun h=>h rfl) _),?_,?_⟩
  ·have:=Y.1.set 5 (.slice C2 (k+1) e7)
   simpa using this
  have e:de ((x.args.take (k+1)).map (aL 118))=de ((x.args.take k).map (aL 118))++[.string (aL 118 ak)]:=by rw[cU,HN.2.2.1];simp[de]
  rw[e];exact be Y.2.1 ((aa.refl (fun b=>b≠w.heap.size+1+1+1+1) _).setCell (.inl fun h=>h rfl) _) fun b hb=>by have:=(aD Y.2.1 hb).1;show b≠_;omega
 omega)
 obtain rfl:k=x.args.length:=by omega
 rw[dZ] at J;have e8:=rF (pY (S:=fun b=>w.heap.size+7≤b) J (l:=x.args.map (aL 118)) (by rw[ce]) (by rw[ce];omega) fun g hg=>(aD J hg).1);obtain⟨C5,b6,rfl⟩:=aU J;obtain⟨wo,rfl⟩:=eQ wr;have x6:=(HW.2.2.2.2.2.1.kept b1 (by show _≠_;omega)).cl 6;have HO:=J3 e8 b1 a7;clear e8 b1 a7 J c9;go_wp2_with fail;clear x6;go_loopg [52] x.Nh.length (fun g p6 wr=>∃(k:Nat) (v6:Value),k≤x.Nh.length∧g=x.Nh.length-k∧p6=.int .i64 k∧aa (fun b=>b≠w.heap.size+1+1+1+1) W0 wr∧al wr (w.heap.size+1+1+1+1) 188 #[.int .u8 x.kind,.int .u8 x.op,.string DB,.string ⟨#[]⟩,.string ⟨#[]⟩,.slice C5 x.args.length b6,v6,.int .i64 x.num,.int .i64 x.Nj]∧wr.ownsRow wo.heap.size 9 1 v6 k (de ((x.Nh.take k).map (aL 98)))∧aa (fun b=>b≠w.heap.size+1+1+1+1) wo wr);·exact⟨0,_,by omega,by omega,rfl,HO.2.1,HO.2.2,⟨rfl,.inl ⟨rfl,rfl⟩⟩,kR⟩
 obtain⟨k,v6,hk,rfl,rfl,b1,a7,J,j4⟩:=hrel;have c9:aa (fun b=>b<w.heap.size) w wr:=HW.2.2.1.all.trans (b1.mono fun b hb=>by omega);have q5:=j4.size;have n0:=oH j4;have HR:=J4 b1 a7 J c9;clear j4;by_cases j3:k<x.Nh.length;·(
 obtain⟨ak,d9⟩:=eG j3;obtain⟨bb,o,cc,rfl,p2,p4,rfl,e0⟩:=bn (HW.2.2.2.2.1 wr c9) d9;have hn:=fun wn=>ez 98 ak (rs e0) wn;have e5:∀wn,aa All wr wn→wn.cell? ⟨w.heap.size+1+1+1+1,6,none⟩=some v6:=fun wn hk=>(a7.kept hk trivial).cell 6;obtain⟨C,cp,rfl⟩:=aU J;have HN:=J4 hn e5 d9 e0;clear hn e5 d9 e0 b1 a7 J c9;go_wp2_with fail;refine R1 5 wr [60] (fun _ v wn=>∃g,v=.slice (some ⟨g,0,none⟩) 1 1∧wr.heap.size≤g∧al wn g 9 #[.string (aL 98 ak)]) (fun k=>if k=3 then some (·=.string (aL 98 ak)) else if k=4 then some (fun v=>∃g,v=.slice (some ⟨g,0,none⟩) 1 1) else none) ?_;refine O0 ?_;refine O3 (fun wn hk hp=>by(have e1:=HN.2.1 wn hk;go_simp;with_reducible rfl)) ?_;refine O0 ?_;refine O5 (v:=.string (aL 98 ak)) (fun wn hk hp=>⟨_,_,by(go_simp<;>with_reducible rfl),(HN.1 wn).mono fun e w' h=>⟨h.1,hk.trans h.2,fun t _ v ⟨g,e,h1,h2⟩=>⟨g,e,h1,h2.kept h.2 trivial⟩⟩⟩) ?_;refine OB fun g wt _ b4 p5 e6=>?_;have a6:=be HR.2.2.1 b4 (fun _ _=>trivial);have b5:=HR.2.1.kept b4 trivial;have d7:=e6.cl 0;have m9:=b4.size;have HT:=J3 b4 b5 d7;clear b4 b5 e6;go_wp2_with (
  at_builtin;go_must (refine aR _ rfl (.tmp 57) (.tmp 60) 22 rfl wo.heap.size 9 iS _ 1 16 underlying22 IS.1 IS.2.1 IS.2.2.1 IS.2.2.2 rfl (by decide) _ _ _ rfl a6 (some ⟨g,0,none⟩) 1 1 [.string (aL 98 ak)] rfl rfl ?_ ?_ (by unfold maxLen;omega) (by omega) (by omega) ?_);·(
 intro _;exact⟨_,_,rfl,fun j u hu=>by
  rcases j with _|j;·rw[cN,HT.2.2];exact hu
  simp at hu⟩)
  ·intro u hu
   rw[cx.1 hu];rfl
  intro v2 w2 a8 e2 d8;obtain⟨C2,e7,rfl⟩:=aU a8;have b0:=HT.2.1.grown e2 (fun e=>by have:=(aD a6 e.symm).1;omega);have y5:=b0.cl 6;have f5:=b0.free 6;have Y:=J4 b0 a8 e2 d8;clear b0 a8 e2 d8)
 go_roundg (x.Nh.length-(k+1))
 ·refine⟨k+1,.slice C2 (k+1) e7,by omega,rfl,by go_num,(((HR.1.trans HT.1.all).grown Y.2.2.1 fun b hb=>.inr (by have:=(aD a6 hb).1;have:=HW.2.1;omega)).setCell (.inl fun h=>h rfl) _),?_,?_,((n0.out.trans HT.1.all).grown Y.2.2.1 fun b hb=>.inr (aD a6 hb).1).setCell (.inl fun h=>h rfl) _⟩
  ·have:=Y.1.set 6 (.slice C2 (k+1) e7)
   simpa using this
  have e:de ((x.Nh.take (k+1)).map (aL 98))=de ((x.Nh.take k).map (aL 98))++[.string (aL 98 ak)]:=by rw[cU,HN.2.2.1];simp[de]
  rw[e];exact be Y.2.1 ((aa.refl (fun b=>b≠w.heap.size+1+1+1+1) _).setCell (.inl fun h=>h rfl) _) fun b hb=>by have:=(aD Y.2.1 hb).1;show b≠_;omega
 omega)
 obtain rfl:k=x.Nh.length:=by omega
 rw[dZ] at J;have n3:=pY (S:=fun b=>w.heap.size+7≤b) J (l:=x.Nh.map (aL 98)) (by rw[ce]) (by rw[ce];omega) fun g hg=>by have:=(aD J hg).1;omega
 have e8:=ax.keep (S:=fun b=>w.heap.size+7≤b∧b<wo.heap.size) (n0.out.mono fun b hb=>by omega) HO.1;obtain⟨C6,b8,rfl⟩:=aU J;have x0:=(HW.2.2.2.2.2.1.kept b1 (by show _≠_;omega)).cl 0;have HS:=J2 (ax.wide (T:=fun b=>w.heap.size+7≤b) (fun b hb=>hb.1) e8) n3;clear e8 n3 b1 a7 J c9;go_upto_block 4 with fail;go_cut [] (fun wx=>aa (fun b=>b≠w.heap.size+1+1+1+1∧b≠w.heap.size+1+1+1+1+1) W0 wx∧al wx (w.heap.size+1+1+1+1+1) 4 #[.bool (pB (dx p x))]∧(∃r,al wx (w.heap.size+1+1+1+1) 188 #[.int .u8 x.kind,.int .u8 x.op,.string DB,.string r,.string ⟨#[]⟩,(.slice C5 x.args.length b6),(.slice C6 x.Nh.length b8),.int .i64 x.num,.int .i64 x.Nj]∧(dx p x→r=gW p main x))∧gB (fun b=>w.heap.size+7≤b) wx (.slice C5 x.args.length b6) (x.args.map (aL 118))∧gB (fun b=>w.heap.size+7≤b) wx (.slice C6 x.Nh.length b8) (x.Nh.map (aL 98)))
 case first=>(
 have y3:=HR.2.1.cl 3;have f3:=HR.2.1.free 3;have x3:=(HW.2.2.2.2.2.1.kept HR.1 (by show _≠_;omega)).cl 3;have o1:=o8;have o2:=fun c wn=>ez c x.ref j1 wn;have HN:=oH o2;clear o2 o1;by_cases h4:x.kind=4∨x.kind=5∨x.kind=6∨x.kind=11∨x.kind=12∨x.kind=7∧x.ref≠main;·(
 have HX:=oH (av (P:=dx p x) ⟨fun h=>by omega,fun h=>by omega,fun h=>by omega⟩);rcases h4 with e|e|e|e|e|⟨e,em⟩
 all_goals
  first
  |(have hE:gW p main x=aL 97 x.ref:=by(unfold gW;simp[e];done))
  |(have hE:gW p main x=aL 98 x.ref:=by(unfold gW;simp[e];done))
  |(have hE:gW p main x=aL 102 x.ref:=by(unfold gW qY;simp[e,em];done)
    have tm:(x.ref==main)=false:=bE.2 em)
  have HE:=oH hE;clear hE;go_wp2_with fail;clear e;refine(HN.out _ _).mono ?_;rintro e w1 ⟨rfl,I⟩;have R:=HR.2.1.kept I trivial;have q3:=R.cl 3;have g3:=R.free 3;have p3:=((HW.2.2.2.2.2.1.kept HR.1 (by show _≠_;omega)).kept I trivial).cl 3;have m2:=((HP.2.2.1.kept HR.1 (by show _≠_;omega)).kept I trivial).cl 2;have Y:=J2 I R;clear I R y3 f3 x3;go_wp2_with fail;go_meet;refine⟨((HR.1.trans Y.1.all).setCell (.inl fun h=>h rfl) _).mono fun b hb=>hb.1,by rw[HX.out];exact((HP.1.kept HR.1 (by show _≠_;omega)).kept Y.1 trivial).far (by simp) _,⟨gW p main x,by simpa [HE.out] using Y.2.set 3 (.string (gW p main x)),fun _=>rfl⟩,?_,?_⟩;·exact ax.keep (Y.1.all.setCell (p:=⟨w.heap.size+1+1+1+1,3,none⟩) (.inl (by show¬(w.heap.size+7≤w.heap.size+1+1+1+1);omega)) _) HS.1
  exact ax.keep (Y.1.all.setCell (p:=⟨w.heap.size+1+1+1+1,3,none⟩) (.inl (by show¬(w.heap.size+7≤w.heap.size+1+1+1+1);omega)) _) HS.2)
 by_cases e:x.kind=7
 ·have em:x.ref=main:=Classical.byContradiction fun h=>h4 (by omega);have tm:(x.ref==main)=true:=cy.2 em;have HX:=oH (av (P:=dx p x) ⟨fun h=>by omega,fun h=>by omega,fun h=>by omega⟩);have HE:=oH (show gW p main x=⟨#[109,97,105,110]⟩ by unfold gW qY;simp[e,em,fO]);clear em h4;go_wp2_with fail;clear e;refine(HN.out _ _).mono ?_;rintro e w1 ⟨rfl,I⟩;have R:=HR.2.1.kept I trivial;have q3:=R.cl 3;have g3:=R.free 3;have p3:=((HW.2.2.2.2.2.1.kept HR.1 (by show _≠_;omega)).kept I trivial).cl 3;have m2:=((HP.2.2.1.kept HR.1 (by show _≠_;omega)).kept I trivial).cl 2;have Y:=J2 I R;clear I R y3 f3 x3;go_wp2_with fail;go_meet;refine⟨(((HR.1.trans Y.1.all).setCell (.inl fun h=>h rfl) _).setCell (.inl fun h=>h rfl) _).mono fun b hb=>hb.1,by rw[HX.out];exact(((HP.1.kept HR.1 (by show _≠_;omega)).kept Y.1 trivial).far (by simp) _).far (by simp) _,⟨_,by simpa using(Y.2.set 3 (.string (aL 102 x.ref))).set 3 (.string ⟨#[109,97,105,110]⟩),fun _=>HE.out.symm⟩,?_,?_⟩;·exact ax.keep ((Y.1.all.setCell (p:=⟨w.heap.size+1+1+1+1,3,none⟩) (.inl (by show¬(w.heap.size+7≤w.heap.size+1+1+1+1);omega)) _).setCell (p:=⟨w.heap.size+1+1+1+1,3,none⟩) (.inl (by show¬(w.heap.size+7≤w.heap.size+1+1+1+1);omega)) _) HS.1
  exact ax.keep ((Y.1.all.setCell (p:=⟨w.heap.size+1+1+1+1,3,none⟩) (.inl (by show¬(w.heap.size+7≤w.heap.size+1+1+1+1);omega)) _).setCell (p:=⟨w.heap.size+1+1+1+1,3,none⟩) (.inl (by show¬(w.heap.size+7≤w.heap.size+1+1+1+1);omega)) _) HS.2
 by_cases h8:x.kind=8∨x.kind=9∨x.kind=10;·(
 clear y3 f3 x3 h4 e;refine h8.elim (fun e=>?k8) fun h=>h.elim (fun e=>?k9) fun e=>?p7
 case' p7=>(
 have gP:=(HP.2.2.2.1.kept HR.1 (by show _≠_;omega)).cl 0
 have HU:∃(S':Nat→Prop) (l:List ByteArray),(∀b,S' b→b<w.heap.size∨wr.heap.size≤b)∧gB S' wr j8 l∧(∀s,l[x.ref.toNat]? =some s→gW p main x=s)∧(dx p x↔qZ x.ref l.length=true):=
  ⟨_,p.MZ,fun b hb=>.inl hb,HP.2.2.2.2.1 wr HR.2.2.2,fun s hs=>(by unfold gW;simp[e,hs]),⟨fun h=>(by have:=h.2.2 e;simp[qZ,this]),fun h=>⟨fun h'=>(by omega),fun h'=>(by omega),fun _=>(by simpa [qZ] using h)⟩⟩⟩
 have I:aa All wr wr:=kR;go_wp2_with fail)
 case' k9=>(
 have gP:=(HP.2.2.2.1.kept HR.1 (by show _≠_;omega)).cell 3;have hl:=HP.2.2.2.2.2.2.1 wr HR.2.2.2;have hlen:p.Na.length≤6000000000000:=by obtain⟨_,_,_,_,_,h3,_⟩:=hl;omega
 have j5:=jN _ _ p.Na wr hl hlen;have hE:∀s,(p.Na.map fun x=>x.1)[x.ref.toNat]? =some s→gW p main x=s:=fun s hs=>(by rw[cL] at hs;obtain⟨c,hc,rfl⟩:=oE.1 hs;unfold gW;simp[e,hc]);have hC:dx p x↔qZ x.ref (p.Na.map fun x=>x.1).length=true:=⟨fun h=>(by have:=h.2.1 e;simp[qZ,this]),fun h=>⟨fun h'=>(by omega),fun _=>(by simpa [qZ] using h),fun h'=>(by omega)⟩⟩)
 case' k8=>(
 have gP:=(HP.2.2.2.1.kept HR.1 (by show _≠_;omega)).cl 2;have hl:=HP.2.2.2.2.2.1 wr HR.2.2.2;have hlen:p.Nb.length≤6000000000000:=by obtain⟨_,_,_,_,_,h3,_⟩:=hl;omega
 have j5:=jN _ _ p.Nb wr hl hlen;have hE:∀s,(p.Nb.map fun x=>x.1)[x.ref.toNat]? =some s→gW p main x=s:=fun s hs=>(by rw[cL] at hs;obtain⟨c,hc,rfl⟩:=oE.1 hs;unfold gW;simp[e,hc]);have hC:dx p x↔qZ x.ref (p.Nb.map fun x=>x.1).length=true:=⟨fun h=>(by have:=h.1 e;simp[qZ,this]),fun h=>⟨fun _=>(by simpa [qZ] using h),fun h'=>(by omega),fun h'=>(by omega)⟩⟩)
 all_goals
  try
   have HL:=J3 j5 hE hC;clear hl hE hC hlen j5;go_wp2_with fail;refine HL.1.mono ?_;rintro e w1 ⟨u,rfl,I,hu⟩;have HU:∃(S':Nat→Prop) (l:List ByteArray),(∀b,S' b→b<w.heap.size∨wr.heap.size≤b)∧gB S' w1 u l∧(∀s,l[x.ref.toNat]? =some s→gW p main x=s)∧(dx p x↔qZ x.ref l.length=true):=⟨_,_,fun b hb=>.inr hb,hu,HL.2.1,HL.2.2⟩;clear hu
 all_goals
  obtain⟨S',l,hS,hu,hE,hC⟩:=HU;have h7:=(HP.2.1.kept HR.1 (by show _≠_;omega)).kept I trivial;have h9:=(HW.2.2.2.2.2.1.kept HR.1 (by show _≠_;omega)).kept I trivial;have e4:=(HP.1.kept HR.1 (by show _≠_;omega)).kept I trivial;have e9:=HR.2.1.kept I trivial;by_cases hc:qZ x.ref l.length=true
  ·obtain⟨s,hs⟩:∃s,l[x.ref.toNat]? =some s:=⟨_,lG (by have:0≤x.ref∧x.ref<l.length:=(by simpa [qZ] using hc);omega)⟩;have b7:=qE S' _ l (w.heap.size+1+1+1+1+1+1) (w.heap.size+1+1) (w.heap.size+1+1+1+1+1) (w.heap.size+1+1+1+1) _ _ x.ref s _ hu (fun b hb=>by have:=hS b hb;omega) j1 h7 h9 rfl e4 e9 ⟨_,rfl⟩ hc hs;have HX:=oH (av (hC.2 hc));have HE:=oH (hE s hs);have Y:=J4 b7 I e4 e9;clear b7 I h7 h9 e4 e9 hu hE hC hs hc hS;try clear e
   go_wp2_with fail;refine Y.1.mono ?_;rintro e w2 ⟨rfl,rfl⟩;go_wp2_with fail;go_meet;refine⟨(((HR.1.trans Y.2.1.all).mono fun b (hb:b≠w.heap.size+1+1+1+1∧b≠w.heap.size+1+1+1+1+1)=>hb.1).setCell (.inl fun h=>h.2 rfl) _).setCell (.inl fun h=>h.1 rfl) _,by rw[HX.out];exact al.far (by simpa using Y.2.2.1.set 0 (.bool true)) (by simp) _,⟨s,by simpa using(Y.2.2.2.far (p:=⟨w.heap.size+1+1+1+1+1,0,none⟩) (by simp) (.bool true)).set 3 (.string s),fun _=>HE.out.symm⟩,?_,?_⟩;·exact ax.keep ((Y.2.1.all.setCell (p:=⟨w.heap.size+1+1+1+1+1,0,none⟩) (.inl (by show¬(w.heap.size+7≤w.heap.size+1+1+1+1+1);omega)) _).setCell (p:=⟨w.heap.size+1+1+1+1,3,none⟩) (.inl (by show¬(w.heap.size+7≤w.heap.size+1+1+1+1);omega)) _) HS.1
   exact ax.keep ((Y.2.1.all.setCell (p:=⟨w.heap.size+1+1+1+1+1,0,none⟩) (.inl (by show¬(w.heap.size+7≤w.heap.size+1+1+1+1+1);omega)) _).setCell (p:=⟨w.heap.size+1+1+1+1,3,none⟩) (.inl (by show¬(w.heap.size+7≤w.heap.size+1+1+1+1);omega)) _) HS.2
  have b7:=sX S' _ l (w.heap.size+1+1+1+1+1+1) (w.heap.size+1+1) (w.heap.size+1+1+1+1+1) (w.heap.size+1+1+1+1) _ x.ref _ hu j1 h7 h9 rfl e4 (by simpa using hc);have HX:=oH (au fun h=>hc (hC.1 h));have HE:=oH (fun h=>hc (hC.1 h));have Y:=J4 b7 I e4 e9;clear b7 I h7 h9 e4 e9 hu hE hC hc hS;try clear e
  go_wp2_with fail;refine Y.1.mono ?_;rintro e w2 ⟨rfl,rfl⟩;go_wp2_with fail;go_meet;refine⟨((HR.1.trans Y.2.1.all).mono fun b (hb:b≠w.heap.size+1+1+1+1∧b≠w.heap.size+1+1+1+1+1)=>hb.1).setCell (.inl fun h=>h.2 rfl) _,by rw[HX.out];simpa using Y.2.2.1.set 0 (.bool false),⟨_,Y.2.2.2.far (p:=⟨w.heap.size+1+1+1+1+1,0,none⟩) (by simp) (.bool false),fun h=>absurd h HE.out⟩,?_,?_⟩;·exact ax.keep (Y.2.1.all.setCell (p:=⟨w.heap.size+1+1+1+1+1,0,none⟩) (.inl (by show¬(w.heap.size+7≤w.heap.size+1+1+1+1+1);omega)) _) HS.1
  exact ax.keep (Y.2.1.all.setCell (p:=⟨w.heap.size+1+1+1+1+1,0,none⟩) (.inl (by show¬(w.heap.size+7≤w.heap.size+1+1+1+1+1);omega)) _) HS.2)
 obtain⟨n4,n5,n6,n7,n8,n9,n10,n11,n12⟩:x.kind≠4∧x.kind≠5∧x.kind≠6∧x.kind≠7∧x.kind≠8∧x.kind≠9∧x.kind≠10∧x.kind≠11∧x.kind≠12:=by omega
 have HE:=oH (show gW p main x=⟨#[]⟩ by unfold gW;simp[n4,n5,n6,n7,n8,n9,n10,n11,n12,gR]);have HX:=oH (av (P:=dx p x) ⟨fun h=>by omega,fun h=>by omega,fun h=>by omega⟩);have t4:=nK x.kind 4 (by omega);have t5:=nK x.kind 5 (by omega);have t6:=nK x.kind 6 (by omega);have t7:=nK x.kind 7 (by omega);have t8:=nK x.kind 8 (by omega);have t9:=nK x.kind 9 (by omega);have t10:=nK x.kind 10 (by omega);have t11:=nK x.kind 11 (by omega);have t12:=nK x.kind 12 (by omega);clear h4 h8 e n4 n5 n6 n7 n8 n9 n10 n11 n12;go_wp2_with fail;go_meet;exact⟨HR.1.mono fun b hb=>hb.1,by rw[HX.out];exact HP.1.kept HR.1 (by show _≠_;omega),⟨_,HR.2.1,fun _=>HE.out.symm⟩,HS.1,HS.2⟩)
 obtain⟨e3,h0,⟨r,b2,hr⟩,h5,h6⟩:=hcut;have x0:=(HW.2.2.2.2.2.1.kept e3 (by show _≠_∧_≠_;omega)).cl 0;have HZ:=J6 e3 h0 b2 hr h5 h6;clear e3 h0 b2 hr h5 h6;obtain⟨OK,j6⟩:=eR (pB (dx p x));rw[j6] at HZ;have p8:=oH j6;clear j6;go_upto_if 118 with fail;go_cut [] (fun wx=>aa (fun b=>b≠w.heap.size+1+1+1+1∧b≠w.heap.size+1+1+1+1+1) W0 wx∧al wx (w.heap.size+1+1+1+1+1) 4 #[.bool OK]∧al wx (w.heap.size+1+1+1+1) 188 #[.int .u8 x.kind,.int .u8 x.op,.string DB,.string r,.string (CB x),(.slice C5 x.args.length b6),(.slice C6 x.Nh.length b8),.int .i64 x.num,.int .i64 x.Nj]∧gB (fun b=>w.heap.size+7≤b) wx (.slice C5 x.args.length b6) (x.args.map (aL 118))∧gB (fun b=>w.heap.size+7≤b) wx (.slice C6 x.Nh.length b8) (x.Nh.map (aL 98)))
 case first=>(
 by_cases j0:x.kind=12
 ·have t12:=yK x.kind 12 (by omega);have HE:=oH (show CB x=aL 98 x.Ni by unfold CB;simp[j0]);have x4:=(HW.2.2.2.2.2.1.kept HZ.1 (by show _≠_∧_≠_;omega)).cl 4;have HN:=oH fun wn=>ez 98 x.Ni o9 wn;clear j0;go_wp2_with fail;refine(HN.out _).mono ?_;rintro e w1 ⟨rfl,I⟩;have R:=HZ.2.2.1.kept I trivial;have q4:=R.cl 4;have g4:=R.free 4;have Y:=J2 I R;clear I R;go_wp2_with fail;go_meet;refine⟨(HZ.1.trans Y.1.all).setCell (.inl fun h=>h.1 rfl) _,(HZ.2.1.kept Y.1 trivial).far (by simp) _,by rw[HE.out];simpa using Y.2.set 4 (.string (aL 98 x.Ni)),?_,?_⟩;·exact ax.keep (Y.1.all.setCell (p:=⟨w.heap.size+1+1+1+1,4,none⟩) (.inl (by show¬(w.heap.size+7≤w.heap.size+1+1+1+1);omega)) _) HZ.2.2.2.2.1
  exact ax.keep (Y.1.all.setCell (p:=⟨w.heap.size+1+1+1+1,4,none⟩) (.inl (by show¬(w.heap.size+7≤w.heap.size+1+1+1+1);omega)) _) HZ.2.2.2.2.2
 have t12:=nK x.kind 12 (by omega);have HE:=oH (show CB x=⟨#[]⟩ by unfold CB;simp[j0,gR]);clear j0;go_wp2_with fail;go_meet;exact⟨HZ.1,HZ.2.1,by rw[HE.out];exact HZ.2.2.1,HZ.2.2.2.2.1,HZ.2.2.2.2.2⟩)
 obtain⟨e3,h0,b2,h5,h6⟩:=hcut;have hR:=HP.2.2.2.2.2.2.2.kept e3 (by show _≠_∧_≠_;omega);have HQ:=J4 e3 h5 h6 hR;have o0:=h0.cl 0;have y0:=b2.cl 0;have y1:=b2.cl 1;have y2:=b2.cl 2;have y3:=b2.cl 3;have y4:=b2.cl 4;have y5:=b2.cl 5;have y6:=b2.cl 6;have y7:=b2.cl 7;have y8:=b2.cl 8;have r0:=hR.cl 0;have r1:=hR.cl 1;have r2:=hR.cl 2;have r3:=hR.cl 3;have r4:=hR.cl 4;have r5:=hR.cl 5;have r6:=hR.cl 6;have r7:=hR.cl 7;have r8:=hR.cl 8;have f0:=hR.free 0;have f1:=hR.free 1;have f2:=hR.free 2;have f3:=hR.free 3;have f4:=hR.free 4;have f5:=hR.free 5;have f6:=hR.free 6;have f7:=hR.free 7;have f8:=hR.free 8;obtain⟨AB,j7⟩:=eR (CB x);rw[j7] at y4;have p9:=oH j7;clear j7;clear e3 h0 b2 h5 h6 hR x0;go_wp2_with fail
 go_region
 all_goals go_wp2_with fail
 all_goals
  have b9:=(((((((((HQ.2.2.2.set 0 (.int .u8 x.kind)).set 1 (.int .u8 x.op)).set 2 (.string DB)).set 3 (.string r)).set 4 (.string AB)).set 5 (.slice C5 x.args.length b6)).set 6 (.slice C6 x.Nh.length b8)).set 7 (.int .i64 x.num)).set 8 (.int .i64 x.Nj)).drew;have q0:=(((((((((((HQ.1.mono fun b (hb:b≠w.heap.size+1+1+1+1∧b≠w.heap.size+1+1+1+1+1∧b≠w.heap.size+1+1+1)=>⟨hb.1,hb.2.1⟩).setCell (p:=⟨w.heap.size+1+1+1,0,none⟩) (.inl fun h=>h.2.2 rfl) (.int .u8 x.kind)).setCell (p:=⟨w.heap.size+1+1+1,1,none⟩) (.inl fun h=>h.2.2 rfl) (.int .u8 x.op)).setCell (p:=⟨w.heap.size+1+1+1,2,none⟩) (.inl fun h=>h.2.2 rfl) (.string DB)).setCell (p:=⟨w.heap.size+1+1+1,3,none⟩) (.inl fun h=>h.2.2 rfl) (.string r)).setCell (p:=⟨w.heap.size+1+1+1,4,none⟩) (.inl fun h=>h.2.2 rfl) (.string AB)).setCell (p:=⟨w.heap.size+1+1+1,5,none⟩) (.inl fun h=>h.2.2 rfl) (.slice C5 x.args.length b6)).setCell (p:=⟨w.heap.size+1+1+1,6,none⟩) (.inl fun h=>h.2.2 rfl) (.slice C6 x.Nh.length b8)).setCell (p:=⟨w.heap.size+1+1+1,7,none⟩) (.inl fun h=>h.2.2 rfl) (.int .i64 x.num)).setCell (p:=⟨w.heap.size+1+1+1,8,none⟩) (.inl fun h=>h.2.2 rfl) (.int .i64 x.Nj)).drew);have o3:=(((((((((((aa.refl (fun b=>w.heap.size+7≤b) wc).setCell (p:=⟨w.heap.size+1+1+1,0,none⟩) (.inl (by show¬(w.heap.size+7≤w.heap.size+1+1+1);omega)) (.int .u8 x.kind)).setCell (p:=⟨w.heap.size+1+1+1,1,none⟩) (.inl (by show¬(w.heap.size+7≤w.heap.size+1+1+1);omega)) (.int .u8 x.op)).setCell (p:=⟨w.heap.size+1+1+1,2,none⟩) (.inl (by show¬(w.heap.size+7≤w.heap.size+1+1+1);omega)) (.string DB)).setCell (p:=⟨w.heap.size+1+1+1,3,none⟩) (.inl (by show¬(w.heap.size+7≤w.heap.size+1+1+1);omega)) (.string r)).setCell (p:=⟨w.heap.size+1+1+1,4,none⟩) (.inl (by show¬(w.heap.size+7≤w.heap.size+1+1+1);omega)) (.string AB)).setCell (p:=⟨w.heap.size+1+1+1,5,none⟩) (.inl (by show¬(w.heap.size+7≤w.heap.size+1+1+1);omega)) (.slice C5 x.args.length b6)).setCell (p:=⟨w.heap.size+1+1+1,6,none⟩) (.inl (by show¬(w.heap.size+7≤w.heap.size+1+1+1);omega)) (.slice C6 x.Nh.length b8)).setCell (p:=⟨w.heap.size+1+1+1,7,none⟩) (.inl (by show¬(w.heap.size+7≤w.heap.size+1+1+1);omega)) (.int .i64 x.num)).setCell (p:=⟨w.heap.size+1+1+1,8,none⟩) (.inl (by show¬(w.heap.size+7≤w.heap.size+1+1+1);omega)) (.int .i64 x.Nj)).drew);have c0:=b9.cell 0;have c1:=b9.cell 1;have c2:=b9.cell 2;have c3:=b9.cell 3;have c4:=b9.cell 4;have c5:=b9.cell 5;have c6:=b9.cell 6;have c7:=b9.cell 7;have c8:=b9.cell 8;simp only[ga,gc] at c0 c1 c2 c3 c4 c5 c6 c7 c8;clear b9;generalize ((((((((((wc.setCell _ _).setCell _ _).setCell _ _).setCell _ _).setCell _ _).setCell _ _).setCell _ _).setCell _ _).setCell _ _).drew)=W2 at*;refine bodyPost_ret (v:=.tuple #[.agg #[.int .u8 x.kind,.int .u8 x.op,.string DB,.string r,.string AB,.slice C5 x.args.length b6,.slice C6 x.Nh.length b8,.int .i64 x.num,.int .i64 x.Nj],.bool OK]) (by simp[results,Tryz.f205,go_sem,c0,c1,c2,c3,c4,c5,c6,c7,c8]) rfl ⟨_,OK,rfl,p8.out.symm,?_,DB,r,AB,C5,x.args.length,b6,C6,x.Nh.length,b8,rfl,fun hc=>⟨.slice C5 x.args.length b6,.slice C6 x.Nh.length b8,?_,?_,?_,?_⟩⟩;·exact dV (HW.2.2.1.all.trans (q0.mono fun b hb=>by refine⟨?_,?_,?_⟩<;>(show b≠_)<;>omega))
  ·rw[←p0.out,←p9.out,HZ.2.2.2.1 hc];rfl
  ·exact ax.wide (fun b hb=>by omega) (ax.keep o3 HQ.2.1)
  ·exact ax.wide (fun b hb=>by omega) (ax.keep o3 HQ.2.2.1)
  exact Lr l9.1 l9.2
section
namespace Q
def Gh.giv (g:Gh)(j b n:Nat)(w:World):Gh:=⟨fun i=>if i=j then some b else g.ι i,fun c o=>g.fz c o∨(n≤c∧c<w.heap.size∧c≠b),g.tk⟩
section
variable {g:Gh} {w w':World} {H:List HO}
theorem qdt (h:HR g w H){b n i c:Nat}(j:(g.giv H.length b n w').own i c):(i=H.length∧c=b)∨(i<H.length∧g.own i c):=qco h (b:=b) j
theorem Le.giv (h:HR g w H)(k:aa All w w'){b:Nat}(j:w.heap.size≤b):Le g w (g.giv H.length b w.heap.size w') w':=
 ⟨k.os,k.output,k.size,fun b _ j=>⟨.inl j,World.cell?_of_block (k.block b (qaP h j) trivial)⟩,fun i c hi=>by
  have:i≠H.length:=fun e=>by have:=(h.nil i (by omega)).1;rw[this] at hi;cases hi
  simp[Gh.giv,this,hi],fun _ u n h=>⟨u,n,h,.inr ⟨rfl,rfl⟩⟩,fun b j=>k.block b (qaP h (j 0)) trivial,fun b j _=>k.block b j trivial,fun i c o=>(qdt h o).elim (fun e=>.inr (e.2▸j)) fun e=>.inl e.2,fun _ _ h=>h.imp id fun h=>.inl h.1⟩
theorem HR.giv (h:HR g w H)(k:aa All w w'){b:Nat}(R:w.heap.size≤b){o:HO}(Y:HOR (g.giv H.length b w.heap.size w') w' H.length o):HR (g.giv H.length b w.heap.size w') w' (H++[o]):=by
 refine⟨fun i p I=>?_,fun i hi=>?_,fun i j c hi hj=>?_,fun c o C=>?_⟩
 ·rcases Nat.lt_or_ge i H.length with hi|hi
  ·rw[ma hi] at I
   refine(h.objs i p I).keep (Le.giv h k R) (fun c C=>⟨k.block c (qaz h C).1 trivial,fun _ e=>e.elim id fun e=>by have:=(qaz h C).1;omega⟩) ?_ rfl;simp[Gh.giv,Nat.ne_of_lt hi]
  have:i=H.length:=by have:=(lS.1 I).1;simp at this;omega
  subst this;simp at I;subst I;exact Y
 ·simp at hi;have:=h.nil i (by omega);refine⟨?_,this.2⟩;simp only[Gh.giv];rw[ae (by omega)];exact this.1
 ·rcases qdt h hi with ⟨e1,J⟩|⟨e1,J⟩<;>rcases qdt h hj with ⟨f1,f2⟩|⟨f1,f2⟩;·omega
  ·have:=(qaz h f2).1;omega
  ·have:=(qaz h J).1;omega
  exact h.inj i j c J f2
 exact C.elim (fun C=>Nat.lt_of_lt_of_le (h.lt c o C) k.size) fun C=>C.2.1
end
section
variable {C:Cx} {T:VT} {H:List HO} {Q:VQ}
theorem HR.re {g:Gh}{w:World}{M:Nat}{ty:TypeId}{cs I:List V}(h:HR g w H)(J:H[M]? =some (.cells ty cs))(R:∀vs,da g w cs vs→da g w I vs):HR g w (H.set M (.cells ty I)):=by
 refine⟨fun i o j=>?_,fun i hi=>h.nil i (by simpa using hi),h.inj,h.lt⟩;rw[List.getElem?_set] at j;split at j
 ·rename_i e;subst e;split at j
  ·cases j
   obtain⟨b,us,Y,k2,k3,k4⟩:=h.objs M _ J;exact⟨b,us,Y,k2,R us k3,k4⟩
  cases j
 exact h.objs i o j
theorem da.re {g:Gh}{w:World}{cs:List V}{vs:List Value}(h:da g w cs vs){i:Nat}{x y:V}(hi:cs[i]? =some x)(J:∀v,VR g w x v→VR g w y v):da g w (cs.set i y) vs:=by
 refine⟨by simp[h.1],fun j z v o I=>?_⟩;rw[List.getElem?_set] at o;split at o
 ·rename_i e;subst e;split at o;·cases o;exact J v (h.2 _ _ v hi I)
  cases o
 exact h.2 j z v o I
theorem zf {c:Code}(M i:Nat)(e:TypeId)(k bw:Nat){ty:TypeId}{cs:List V}{H':List HO}(h:VW C c Q T H')(I:H[M]? =some (.cells ty cs):=by rfl)(hi:cs[i]? =some (.s (.slice none 0 0)):=by rfl)(hH:(H.set M (.cells ty (cs.set i (.row k bw [] (some H.length)))))++[.tok e k 0]=H':=by rfl):VW C c Q T H:=⟨fun g a w j=>by
 obtain⟨g1,J,r1,v1⟩:=qdx (e:=e) (k:=k) j.hr;have o:=(lS.1 I).1;refine h.out g1 a w ⟨j.le.trans J,fun t x R=>?_,?_,j.defers,j.size,j.nil⟩
 ·obtain⟨v,h1,Y⟩:=j.tmps t x R
  exact⟨v,h1,Y.le J⟩
 rw[←hH,←List.set_append_left _ _ o];exact r1.re (by rw[ma o];exact I) fun vs hv=>hv.re hi fun v hx=>by cases hx.of_s;exact v1 bw⟩
theorem zx {c:Code}(M i:Nat){k bw:Nat}{es:List (List V)}{tok:Option Nat}{ty:TypeId}{cs:List V}{H':List HO}(h:VW C c Q T H')(o:H[M]? =some (.cells ty cs):=by rfl)(hi:cs[i]? =some (.row k bw es tok):=by rfl)(hH:H.set M (.cells ty (cs.set i (.row k bw es none)))=H':=by rfl):VW C c Q T H:=⟨fun g a w j=>by
 refine h.out g a w ⟨j.le,j.tmps,?_,j.defers,j.size,j.nil⟩;rw[←hH];exact j.hr.re o fun vs I=>I.re hi fun v J=>by
  cases J with
  |row _ _ _ _ a c f R Y k3 k4 k5 k6 _=>exact .row _ _ _ _ a c f R Y k3 k4 k5 k6 nofun⟩
theorem qjZ {ops:Array Oper}{l:List Oper}{t:Nat}{ty:TypeId}{pos:String}{J:Array Edge}{f:FuncId}{Y:List V}{args:Array Operand}{j:Array TypeId}(R:V→Prop)(h:∀g w vs,Le C.g C.w g w→HR g w H→da g w Y vs→Calls C.P f vs.toArray w fun e w'=>∃v q,e=.returned v∧R q∧aa All w w'∧VR (g.frz w.heap.size w') w' q v)
 (k:∀q,R q→VO none C ops Q l ((t,q)::T) H) (ha:args.toList.mapM (ev T)=some Y:=by rfl) (hf:∀zs w,(callFunc f zs).run C.P w=.ok (.enter f zs) w:=by intro zs w;go_simp) (ht:Nat.blt t C.n=true:=by rfl):VO none C ops Q (⟨some t,.call {callee:=.value (.func f),args:=args,argTypes:=j},ty,pos,J,none⟩::l) T H:=⟨fun g a w I=>by
 simp only[wpList,qaK (o:=⟨some t,.call {callee:=.value (.func f),args:=args,argTypes:=j},ty,pos,J,none⟩) rfl,if_true];left;unfold Oper.wp;have h3:=qbk I _ _ ha;have hr:(execOp a.eval ⟨some t,.call {callee:=.value (.func f),args:=args,argTypes:=j},ty,pos,J,none⟩).run C.P w=.ok (.enter f (args.toList.map a.eval).toArray) w:=by simp only[execOp,resolve,Act.eval,Deferred.ofValue,Sem.run_bind,Sem.run_pure,Result.andThen_ok,invoke,hf];cases args;simp
 rw[hr];simp only[Oper.upon];refine(h g w _ I.le I.hr h3).mono ?_;rintro e w' ⟨v,q,rfl,hR,hk,hq⟩;exact(k q hR).out _ _ _ (I.put (Le.frz I.hr hk) (HR.frz I.hr hk) hq (bl ht))⟩
theorem qiw {ops:Array Oper}{l:List Oper}{t:Nat}{ty:TypeId}{pos:String}{Y:Array Edge}{f:FuncId}{ys:List V}{args:Array Operand}{j:Array TypeId}(R:V→HO→Prop){Hf:HO→List HO}
 (h:∀g w vs,Le C.g C.w g w→HR g w H→da g w ys vs→Calls C.P f vs.toArray w fun e w'=>∃v q o I,e=.returned v∧R q o∧Le g w I w'∧VR I w' q v∧HR I w' (H++[o]))
 (k:∀q o,R q o→VO none C ops Q l ((t,q)::T) (Hf o)) (hH:∀o,H++[o]=Hf o:=by intro o;simp only[List.cons_append,mF];rfl) (ha:args.toList.mapM (ev T)=some ys:=by rfl) (hf:∀zs w,(callFunc f zs).run C.P w=.ok (.enter f zs) w:=by intro zs w;go_simp) (ht:Nat.blt t C.n=true:=by rfl):VO none C ops Q (⟨some t,.call {callee:=.value (.func f),args:=args,argTypes:=j},ty,pos,Y,none⟩::l) T H:=⟨fun g a w J=>by
 simp only[wpList,qaK (o:=⟨some t,.call {callee:=.value (.func f),args:=args,argTypes:=j},ty,pos,Y,none⟩) rfl,if_true];left;unfold Oper.wp;have h3:=qbk J _ _ ha;have hr:(execOp a.eval ⟨some t,.call {callee:=.value (.func f),args:=args,argTypes:=j},ty,pos,Y,none⟩).run C.P w=.ok (.enter f (args.toList.map a.eval).toArray) w:=by simp only[execOp,resolve,Act.eval,Deferred.ofValue,Sem.run_bind,Sem.run_pure,Result.andThen_ok,invoke,hf];cases args;simp
 rw[hr];simp only[Oper.upon];refine(h g w _ J.le J.hr h3).mono ?_;rintro e w' ⟨v,q,o,I,rfl,hR,hle,hq,hr⟩;exact(k q o hR).out _ _ _ (J.put hle (hH o▸hr) hq (bl ht))⟩
theorem qgK {c:Code}(N M off len cap k bw:Nat)(ot a1:TypeId)(pre post cs ds:List V)(es:List (List V))(a8:N≠M)(hN:H[N]? =some (.cells ot (pre++(es.flatten++post))))(hM:H[M]? =some (.cells a1 cs))(J:pre.length=off)(b0:∀e∈es,e.length=k)(hlen:es.length=len)(b1:es.length*bw≤140737488355328)
 (hd:cs.length=ds.length) (b3:∀(i:Nat) x y,cs[i]? =some x→ds[i]? =some y→x=y∨x=.sl N off len cap∧y=.row k bw es none) (h:VW C c Q T ((H.set N .gone).set M (.cells a1 ds))):VW C c Q T H:=⟨fun g a w I=>by
 obtain⟨b,us,⟨h1,b4⟩,hB,hv,hf⟩:=I.hr.objs N _ hN;obtain⟨b2,b5,⟨h2,b6⟩,b7,a6,b8⟩:=I.hr.objs M _ hM;have b9:b2≠b:=fun e=>a8 (I.hr.inj N M b (.inl h1) (.inl (e▸h2)));have c0:=(lS.1 hN).1;have c1:=(lS.1 hM).1;let G:Gh:=⟨g.ι,fun c o=>g.fz c o∨c=b,g.tk⟩;have hle:Le g w G w:=⟨rfl,rfl,cf _,fun _ _ h=>⟨.inl h,rfl⟩,fun _ _ h=>h,fun _ u n h=>⟨u,n,h,.inr ⟨rfl,rfl⟩⟩,fun _ _=>rfl,fun _ _ _=>rfl,fun _ _ h=>.inl h,fun c o (h:g.fz c o∨c=b)=>h.elim .inl fun(e:c=b)=>.inr (.inr ⟨N,.inl (by rw[e];exact h1)⟩)⟩;have key:∀ {v:Value},VR g w (.sl N off len cap) v→VR G w (.row k bw es none) v:=by(
 intro v hx;cases hx with
 |sl _ _ _ _ b' a7 hc hm=>
  rw[h1] at a7;cases a7;subst hlen;have R:=((hv.le hle).drop off).take es.flatten.length;rw[←J,List.drop_left,List.take_left] at R;refine qcC b0 R hc hm b1 (fun _=>⟨b,off,rfl,fun p u hu=>⟨.inr rfl,?_⟩⟩) nofun;rw[List.getElem?_take] at hu;split at hu
  ·rw[List.getElem?_drop,J] at hu
   rw[hB.cell];simpa using hu
  cases hu)
 refine h.out G a w ⟨I.le.trans hle,fun t x ht=>?_,⟨fun i o Y=>?_,fun i hi=>?_,fun i j c hi hj=>I.hr.inj i j c hi hj,fun c o hc=>?_⟩,I.defers,I.size,I.nil⟩
 ·obtain⟨v,e1,e2⟩:=I.tmps t x ht
  exact⟨v,e1,e2.le hle⟩
 ·(
 rw[List.getElem?_set] at Y;by_cases e:M=i
 ·subst e;rw[ap rfl,ap (by simpa using c1)] at Y;cases Y;refine⟨b2,b5,⟨h2,b6⟩,b7,⟨hd▸a6.1,fun i y v hy c4=>?_⟩,fun o e=>e.elim (b8 o) b9⟩;have c5:=(lS.1 hy).1;have hx:=lG (hd▸c5);have hr:=a6.2 i _ v hx c4;rcases b3 i _ y hx hy with e|⟨e1,e2⟩;·exact e▸hr.le hle
  rw[e1] at hr;rw[e2];exact key hr
 rw[ae e,List.getElem?_set] at Y;by_cases e2:N=i
 ·subst e2
  rw[ap rfl,ap c0] at Y;cases Y;exact⟨b,⟨h1,b4⟩,hB.lt⟩
 rw[ae e2] at Y;exact(I.hr.objs i o Y).keep hle (fun c hc=>⟨rfl,fun o h=>h.elim id fun h=>absurd (I.hr.inj N i b (.inl h1) (h▸hc)) e2⟩) rfl rfl)
 ·exact I.hr.nil i (by simpa using hi)
 rcases hc with hc|rfl;·exact I.hr.lt c o hc
 exact hB.lt⟩
end
end Q
end
end Go.Proofs.YtgdlhckhpolnnaaGreatDoor
