/- Part 21 of the proof (its last part says what is proved). No condition. -/
import Derived.Test.YtgdlhckhpolnnaaGreatDoorK19
namespace Go.Proofs.YtgdlhckhpolnnaaGreatDoor
set_option maxRecDepth 100000
set_option maxHeartbeats 8000000
open Go.RowKit Go.Proofs.Tryz
theorem lR (l:List ByteArray)(s:ByteArray): -1≤aO l s∧aO l s<(l.length:Int)+1:=kT _ _
theorem Ca {S:Nat→Prop}{w:World}{v:Value}{l:List Int}(h:aK S w v l):aK (fun b=>S b∧b<w.heap.size) w v l:=by obtain⟨a,cap,o,C,I,J,h⟩:=h;refine⟨a,cap,o,C,I,J,fun i x R=>?_⟩;obtain⟨b,off,c,e,Y,j,he⟩:=h i x R;exact⟨b,off,c,e,⟨Y,jy w _ j⟩,j,he⟩
theorem iw {n:Int}(h:aV n):(Lit.int .i64 n).wf=true:=by unfold aV at h;simp[Lit.wf,IntKind.min,IntKind.max,IntKind.signed,IntKind.bits];omega
theorem Ko {p:aH}{q:dN}{f:cD}{x:cX}{d r s:Int}{S:Nat→Prop}{w:World}{o a2:Option Addr}{C I J c2:Nat}(Y:(if x.dst=gR then-1 else aO (bh f) x.dst)=d)(hr:dv p q f x=r)(hs:dy f x=s)(h1:aK S w (.slice o C I) (x.args.map (aO (bh f))))(h2:aK S w (.slice a2 J c2) (x.Nh.map (aO (cn f))))(j:uB x)(R:aV (dv p q f x)∧aV (dy f x))(hD:aV d):
 KD S w [.int .u8 x.kind,.int .u8 x.op,.int .i64 d,.int .i64 r,.int .i64 s,.slice o C I,.slice a2 J c2,.int .i64 x.num,.int .i64 x.Nj] (pg p q f x):=by
 subst Y hr hs;exact⟨_,_,rfl,h1,h2,j.kind,j.op,hD,R.1,R.2,j.num,j.Nj⟩
def KC (p:aH)(q:dN)(f:cD)(x:cX)(w:World)(e:Ending)(w':World):Prop:=
 ql (mO p q f x) (fun e w'=>aa All w w'∧∃(d r s:Int) (j:Option Addr) (o C:Nat) (a2:Option Addr) (I c2:Nat),e=.returned (.agg #[.int .u8 x.kind,.int .u8 x.op,.int .i64 d,.int .i64 r,.int .i64 s,.slice j o C,.slice a2 I c2,.int .i64 x.num,.int .i64 x.Nj])∧
  KD (fun b=>w.heap.size≤b∧b<w'.heap.size) w' [.int .u8 x.kind,.int .u8 x.op,.int .i64 d,.int .i64 r,.int .i64 s,.slice j o C,.slice a2 I c2,.int .i64 x.num,.int .i64 x.Nj] (pg p q f x)) w e w'
theorem Ls (S:Nat→Prop)(br:Nat)(p:aH)(q:dN)(f:cD)(x:cX)(b1 b2:Nat)(xa xf:Value)(w:World)(hr:rV S w br p q)(l1:cK w b1 (cn f))(l2:cK w b2 (bh f))(l3:gB S w xa x.args)(l4:gB S w xf x.Nh)(hx:uB x)
 (hI:aV (dv p q f x)∧aV (dy f x)) (hd:x.dst=gR∨x.dst∈bh f) (hz:x.args.length≤1048576∧x.Nh.length≤1048576) (hv:(bh f).length≤1000000000) (hb:(cn f).length≤1000000000):
 Calls prog 99 #[.pointer (some ⟨br,0,none⟩),.agg #[.map (some b1),.map (some b2)],.agg #[.int .u8 x.kind,.int .u8 x.op,.string x.dst,.string x.ref,.string x.Ni,xa,xf,.int .i64 x.num,.int .i64 x.Nj]] w (KC p q f x w):=by
 obtain⟨i3,I3⟩:=iH yw;obtain⟨z1,z2⟩:=hz;have l5:=ax.la l3;have l6:=ax.la l4;obtain⟨ua,uc,rfl,u1,u2,u3,_⟩:=l3;obtain⟨va,vc,rfl,v1,v2,v3,_⟩:=l4;unfold maxLen at u2 v2;obtain⟨W2,e2⟩:=eQ ((((w.alloc (.cells #[.map (some b1),.map (some b2)] 131)).alloc (.cells #[.int .u8 x.kind,.int .u8 x.op,.string x.dst,.string x.ref,.string x.Ni,.slice ua x.args.length uc,.slice va x.Nh.length vc,.int .i64 x.num,.int .i64 x.Nj] 188)).alloc (.cells #[.int .u8 0,.int .u8 0,.int .i64 0,.int .i64 0,.int .i64 0,.slice none 0 0,.slice none 0 0,.int .i64 0,.int .i64 0] 56)).alloc (.cells #[.int .u8 x.kind,.int .u8 x.op,.int .i64 (-1),.int .i64 0,.int .i64 0,.slice none 0 0,.slice none 0 0,.int .i64 x.num,.int .i64 x.Nj] 56));have j7:=aD4 e2;have j0:=aC4 e2;have bS:=aA3 e2;have bX:=aB2 e2 aE1;have bO:=aB1 e2 aE2;have bY:=aB0 e2 aE3;have X0:∀i,W2.cell? ⟨w.heap.size+1,i,none⟩=(#[.int .u8 x.kind,.int .u8 x.op,.string x.dst,.string x.ref,.string x.Ni,.slice ua x.args.length uc,.slice va x.Nh.length vc,.int .i64 x.num,.int .i64 x.Nj]:Array Value)[i]?:=fun i=>bX.cell i;have g0:=bX.cl 0;have g1:=bX.cl 1;have g2:=bX.cl 2;have g3:=bX.cl 3;have g4:=bX.cl 4;have g5:=bX.cl 5;have g6:=bX.cl 6;have g7:=bX.cl 7;have g8:=bX.cl 8;have s0:=bS.cl 0;have s1:=bS.cl 1;have HW:=J7 e2 j7 j0 bS bX bO bY;have HM:=J8 hr l1 l2 l5 l6 hx hI hd;clear e2 j7 j0 bS bX bO bY X0 hr l1 l2 l5 l6 hx hI hd;go_enter func99,ntmps99;go_upto_region 2 with fail;rw[←HW.1];go_wp2_with fail;refine(GO S br p q f x b1 b2 _ _ W2 (HM.1.keep HW.2.2.1) (HM.2.1.keep HW.2.2.1 trivial) (HM.2.2.2.1 _ HW.2.2.1) (HM.2.2.2.2.1 _ HW.2.2.1) HM.2.2.2.2.2.1).mono ?_;rintro e w3 (⟨h6,rfl,h4⟩|⟨h6,⟨an,nn,hn,ha,hi,rfl⟩,h4⟩)
 case inr=>have HS:=J5 h6 hn ha hi h4;clear h6 hn ha hi h4;go_wp2_with fail;exact⟨rfl,.inr ⟨fun h=>HS.1 ⟨h.1,h.2.1⟩,⟨an,nn,HS.2.1,HS.2.2.1,HS.2.2.2.1,rfl⟩,HW.2.2.1.trans HS.2.2.2.2⟩⟩
 clear g0 g1 g2 g3 g4 g5 g6 g7 g8 s0 s1;obtain⟨r,hr⟩:=eR (dv p q f x);obtain⟨s,hs⟩:=eR (dy f x);rw[hr,hs];have h5:=HW.2.2.2.2.2.2.kept h4 trivial;have y3:=h5.cl 3;have y4:=h5.cl 4;have f3:=h5.free 3;have f4:=h5.free 4;obtain⟨W4,j1⟩:=eQ ((w3.setCell ⟨w.heap.size+1+1+1,3,none⟩ (.int .i64 r)).setCell ⟨w.heap.size+1+1+1,4,none⟩ (.int .i64 s));have j2:aa (fun b=>b≠w.heap.size+1+1+1) W2 W4:=by rw[j1];exact(h4.all.setCell (.inl fun h=>h rfl) _).setCell (.inl fun h=>h rfl) _
 have b4:al W4 (w.heap.size+1+1+1) 56 #[.int .u8 x.kind,.int .u8 x.op,.int .i64 (-1),.int .i64 r,.int .i64 s,.slice none 0 0,.slice none 0 0,.int .i64 x.num,.int .i64 x.Nj]:=by rw[j1];simpa using(h5.set 3 (.int .i64 r)).set 4 (.int .i64 s)
 have q1:=j2.size;have j7:=eE HW.2.1.symm;have l7:=HW.2.2.2.2.1.kept j2 (by show _≠_;omega);have x5:=l7.cl 5;have H4:=J6 j1 j2 b4 h6 hr hs;clear j1 j2 b4 h6 hr hs l7 h5 h4;go_upto_region 3 with fail;rw[←H4.1];clear y3 y4 f3 f4;go_wp2_with fail;have l8:=oH (show aa All w W4 from am (HW.2.2.1.all.trans (H4.2.1.mono fun b hb=>by show b≠_;omega)));have h0:=oH H4.2.1;go_loopg [33] x.args.length (fun g t wr=>∃(j:Nat) (v5:Value),j≤x.args.length∧g=x.args.length-j∧t=.int .i64 j∧aa (fun b=>b≠w.heap.size+1+1+1) W4 wr∧al wr (w.heap.size+1+1+1) 56 #[.int .u8 x.kind,.int .u8 x.op,.int .i64 (-1),.int .i64 r,.int .i64 s,v5,.slice none 0 0,.int .i64 x.num,.int .i64 x.Nj]∧wr.ownsRow W4.heap.size 3 1 v5 j (aI ((x.args.map (aO (bh f))).take j))∧∀(i:Nat) a,i<j→x.args[i]? =some a→a∈bh f);·exact⟨0,_,by omega,by omega,rfl,kR,H4.2.2.1,⟨rfl,.inl ⟨rfl,rfl⟩⟩,fun i a h=>by omega⟩
 obtain⟨j,v5,hj,rfl,rfl,R,a1,J,b0⟩:=hrel;have l9:=R.size;have b7:aa All w wr:=am ((l8.out).all.trans (R.mono fun b hb=>by show b≠_;omega));obtain⟨E1,d8,rfl⟩:=aU J;by_cases j8:j<x.args.length;·(
 obtain⟨a,ha⟩:=eG j8;obtain⟨bb,o,cc,rfl,o9,p0,rfl⟩:=bn (HM.2.2.2.1 wr b7) ha;have j9:a.size≤140737488355328:=HM.2.2.2.2.2.1.args a (mG ha);have hq:∀wn,aa All wr wn→wn.cell? ⟨w.heap.size+1+1+1,5,none⟩=some (.slice E1 j d8)∧wn.cell? ⟨w.heap.size,1,none⟩=some (.map (some b2))∧wn.cell? ⟨w.heap.size+1,8,none⟩=some (.int .i64 x.Nj):=fun wn hk=>
  ⟨(a1.kept hk trivial).cell 5,(((HW.2.2.2.1.kept h0.out (by show _≠_;omega)).kept R (by show _≠_;omega)).kept hk trivial).cell 1,(((HW.2.2.2.2.1.kept h0.out (by show _≠_;omega)).kept R (by show _≠_;omega)).kept hk trivial).cell 8⟩
 have HL:=oH (fun wn (hk:aa All wr wn)=>lQ b2 (bh f) a x.Nj wn (HM.2.2.1.keep (b7.trans hk) trivial) j9 HM.2.2.2.2.2.1.Nj);have HR:=J7 R a1 J b0 hq ha b7;have h7:=lR (bh f) a;obtain⟨n,hn⟩:=eR (aO (bh f) a);rw[hn] at HL h7;have e6:=oH hn;clear R a1 J b0 hq ha b7 hn;go_wp2_with fail;refine R3 9 wr [45] (fun _ v wn=>∃g,v=.slice (some ⟨g,0,none⟩) 1 1∧wr.heap.size≤g∧al wn g 3 #[.int .i64 n]) (fun i=>if i=7 then some (·=.int .i64 n) else if i=8 then some (fun v=>∃g,v=.slice (some ⟨g,0,none⟩) 1 1) else none) (fun i=>i==7&&!decide (0≤n)) (XS wr (mO p q f x)) (fun _ _ _ h hd=>⟨hd,h.end_ HR.2.2.2.2.2.2⟩) ?_;repeat first
 |refine O0 ?_
 |refine O4 HR.2.2.2.2.1 ?_
 refine O9 (decide (0≤n)) HR.2.2.2.2.1 (fun wn hk=>?_) ?_
 ·refine ql.reg (HL.out wn hk) (fun h=>?_) hk (fun e w' h=>⟨h.1,h.2▸kR⟩) ?_
  ·rw[←e6.out];exact cm.2 (h.2.2.1 a (mG HR.2.2.2.2.2.1))
  rintro w' k t _ v ⟨g,e,h1,h2⟩;exact⟨g,e,h1,h2.kept k trivial⟩
 refine OB fun g wt hd b3 p1 h8=>?_;have HF:=oH (show 0≤n by simpa using hd);have a6:=be HR.2.2.1 b3 (fun _ _=>trivial);have b8:=HR.2.1.kept b3 trivial;have d9:=h8.cl 0;have m9:=b3.size;have HT:=J3 b3 b8 d9;clear b3 b8 h8 hd;go_wp2_with (
  at_builtin;go_loud (
  refine aR _ rfl (.tmp 38) (.tmp 45) 54 rfl W4.heap.size 3 i3 _ 1 8 underlying54 I3.1 I3.2.1 I3.2.2.1 I3.2.2.2 rfl (by decide) _ _ _ rfl a6 (some ⟨g,0,none⟩) 1 1 [.int .i64 n] rfl rfl ?_ ?_ (by unfold maxLen;omega) (by omega) (by omega) ?_;·(
 intro _;exact⟨_,_,rfl,fun j u hu=>by
  rcases j with _|j;·rw[cN,HT.2.2];exact hu
  simp at hu⟩)
  ·intro u hu
   rw[cx.1 hu];rfl
  intro v2 w4 a7 e8 e3;obtain⟨C2,h9,rfl⟩:=aU a7;have b5:=HT.2.1.grown e8 (fun e=>by have:=(aD a6 e.symm).1;omega);have y5:=b5.cl 5;have f5:=b5.free 5;have H2:=J4 b5 a7 e8 e3;clear b5 a7 e8 e3))
 go_roundg (x.args.length-(j+1));·(
 refine⟨j+1,.slice C2 (j+1) h9,by omega,rfl,by go_num,(((HR.1.trans HT.1.all).grown H2.2.2.1 fun b hb=>.inr (aD a6 hb).1).setCell (.inl fun h=>h rfl) _),?_,?_,?_⟩
 ·have:=H2.1.set 5 (.slice C2 (j+1) h9)
  simpa using this
 ·have e:aI ((x.args.map (aO (bh f))).take (j+1))=aI ((x.args.map (aO (bh f))).take j)++[.int .i64 n]:=by rw[cU,cL,HR.2.2.2.2.2.1,←e6.out];simp[aI]
  rw[e];exact be H2.2.1 ((aa.refl (fun b=>b≠w.heap.size+1+1+1) _).setCell (.inl fun h=>h rfl) _) fun b hb=>by have:=(aD H2.2.1 hb).1;show b≠_;omega
 intro i a' hi b9;by_cases e:i=j;·subst e;rw[HR.2.2.2.2.2.1] at b9;injection b9 with b9;subst b9;exact cm.1 (by rw[e6.out];exact HF.out)
 exact HR.2.2.2.1 i a' (by omega) b9)
 omega)
 obtain rfl:j=x.args.length:=by omega
 rw[oF (by rw[ce];omega)] at J;have c9:∀a∈x.args,a∈bh f:=fun a ha=>by obtain⟨i,hi⟩:=List.getElem?_of_mem ha;exact b0 i a (lS.1 hi).1 hi
 have hint:=Ca (jr (S:=fun b=>W4.heap.size≤b) J (by rw[ce]) (by rw[ce];omega) (fun g hg=>(aD J hg).1) fun y hy=>by obtain⟨a,_,rfl⟩:=dr.1 hy;have:=lR (bh f) a;exact iw (by unfold aV;omega));have n0:=(HW.2.2.2.2.1.kept h0.out (by show _≠_;omega)).kept R (by show _≠_;omega);have x6:=n0.cl 6;obtain⟨wo,rfl⟩:=eQ wr;have HO:=J4 R a1 hint c9;have n1:=oH b7;have h3:=oH (h0.out.trans R);clear R a1 J b0 c9 hint b7 n0;go_wp2_with fail;go_loopg [52] x.Nh.length (fun g t wr=>∃(j:Nat) (v5:Value),j≤x.Nh.length∧g=x.Nh.length-j∧t=.int .i64 j∧aa (fun b=>b≠w.heap.size+1+1+1) wo wr∧al wr (w.heap.size+1+1+1) 56 #[.int .u8 x.kind,.int .u8 x.op,.int .i64 (-1),.int .i64 r,.int .i64 s,.slice E1 x.args.length d8,v5,.int .i64 x.num,.int .i64 x.Nj]∧wr.ownsRow wo.heap.size 3 1 v5 j (aI ((x.Nh.map (aO (cn f))).take j))∧∀(i:Nat) a,i<j→x.Nh[i]? =some a→a∈cn f);·exact⟨0,_,by omega,by omega,rfl,kR,HO.2.1,⟨rfl,.inl ⟨rfl,rfl⟩⟩,fun i a h=>by omega⟩
 obtain⟨j,v5,hj,rfl,rfl,R,a1,J,b0⟩:=hrel;have l9:=R.size;have b7:aa All w wr:=am ((n1.out).all.trans (R.mono fun b hb=>by show b≠_;omega));obtain⟨E2,e0,rfl⟩:=aU J;by_cases j8:j<x.Nh.length;·(
 obtain⟨a,ha⟩:=eG j8;obtain⟨bb,o,cc,rfl,o9,p0,rfl⟩:=bn (HM.2.2.2.2.1 wr b7) ha;have j9:a.size≤140737488355328:=HM.2.2.2.2.2.1.Nh a (mG ha);have hq:∀wn,aa All wr wn→wn.cell? ⟨w.heap.size+1+1+1,6,none⟩=some (.slice E2 j e0)∧wn.cell? ⟨w.heap.size,0,none⟩=some (.map (some b1))∧wn.cell? ⟨w.heap.size+1,8,none⟩=some (.int .i64 x.Nj):=fun wn hk=>
  ⟨(a1.kept hk trivial).cell 6,(((HW.2.2.2.1.kept h3.out (by show _≠_;omega)).kept R (by show _≠_;omega)).kept hk trivial).cell 0,(((HW.2.2.2.2.1.kept h3.out (by show _≠_;omega)).kept R (by show _≠_;omega)).kept hk trivial).cell 8⟩
 have HL:=oH (fun wn (hk:aa All wr wn)=>lQ b1 (cn f) a x.Nj wn (HM.2.1.keep (b7.trans hk) trivial) j9 HM.2.2.2.2.2.1.Nj);have HR:=J7 R a1 J b0 hq ha b7;have h7:=lR (cn f) a;obtain⟨n,hn⟩:=eR (aO (cn f) a);rw[hn] at HL h7;have e6:=oH hn;clear R a1 J b0 hq ha b7 hn;go_wp2_with fail;refine R3 9 wr [64] (fun _ v wn=>∃g,v=.slice (some ⟨g,0,none⟩) 1 1∧wr.heap.size≤g∧al wn g 3 #[.int .i64 n]) (fun i=>if i=7 then some (·=.int .i64 n) else if i=8 then some (fun v=>∃g,v=.slice (some ⟨g,0,none⟩) 1 1) else none) (fun i=>i==7&&!decide (0≤n)) (XS wr (mO p q f x)) (fun _ _ _ h hd=>⟨hd,h.end_ HR.2.2.2.2.2.2⟩) ?_;repeat first
 |refine O0 ?_
 |refine O4 HR.2.2.2.2.1 ?_
 refine O9 (decide (0≤n)) HR.2.2.2.2.1 (fun wn hk=>?_) ?_
 ·refine ql.reg (HL.out wn hk) (fun h=>?_) hk (fun e w' h=>⟨h.1,h.2▸kR⟩) ?_
  ·rw[←e6.out];exact cm.2 (h.2.2.2.1 a (mG HR.2.2.2.2.2.1))
  rintro w' k t _ v ⟨g,e,h1,h2⟩;exact⟨g,e,h1,h2.kept k trivial⟩
 refine OB fun g wt hd b3 p1 h8=>?_;have HF:=oH (show 0≤n by simpa using hd);have a6:=be HR.2.2.1 b3 (fun _ _=>trivial);have b8:=HR.2.1.kept b3 trivial;have d9:=h8.cl 0;have m9:=b3.size;have HT:=J3 b3 b8 d9;clear b3 b8 h8 hd;go_wp2_with (
  at_builtin;go_loud (
  refine aR _ rfl (.tmp 57) (.tmp 64) 54 rfl wo.heap.size 3 i3 _ 1 8 underlying54 I3.1 I3.2.1 I3.2.2.1 I3.2.2.2 rfl (by decide) _ _ _ rfl a6 (some ⟨g,0,none⟩) 1 1 [.int .i64 n] rfl rfl ?_ ?_ (by unfold maxLen;omega) (by omega) (by omega) ?_;·(
 intro _;exact⟨_,_,rfl,fun j u hu=>by
  rcases j with _|j;·rw[cN,HT.2.2];exact hu
  simp at hu⟩)
  ·intro u hu
   rw[cx.1 hu];rfl
  intro v2 w4 a7 e8 e3;obtain⟨C2,h9,rfl⟩:=aU a7;have b5:=HT.2.1.grown e8 (fun e=>by have:=(aD a6 e.symm).1;omega);have y5:=b5.cl 6;have f5:=b5.free 6;have H2:=J4 b5 a7 e8 e3;clear b5 a7 e8 e3))
 go_roundg (x.Nh.length-(j+1));·(
 refine⟨j+1,.slice C2 (j+1) h9,by omega,rfl,by go_num,(((HR.1.trans HT.1.all).grown H2.2.2.1 fun b hb=>.inr (aD a6 hb).1).setCell (.inl fun h=>h rfl) _),?_,?_,?_⟩
 ·have:=H2.1.set 6 (.slice C2 (j+1) h9)
  simpa using this
 ·have e:aI ((x.Nh.map (aO (cn f))).take (j+1))=aI ((x.Nh.map (aO (cn f))).take j)++[.int .i64 n]:=by rw[cU,cL,HR.2.2.2.2.2.1,←e6.out];simp[aI]
  rw[e];exact be H2.2.1 ((aa.refl (fun b=>b≠w.heap.size+1+1+1) _).setCell (.inl fun h=>h rfl) _) fun b hb=>by have:=(aD H2.2.1 hb).1;show b≠_;omega
 intro i a' hi b9;by_cases e:i=j;·subst e;rw[HR.2.2.2.2.2.1] at b9;injection b9 with b9;subst b9;exact cm.1 (by rw[e6.out];exact HF.out)
 exact HR.2.2.2.1 i a' (by omega) b9)
 omega)
 obtain rfl:j=x.Nh.length:=by omega
 rw[oF (by rw[ce];omega)] at J;have c9:∀a∈x.Nh,a∈cn f:=fun a ha=>by obtain⟨i,hi⟩:=List.getElem?_of_mem ha;exact b0 i a (lS.1 hi).1 hi
 have hint:=Ca (jr (S:=fun b=>wo.heap.size≤b) J (by rw[ce]) (by rw[ce];omega) (fun g hg=>(aD J hg).1) fun y hy=>by obtain⟨a,_,rfl⟩:=dr.1 hy;have:=lR (cn f) a;exact iw (by unfold aV;omega));have HQ:=J5 R a1 hint c9 b7;have k9:=HW.2.2.2.2.1.kept (h3.out.trans R) (by show _≠_;omega);have x0:=k9.cl 0;have HX:=oH k9;have n2:=oH (h3.out.trans R);clear R a1 J b0 c9 hint b7 k9;clear x6;go_upto_if 70 with fail;go_cut [] (fun wx=>aa All wr wx∧(x.kind=7→∀g,q.Nf[r.toNat]? =some g→x.args.length=g.params.length))
 case first=>(
 by_cases e7:x.kind=7;·(
 have t7:=yK x.kind 7 (by omega);have l0:r=aO (fh q) x.ref:=by rw[←H4.2.2.2.2.1];unfold dv;simp[e7]
 have p2:0≤r:=by rw[←H4.2.2.2.2.1];exact H4.2.2.2.1.1
 have p3:r.toNat<q.Nf.length:=by obtain⟨k,hk,j0⟩:=yS (cm.1 (by rw[←l0];exact p2));have:=(lS.1 j0).1;unfold fh at this;rw[ce] at this;rw[l0,hk];simpa using this
 have q2:r<(q.Nf.length:Int):=by omega
 obtain⟨g,hg⟩:=eG p3;obtain⟨q3,vu,vi,vo,pa,pf,ba,q4,R1,R2,⟨q5,q6,j3,p4,R3⟩,R4,R5⟩:=HM.1.keep HQ.2.2.2.2;iterate 2 injection j3 with j3
 simp only[List.cons.injEq,and_true] at j3;obtain⟨rfl,rfl⟩:=j3;obtain⟨fA,fc,rfl,q7,q8,q9,_⟩:=id R3;obtain⟨gb,go,r0,rfl,r3,q0,n3,gp,gv,rfl,p5,p6,_⟩:=aZ R3 hg;obtain⟨p7,p8,rfl,_⟩:=p5;have j5:=n3 1 _ rfl;have n4:∀wn,aa All wr wn→wn.cell? ⟨br,6,none⟩=some (.slice (some ⟨gb,go,none⟩) q.Nf.length fc)∧wn.cell? ⟨gb,go+r.toNat*4+1,none⟩=some (.slice p7 g.params.length p8)∧wn.cell? ⟨w.heap.size+1+1+1,3,none⟩=some (.int .i64 r)∧wn.cell? ⟨w.heap.size+1,5,none⟩=some (.slice ua x.args.length uc)∧wn.cell? ⟨w.heap.size+1,8,none⟩=some (.int .i64 x.Nj):=fun wn hk=>
  ⟨hk.cell trivial (R1.cell 6),hk.cell trivial j5,(HQ.2.1.kept hk trivial).cell 3,(HX.out.kept hk trivial).cell 5,(HX.out.kept hk trivial).cell 8⟩
 have HY:=J3 n4 hg e7;have p9:=oH HM.2.2.2.2.2.1.Nj;clear n4 R1 R2 p4 R3 R4 R5 n3 j5 p6 hg l0 e7;go_upto_region 14 with fail;obtain⟨b,tn⟩:=eR (((x.args.length:Int)==(g.params.length:Int)));have HB:=oH (show b=true↔x.args.length=g.params.length by rw[←tn,cy];omega);refine R2 18 wr (fun i=>if i=17 then some (·=.tuple #[]) else none) (fun i=>i==17&&!b) (XS wr (mO p q f x)) (fun _ _ _ h hd=>⟨hd,h.end_ HQ.2.2.2.2⟩) ?_;repeat first
 |refine O0 ?_
 |refine O4 HY.1 ?_
 refine O9 b (C:=fun _=>True) (fun _ _=>trivial) (fun wn hk=>ZR (n:=13) p9.out (by decide) (by unfold aV;omega) (fun h=>HB.2 (h.2.2.2.2 HY.2.2 g (by rw[H4.2.2.2.2.1];exact HY.2.1))) hk) ?_;refine ZS fun hd wt b3 _=>?_;have HT:=J2 b3 (HB.1 (by simpa using hd));clear b3 hd;simp only[dK];go_wp2_with fail;go_meet;exact⟨HT.1,fun _ g' n5=>by rw[HY.2.1] at n5;cases n5;exact HT.2⟩)
 have t7:=nK x.kind 7 (by omega);have HN:=oH e7;clear e7;go_wp2_with fail;go_meet;exact⟨kR,fun h=>absurd h HN.out⟩)
 obtain⟨a8,e1⟩:=hcut;have b6:=HQ.2.1.kept a8 trivial;have n7:=HX.out.kept a8 trivial;have j4:=(HW.2.2.2.2.2.1.kept n2.out (by show _≠_;omega)).kept a8 trivial;have n8:=(HW.2.2.2.1.kept n2.out (by show _≠_;omega)).kept a8 trivial;have x2:=n7.cl 2;have s1:=n8.cl 1;have fy:=b6.free 2;have yy:=b6.cl 2;have nr:=jY x.dst;clear n7 n8;by_cases e9:x.dst=gR
 ·rw[bL e9] at nr;have HD:=oH e9;clear e9;have I:=j4;have y0:=b6.cell 0;have y1:=b6.cell 1;have y2:=b6.cell 2;have y3:=b6.cell 3;have y4:=b6.cell 4;have y5:=b6.cell 5;have y6:=b6.cell 6;have y7:=b6.cell 7;have y8:=b6.cell 8;have o0:=I.cell 0;have o1:=I.cell 1;have o2:=I.cell 2;have o3:=I.cell 3;have o4:=I.cell 4;have o5:=I.cell 5;have o6:=I.cell 6;have o7:=I.cell 7;have o8:=I.cell 8;have k0:=I.free 0;have k1:=I.free 1;have k2:=I.free 2;have k3:=I.free 3;have k4:=I.free 4;have k5:=I.free 5;have k6:=I.free 6;have k7:=I.free 7;have k8:=I.free 8;have Y:=(((((((((I.set 0 (.int .u8 x.kind)).set 1 (.int .u8 x.op)).set 2 (.int .i64 (-1))).set 3 (.int .i64 r)).set 4 (.int .i64 s)).set 5 (.slice E1 x.args.length d8)).set 6 (.slice E2 x.Nh.length e0)).set 7 (.int .i64 x.num)).set 8 (.int .i64 x.Nj));have c0:=Y.cell 0;have c1:=Y.cell 1;have c2:=Y.cell 2;have c3:=Y.cell 3;have c4:=Y.cell 4;have c5:=Y.cell 5;have c6:=Y.cell 6;have c7:=Y.cell 7;have c8:=Y.cell 8;have d7:=((((((((((aa.refl (fun b=>b≠w.heap.size+1+1∧b≠w.heap.size+1+1+1) wc).setCell (p:=⟨w.heap.size+1+1,0,none⟩) (.inl fun h=>h.1 rfl) (.int .u8 x.kind)).setCell (p:=⟨w.heap.size+1+1,1,none⟩) (.inl fun h=>h.1 rfl) (.int .u8 x.op)).setCell (p:=⟨w.heap.size+1+1,2,none⟩) (.inl fun h=>h.1 rfl) (.int .i64 (-1))).setCell (p:=⟨w.heap.size+1+1,3,none⟩) (.inl fun h=>h.1 rfl) (.int .i64 r)).setCell (p:=⟨w.heap.size+1+1,4,none⟩) (.inl fun h=>h.1 rfl) (.int .i64 s)).setCell (p:=⟨w.heap.size+1+1,5,none⟩) (.inl fun h=>h.1 rfl) (.slice E1 x.args.length d8)).setCell (p:=⟨w.heap.size+1+1,6,none⟩) (.inl fun h=>h.1 rfl) (.slice E2 x.Nh.length e0)).setCell (p:=⟨w.heap.size+1+1,7,none⟩) (.inl fun h=>h.1 rfl) (.int .i64 x.num)).setCell (p:=⟨w.heap.size+1+1,8,none⟩) (.inl fun h=>h.1 rfl) (.int .i64 x.Nj));simp only[ga,gc] at y0 o0 c0 y1 o1 c1 y2 o2 c2 y3 o3 c3 y4 o4 c4 y5 o5 c5 y6 o6 c6 y7 o7 c7 y8 o8 c8;have h1:=ah.keep (S:=fun b=>w.heap.size≤b∧b<wo.heap.size∧b≠w.heap.size+1+1∧b≠w.heap.size+1+1+1) ((HQ.1.mono fun b hb=>hb.2.2.2).trans (a8.all.trans (d7.mono fun b hb=>⟨hb.2.2.1,hb.2.2.2⟩))) (ah.wide (fun b (hb:W4.heap.size≤b∧b<wo.heap.size)=>by omega) HO.2.2.1);have h2:=ah.keep (S:=fun b=>w.heap.size≤b∧b<wr.heap.size∧b≠w.heap.size+1+1∧b≠w.heap.size+1+1+1) (a8.all.trans (d7.mono fun b hb=>⟨hb.2.2.1,hb.2.2.2⟩)) (ah.wide (fun b (hb:wo.heap.size≤b∧b<wr.heap.size)=>by omega) HQ.2.2.1);have e4:=d7.size;have e5:=a8.size;have HZ:=J5 h1 h2 (am ((HQ.2.2.2.2.trans a8).all.trans (d7.mono fun b hb=>by constructor<;>(show b≠_)<;>omega))) e4 e5;have HA:=oH e1;clear h1 h2 d7 Y I j4 b6 a8 e4 e5 e1;skip;go_wp2_with fail;refine bodyPost_ret (v:=.agg #[.int .u8 x.kind,.int .u8 x.op,.int .i64 (-1),.int .i64 r,.int .i64 s,.slice E1 x.args.length d8,.slice E2 x.Nh.length e0,.int .i64 x.num,.int .i64 x.Nj]) (by simp[results,Tryz.f99,go_sem,c0,c1,c2,c3,c4,c5,c6,c7,c8]) rfl (.inl ⟨⟨H4.2.2.2.1.1,H4.2.2.2.1.2,HO.2.2.2,HQ.2.2.2.1,fun e7 g hg=>HA.out e7 g (by rw[←H4.2.2.2.2.1];exact hg)⟩,HZ.2.2.1,(-1),r,s,E1,_,d8,E2,_,e0,rfl,Ko ?_ H4.2.2.2.2.1 H4.2.2.2.2.2 ?_ ?_ HM.2.2.2.2.2.1 HM.2.2.2.2.2.2.1 ?_⟩);·rw[ap HD.out]
  ·exact ah.wide (fun b hb=>by have:=HZ.2.2.2.1;have:=HZ.2.2.2.2;omega) HZ.1
  ·exact ah.wide (fun b hb=>by have:=HZ.2.2.2.1;have:=HZ.2.2.2.2;omega) HZ.2.1
  unfold aV;omega
 rw[cI e9] at nr;have n9:=(HM.2.2.1.keep (HQ.2.2.2.2.trans a8) trivial).get (s:=x.dst) (by have:=HM.2.2.2.2.2.1.dst;unfold maxLen;omega);have j6:0≤aO (bh f) x.dst:=cm.2 (HM.2.2.2.2.2.2.2.resolve_left e9);have h7:=lR (bh f) x.dst;rw[Int.max_eq_left j6] at n9;obtain⟨n,hn⟩:=eR (aO (bh f) x.dst);rw[hn] at n9 h7;have HD:=J2 e9 hn;clear e9 hn j6;have I:=j4.far (p:=⟨w.heap.size+1+1+1,2,none⟩) (show w.heap.size+1+1≠w.heap.size+1+1+1 by omega) (.int .i64 n);have yz:=b6.set 2 (.int .i64 n);have y0:=yz.cell 0;have y1:=yz.cell 1;have y2:=yz.cell 2;have y3:=yz.cell 3;have y4:=yz.cell 4;have y5:=yz.cell 5;have y6:=yz.cell 6;have y7:=yz.cell 7;have y8:=yz.cell 8;have o0:=I.cell 0;have o1:=I.cell 1;have o2:=I.cell 2;have o3:=I.cell 3;have o4:=I.cell 4;have o5:=I.cell 5;have o6:=I.cell 6;have o7:=I.cell 7;have o8:=I.cell 8;have k0:=I.free 0;have k1:=I.free 1;have k2:=I.free 2;have k3:=I.free 3;have k4:=I.free 4;have k5:=I.free 5;have k6:=I.free 6;have k7:=I.free 7;have k8:=I.free 8;have Y:=(((((((((I.set 0 (.int .u8 x.kind)).set 1 (.int .u8 x.op)).set 2 (.int .i64 n)).set 3 (.int .i64 r)).set 4 (.int .i64 s)).set 5 (.slice E1 x.args.length d8)).set 6 (.slice E2 x.Nh.length e0)).set 7 (.int .i64 x.num)).set 8 (.int .i64 x.Nj));have c0:=Y.cell 0;have c1:=Y.cell 1;have c2:=Y.cell 2;have c3:=Y.cell 3;have c4:=Y.cell 4;have c5:=Y.cell 5;have c6:=Y.cell 6;have c7:=Y.cell 7;have c8:=Y.cell 8;have d7:=(((((((((((aa.refl (fun b=>b≠w.heap.size+1+1∧b≠w.heap.size+1+1+1) wc).setCell (p:=⟨w.heap.size+1+1+1,2,none⟩) (.inl fun h=>h.2 rfl) (.int .i64 n)).setCell (p:=⟨w.heap.size+1+1,0,none⟩) (.inl fun h=>h.1 rfl) (.int .u8 x.kind)).setCell (p:=⟨w.heap.size+1+1,1,none⟩) (.inl fun h=>h.1 rfl) (.int .u8 x.op)).setCell (p:=⟨w.heap.size+1+1,2,none⟩) (.inl fun h=>h.1 rfl) (.int .i64 n)).setCell (p:=⟨w.heap.size+1+1,3,none⟩) (.inl fun h=>h.1 rfl) (.int .i64 r)).setCell (p:=⟨w.heap.size+1+1,4,none⟩) (.inl fun h=>h.1 rfl) (.int .i64 s)).setCell (p:=⟨w.heap.size+1+1,5,none⟩) (.inl fun h=>h.1 rfl) (.slice E1 x.args.length d8)).setCell (p:=⟨w.heap.size+1+1,6,none⟩) (.inl fun h=>h.1 rfl) (.slice E2 x.Nh.length e0)).setCell (p:=⟨w.heap.size+1+1,7,none⟩) (.inl fun h=>h.1 rfl) (.int .i64 x.num)).setCell (p:=⟨w.heap.size+1+1,8,none⟩) (.inl fun h=>h.1 rfl) (.int .i64 x.Nj));simp only[ga,gc] at y0 o0 c0 y1 o1 c1 y2 o2 c2 y3 o3 c3 y4 o4 c4 y5 o5 c5 y6 o6 c6 y7 o7 c7 y8 o8 c8;have h1:=ah.keep (S:=fun b=>w.heap.size≤b∧b<wo.heap.size∧b≠w.heap.size+1+1∧b≠w.heap.size+1+1+1) ((HQ.1.mono fun b hb=>hb.2.2.2).trans (a8.all.trans (d7.mono fun b hb=>⟨hb.2.2.1,hb.2.2.2⟩))) (ah.wide (fun b (hb:W4.heap.size≤b∧b<wo.heap.size)=>by omega) HO.2.2.1);have h2:=ah.keep (S:=fun b=>w.heap.size≤b∧b<wr.heap.size∧b≠w.heap.size+1+1∧b≠w.heap.size+1+1+1) (a8.all.trans (d7.mono fun b hb=>⟨hb.2.2.1,hb.2.2.2⟩)) (ah.wide (fun b (hb:wo.heap.size≤b∧b<wr.heap.size)=>by omega) HQ.2.2.1);have e4:=d7.size;have e5:=a8.size;have HZ:=J5 h1 h2 (am ((HQ.2.2.2.2.trans a8).all.trans (d7.mono fun b hb=>by constructor<;>(show b≠_)<;>omega))) e4 e5;have HA:=oH e1;clear h1 h2 d7 Y I j4 b6 a8 e4 e5 e1;clear yz;go_wp2_with fail;refine bodyPost_ret (v:=.agg #[.int .u8 x.kind,.int .u8 x.op,.int .i64 n,.int .i64 r,.int .i64 s,.slice E1 x.args.length d8,.slice E2 x.Nh.length e0,.int .i64 x.num,.int .i64 x.Nj]) (by simp[results,Tryz.f99,go_sem,c0,c1,c2,c3,c4,c5,c6,c7,c8]) rfl (.inl ⟨⟨H4.2.2.2.1.1,H4.2.2.2.1.2,HO.2.2.2,HQ.2.2.2.1,fun e7 g hg=>HA.out e7 g (by rw[←H4.2.2.2.2.1];exact hg)⟩,HZ.2.2.1,n,r,s,E1,_,d8,E2,_,e0,rfl,Ko ?_ H4.2.2.2.2.1 H4.2.2.2.2.2 ?_ ?_ HM.2.2.2.2.2.1 HM.2.2.2.2.2.2.1 ?_⟩);·rw[ae HD.1,HD.2]
 ·exact ah.wide (fun b hb=>by have:=HZ.2.2.2.1;have:=HZ.2.2.2.2;omega) HZ.1
 ·exact ah.wide (fun b hb=>by have:=HZ.2.2.2.1;have:=HZ.2.2.2.2;omega) HZ.2.1
 unfold aV;omega
section
theorem dR.made {α:Type}{n:Nat}{e:TypeId}{E:cO α}{B:Nat}(w:World)(cur:Array Value)(cap:Nat)(j:B≤w.heap.size)(hm:cap≤maxLen)(o:cur.size=cap*n):
 dR n e E B (w.alloc (.cells cur e)) (.slice (some ⟨w.heap.size,0,none⟩) 0 cap) ([]:List α):=
 ⟨[],fun _=>False,World.ownsRow_made w cur cap j hm o,rfl,(fun _ h=>by cases h),fun _ h=>h.elim,fun i x h=>by simp at h⟩
def eT {α:Type}(E:bT α):cO α:=fun S w cs x=>∃v,cs=[v]∧E S w v x
theorem aS {α:Type}{E:bT α}(g:bT.Good E):cO.Good (eT E):=by
 constructor
 ·rintro S w w' cs x k ⟨v,e,h⟩
  exact⟨v,e,g.keep k h⟩
 rintro S T w cs x k ⟨v,e,h⟩;exact⟨v,e,g.wide k h⟩
theorem jT {α:Type}{bw:Nat}{E:bT α}{S:Nat→Prop}{w:World}{v:Value}{l:List α}(h:rx 1 bw (eT E) S w v l):Sl bw E S w v l:=by obtain⟨a,cap,rfl,j,o,C,h⟩:=h;refine⟨a,cap,rfl,j,o,C,fun i x I=>?_⟩;obtain⟨b,off,cs,e,J,_,R,u,rfl,Y⟩:=h i x I;exact⟨b,off,u,e,J,by have:=R 0 u rfl;rwa [Nat.mul_one,dj] at this,Y⟩
theorem qz {l:List Nat}{x:Nat}(h:x∈l):x≤l.sum:=by
 induction l with
 |nil=>cases h
 |cons a l j=>
  rw[List.sum_cons];rcases fX.1 h with rfl|h;·omega
  have:=j h;omega
section
variable {p:aH} {q:dN} {f:cD} {b:eS} {x:cX}
theorem yr (j:fV q)(o:f∈q.Nf):gl f≤4096:=fR (qz (dr.2 ⟨f,o,rfl⟩)) j.2.2.2.2
theorem Fm (j:fV q)(o:f∈q.Nf)(C:b∈f.Ng):b.code.length≤4096:=fR (qz (dr.2 ⟨b,C,rfl⟩)) (yr j o)
theorem xu (j:fV q)(o:f∈q.Nf):(bh f).length≤5000:=by
 have C:=yr j o;have I:=(j.2.2.2.1 f o).2.2.1;have J:(sx f).length≤gl f:=by unfold sx gl;refine fR (List.length_filter_le _ _) ?_;rw[List.length_flatMap];simp
 unfold bh;rw[iQ];omega
theorem pr (j:fV q)(o:f∈q.Nf):(cn f).length≤64∧f.Ng.length≤64:=by have:=(j.2.2.2.1 f o).2.2.2.2.1;unfold cn;rw[ce];exact⟨this,this⟩
theorem KU (j:b∈f.Ng)(o:x∈b.code):x.dst=gR∨x.dst∈bh f:=by
 by_cases h:x.dst=gR;·exact .inl h
 right;refine eD.2 (.inr (List.mem_filter.2 ⟨List.mem_flatMap.2 ⟨b,j,dr.2 ⟨x,o,rfl⟩⟩,?_⟩));simpa using h
theorem Ir (j:fV q)(o:f∈q.Nf)(C:b∈f.Ng)(I:x∈b.code):x.args.length≤64∧x.Nh.length≤64:=by
 obtain⟨_,_,_,_,_,J,R⟩:=((j.2.2.2.1 f o).2.2.2.2.2 b C).2 x I;by_cases h:x.kind=3
 ·obtain⟨_,_,_,e,Y,h6⟩:=J h
  omega
 obtain⟨s,_,e,_,Y,_⟩:=R h;rw[e];exact⟨by omega,by simp⟩
theorem mf {α:Type}(f:α→Bool)(l:List α)(h:l.length≤1048576):aV (gJ f l):=by have:=kT f l;unfold aV;omega
theorem GP (j:dD p)(o:fV q)(C:f∈q.Nf):aV (dv p q f x)∧aV (dy f x):=by
 have R:=j.1;have Y:=j.2.1.1.2.1;have h3:=j.2.2.2.2.2.1.1;have h4:=j.2.2.2.2.2.2.1;have h5:=o.1;have h6:=o.2.1;have h7:=(pr o C).1;have I:(dz q).length≤1048576:=by unfold dz;rw[ce];omega
 have J:(fh q).length≤1048576:=by unfold fh;rw[ce];omega
 have z:aV 0:=by unfold aV;omega
 constructor;·(
 unfold dv;split;·exact mf _ _ I
 split;·exact mf _ _ J
 split;·exact mf _ _ (by omega)
 split;·exact mf _ _ (by omega)
 split;·exact mf _ _ (by omega)
 split;·exact mf _ _ (by omega)
 exact z)
 unfold dy;split;·exact mf _ _ (by omega)
 exact z
end
def we:cO cD:=fun S w cs f=>∃j o,cs=[.map (some j),.map (some o)]∧S j∧S o∧wd w j o f
theorem nN:cO.Good we:=by
 constructor
 ·rintro S w w' cs x k ⟨C,I,e,j,o,J,R⟩
  exact⟨C,I,e,j,o,J.keep k j,R.keep k o⟩
 rintro S T w cs x k ⟨C,I,e,j,o,J⟩;exact⟨C,I,e,k _ j,k _ o,J⟩
theorem vq:(prog.info? 131).map (fun i=>(i.zero,i.size,i.bytes))=some (some (.agg #[.map none,.map none]),2,16):=by kernel_rfl
theorem Dp (n:Nat)(I:n≤1048576)(w:World):(Instr.makeSlice 129 (.int .i64 0) (.int .i64 n)).run prog w=.ok (.slice (some ⟨w.heap.size,0,none⟩) 0 n) (w.alloc (.cells (madeCells #[.map none,.map none] (n*2)) 131)):=by obtain⟨i,hi,j,o,C⟩:=info_parts vq;rw[run_make (P:=prog) w 129 131 i _ underlying129 hi j .i64 .i64 0 n (by omega) (by omega) (by rw[C];omega) (by omega),o,dP];rfl
end
theorem kt:(prog.info? 3).map (fun i=>(i.zero,i.size,i.bytes))=some (some (.int .i64 0),1,8):=by kernel_rfl
theorem vm:(prog.info? 54).map (fun i=>(i.zero,i.size,i.bytes))=some (some (.slice none 0 0),1,24):=by kernel_rfl
def EN (b:aw)(w:World)(e:Ending)(w':World):Prop:=∃u,e=.returned (.tuple #[u,.bool true])∧Rows (fun g=>w.heap.size≤g∧g<w'.heap.size) w' u (bM b)∧aa All w w'
section
open Classical in
noncomputable def mH (b:aw)(i:Nat)(x:bz):Int:=if lZ b x i then(if∀(m:Nat) v f,x.args[m]? =some v→x.Nh[m]? =some f→jl b v f.toNat then 0 else 19) else 18
open Classical in
theorem Ck {b:aw}{i k:Nat}{x:bz}(h:x.kind=3):uo b i k x=mH b i x:=by unfold uo mH;rw[ap h]
theorem wZ {b:aw}{i:Nat}{x:bz}(h:¬lZ b x i):mH b i x=18:=by unfold mH;rw[ae h]
theorem Cl {b:aw}{i:Nat}{x:bz}(h:lZ b x i){m:Nat}{v f:Int}(j:x.args[m]? =some v)(o:x.Nh[m]? =some f)(C:¬jl b v f.toNat):mH b i x=19:=by unfold mH;rw[ap h,ae fun h'=>C (h' m v f j o)]
theorem GC {b:aw}{i:Nat}{x:bz}(h:lZ b x i)(j:∀(m:Nat) v f,x.args[m]? =some v→x.Nh[m]? =some f→jl b v f.toNat):mH b i x=0:=by unfold mH;rw[ap h,ap j]
end
section
theorem yn {b:aw}{k:Nat}(h:cV (kO (bM b)) b.Ng.length=k):oh b=(fQ b k,16):=by unfold oh;rw[h,ap (by omega),dP]
theorem ve {b:aw}{k:Nat}(j:cV (kO (bM b)) b.Ng.length= -1)(h:cV (iN (bM b)) b.Ng.length=k):oh b=(fQ b k,17):=by unfold oh;rw[j,ae (by decide),h,ap (by omega),dP]
open Classical in
theorem yp {b:aw}(j:cV (kO (bM b)) b.Ng.length= -1)(o:cV (iN (bM b)) b.Ng.length= -1){i:Nat}(h:dH (bM b) i 0):oh b=(fQ b 0,18):=by unfold oh;rw[j,ae (by decide),o,ae (by decide),ap ⟨i,h⟩]
open Classical in
theorem BU {b:aw}(j:cV (kO (bM b)) b.Ng.length= -1)(o:cV (iN (bM b)) b.Ng.length= -1)(h:∀i,¬dH (bM b) i 0):oh b=ls (uo b) b.Ng:=by unfold oh;rw[j,ae (by decide),o,ae (by decide),ae fun⟨i,hi⟩=>h i hi]
open Classical in
theorem Gt {b:aw}{i k:Nat}{x:bz}(h:x.kind≠3){v:Int}(j:v∈x.args)(o:¬iP b v i k):uo b i k x=19:=by unfold uo;rw[ae h,ae fun h'=>o (h' v j)]
open Classical in
theorem Kq {b:aw}{i k:Nat}{x:bz}(h:x.kind≠3)(j:∀v∈x.args,iP b v i k):uo b i k x=0:=by unfold uo;rw[ae h,ap j]
def qk (b:aw)(w:World)(e:Ending)(w':World):Prop:=e=.returned (.tuple #[.int .i64 (oh b).1,.int .i64 (oh b).2])∧aa All w w'
theorem qk.of {b:aw}{w w':World}{x y:Int}(h:oh b=(x,y))(j:aa All w w'):qk b w (.returned (.tuple #[.int .i64 x,.int .i64 y])) w':=by refine⟨?_,j⟩;rw[h]
theorem yQ {b:aw}{k:Nat}{l:List bz}{x:bz}(j:b.Ng[k]? =some l)(o:l[0]? =some x):fQ b k=x.Nj:=by
 unfold fQ;have e:b.Ng.getD k []=l:=by rw[iG,j];rfl
 rw[e,iG,o];rfl
end
end Go.Proofs.YtgdlhckhpolnnaaGreatDoor
