/- Part 11 of the proof (its last part says what is proved). No condition. -/
import Derived.Test.YtccbbkopmlnkpaaGreatDoorK9
namespace Go.Proofs.YtccbbkopmlnkpaaGreatDoor
set_option maxRecDepth 100000
set_option maxHeartbeats 8000000
open Go.RowKit Go.Proofs.Tryz
theorem lR (l:List ByteArray)(s:ByteArray): -1≤aO l s∧aO l s<(l.length:Int)+1:=kT _ _
theorem Ca {S:Nat→Prop}{w:World}{v:Value}{l:List Int}(h:aK S w v l):aK (fun b=>S b∧b<w.heap.size) w v l:=by obtain⟨a,cap,o,C,I,J,h⟩:=h;refine⟨a,cap,o,C,I,J,fun i x R=>?_⟩;obtain⟨b,off,c,e,Y,j,he⟩:=h i x R;exact⟨b,off,c,e,⟨Y,jy w _ j⟩,j,he⟩
theorem iw {n:Int}(h:aV n):(Lit.int .i64 n).wf=true:=by unfold aV at h;simp[Lit.wf,IntKind.min,IntKind.max,IntKind.signed,IntKind.bits];omega
theorem Ko {p:aH}{q:dN}{f:cD}{x:cX}{d r s:Int}{S:Nat→Prop}{w:World}{o a2:Option Addr}{C I J R:Nat}(hd:(if x.dst=gR then-1 else aO (bh f) x.dst)=d)(hr:dv p q f x=r)(hs:dy f x=s)(h1:aK S w (.slice o C I) (x.args.map (aO (bh f))))(h2:aK S w (.slice a2 J R) (x.Nh.map (aO (cn f))))(j:uB x)(Y:aV (dv p q f x)∧aV (dy f x))(hD:aV d):
 KD S w [.int .u8 x.kind,.int .u8 x.op,.int .i64 d,.int .i64 r,.int .i64 s,.slice o C I,.slice a2 J R,.int .i64 x.num,.int .i64 x.Nj] (pg p q f x):=by
 subst hd hr hs;exact⟨_,_,rfl,h1,h2,j.kind,j.op,hD,Y.1,Y.2,j.num,j.Nj⟩
def KC (p:aH)(q:dN)(f:cD)(x:cX)(w:World)(e:Ending)(j:World):Prop:=
 ql (mO p q f x) (fun e j=>aa All w j∧∃(d r s:Int) (o:Option Addr) (C I:Nat) (a2:Option Addr) (J R:Nat),e=.returned (.agg #[.int .u8 x.kind,.int .u8 x.op,.int .i64 d,.int .i64 r,.int .i64 s,.slice o C I,.slice a2 J R,.int .i64 x.num,.int .i64 x.Nj])∧
  KD (fun b=>w.heap.size≤b∧b<j.heap.size) j [.int .u8 x.kind,.int .u8 x.op,.int .i64 d,.int .i64 r,.int .i64 s,.slice o C I,.slice a2 J R,.int .i64 x.num,.int .i64 x.Nj] (pg p q f x)) w e j
theorem Ls (S:Nat→Prop)(br:Nat)(p:aH)(q:dN)(f:cD)(x:cX)(b1 b2:Nat)(xa xf:Value)(w:World)(hr:rV S w br p q)(j9:cK w b1 (cn f))(k9:cK w b2 (bh f))(l0:gB S w xa x.args)(l1:gB S w xf x.Nh)(hx:uB x)
 (hI:aV (dv p q f x)∧aV (dy f x)) (hd:x.dst=gR∨x.dst∈bh f) (hz:x.args.length≤1048576∧x.Nh.length≤1048576) (hv:(bh f).length≤1000000000) (hb:(cn f).length≤1000000000):
 Calls prog 141 #[.pointer (some ⟨br,0,none⟩),.agg #[.map (some b1),.map (some b2)],.agg #[.int .u8 x.kind,.int .u8 x.op,.string x.dst,.string x.ref,.string x.Ni,xa,xf,.int .i64 x.num,.int .i64 x.Nj]] w (KC p q f x w):=by
 obtain⟨i3,I3⟩:=iH yw;obtain⟨z1,z2⟩:=hz;have l2:=ax.la l0;have l3:=ax.la l1;obtain⟨ua,uc,rfl,u1,u2,u3,_⟩:=l0;obtain⟨va,vc,rfl,v1,v2,v3,_⟩:=l1;unfold maxLen at u2 v2;obtain⟨W2,e2⟩:=eQ ((((w.alloc (.cells #[.map (some b1),.map (some b2)] 167)).alloc (.cells #[.int .u8 x.kind,.int .u8 x.op,.string x.dst,.string x.ref,.string x.Ni,.slice ua x.args.length uc,.slice va x.Nh.length vc,.int .i64 x.num,.int .i64 x.Nj] 185)).alloc (.cells #[.int .u8 0,.int .u8 0,.int .i64 0,.int .i64 0,.int .i64 0,.slice none 0 0,.slice none 0 0,.int .i64 0,.int .i64 0] 40)).alloc (.cells #[.int .u8 x.kind,.int .u8 x.op,.int .i64 (-1),.int .i64 0,.int .i64 0,.slice none 0 0,.slice none 0 0,.int .i64 x.num,.int .i64 x.Nj] 40));have j4:=aD4 e2;have i1:=aC4 e2;have bS:=aA3 e2;have bX:=aB2 e2 aE1;have bO:=aB1 e2 aE2;have bY:=aB0 e2 aE3;have X0:∀i,W2.cell? ⟨w.heap.size+1,i,none⟩=(#[.int .u8 x.kind,.int .u8 x.op,.string x.dst,.string x.ref,.string x.Ni,.slice ua x.args.length uc,.slice va x.Nh.length vc,.int .i64 x.num,.int .i64 x.Nj]:Array Value)[i]?:=fun i=>bX.cell i;have g0:=bX.cl 0;have g1:=bX.cl 1;have g2:=bX.cl 2;have g3:=bX.cl 3;have g4:=bX.cl 4;have g5:=bX.cl 5;have g6:=bX.cl 6;have g7:=bX.cl 7;have g8:=bX.cl 8;have s0:=bS.cl 0;have s1:=bS.cl 1;have HW:=J7 e2 j4 i1 bS bX bO bY;have HM:=J8 hr j9 k9 l2 l3 hx hI hd;clear e2 j4 i1 bS bX bO bY X0 hr j9 k9 l2 l3 hx hI hd;go_enter func141,ntmps141;go_upto_region 2 with fail;rw[←HW.1];go_wp2_with fail;refine(GO S br p q f x b1 b2 _ _ W2 (HM.1.keep HW.2.2.1) (HM.2.1.keep HW.2.2.1 trivial) (HM.2.2.2.1 _ HW.2.2.1) (HM.2.2.2.2.1 _ HW.2.2.1) HM.2.2.2.2.2.1).mono ?_;rintro e w3 (⟨h6,rfl,h4⟩|⟨h6,⟨an,nn,hn,ha,hi,rfl⟩,h4⟩)
 case inr=>have HS:=J5 h6 hn ha hi h4;clear h6 hn ha hi h4;go_wp2_with fail;exact⟨rfl,.inr ⟨fun h=>HS.1 ⟨h.1,h.2.1⟩,⟨an,nn,HS.2.1,HS.2.2.1,HS.2.2.2.1,rfl⟩,HW.2.2.1.trans HS.2.2.2.2⟩⟩
 clear g0 g1 g2 g3 g4 g5 g6 g7 g8 s0 s1;obtain⟨r,hr⟩:=eR (dv p q f x);obtain⟨s,hs⟩:=eR (dy f x);rw[hr,hs];have h5:=HW.2.2.2.2.2.2.kept h4 trivial;have y3:=h5.cl 3;have y4:=h5.cl 4;have f3:=h5.free 3;have f4:=h5.free 4;obtain⟨W4,i6⟩:=eQ ((w3.setCell ⟨w.heap.size+1+1+1,3,none⟩ (.int .i64 r)).setCell ⟨w.heap.size+1+1+1,4,none⟩ (.int .i64 s));have i7:aa (fun b=>b≠w.heap.size+1+1+1) W2 W4:=by rw[i6];exact(h4.all.setCell (.inl fun h=>h rfl) _).setCell (.inl fun h=>h rfl) _
 have b4:al W4 (w.heap.size+1+1+1) 40 #[.int .u8 x.kind,.int .u8 x.op,.int .i64 (-1),.int .i64 r,.int .i64 s,.slice none 0 0,.slice none 0 0,.int .i64 x.num,.int .i64 x.Nj]:=by rw[i6];simpa using(h5.set 3 (.int .i64 r)).set 4 (.int .i64 s)
 have p8:=i7.size;have j4:=eE HW.2.1.symm;have l4:=HW.2.2.2.2.1.kept i7 (by show _≠_;omega);have x5:=l4.cl 5;have H4:=J6 i6 i7 b4 h6 hr hs;clear i6 i7 b4 h6 hr hs l4 h5 h4;go_upto_region 3 with fail;rw[←H4.1];clear y3 y4 f3 f4;go_wp2_with fail;have l5:=oH (show aa All w W4 from am (HW.2.2.1.all.trans (H4.2.1.mono fun b hb=>by show b≠_;omega)));have h0:=oH H4.2.1;go_loopg [33] x.args.length (fun g t wr=>∃(j:Nat) (v5:Value),j≤x.args.length∧g=x.args.length-j∧t=.int .i64 j∧aa (fun b=>b≠w.heap.size+1+1+1) W4 wr∧al wr (w.heap.size+1+1+1) 40 #[.int .u8 x.kind,.int .u8 x.op,.int .i64 (-1),.int .i64 r,.int .i64 s,v5,.slice none 0 0,.int .i64 x.num,.int .i64 x.Nj]∧wr.ownsRow W4.heap.size 3 1 v5 j (aI ((x.args.map (aO (bh f))).take j))∧∀(i:Nat) a,i<j→x.args[i]? =some a→a∈bh f);·exact⟨0,_,by omega,by omega,rfl,kR,H4.2.2.1,⟨rfl,.inl ⟨rfl,rfl⟩⟩,fun i a h=>by omega⟩
 obtain⟨j,v5,hj,rfl,rfl,R,a1,J,b0⟩:=hrel;have l6:=R.size;have b7:aa All w wr:=am ((l5.out).all.trans (R.mono fun b hb=>by show b≠_;omega));obtain⟨E1,d8,rfl⟩:=aU J;by_cases j5:j<x.args.length;·(
 obtain⟨a,ha⟩:=eG j5;obtain⟨bb,o,cc,rfl,n7,n8,rfl⟩:=bn (HM.2.2.2.1 wr b7) ha;have j6:a.size≤140737488355328:=HM.2.2.2.2.2.1.args a (mG ha);have hq:∀wn,aa All wr wn→wn.cell? ⟨w.heap.size+1+1+1,5,none⟩=some (.slice E1 j d8)∧wn.cell? ⟨w.heap.size,1,none⟩=some (.map (some b2))∧wn.cell? ⟨w.heap.size+1,8,none⟩=some (.int .i64 x.Nj):=fun wn hk=>
  ⟨(a1.kept hk trivial).cell 5,(((HW.2.2.2.1.kept h0.out (by show _≠_;omega)).kept R (by show _≠_;omega)).kept hk trivial).cell 1,(((HW.2.2.2.2.1.kept h0.out (by show _≠_;omega)).kept R (by show _≠_;omega)).kept hk trivial).cell 8⟩
 have HL:=oH (fun wn (hk:aa All wr wn)=>lQ b2 (bh f) a x.Nj wn (HM.2.2.1.keep (b7.trans hk) trivial) j6 HM.2.2.2.2.2.1.Nj);have HR:=J7 R a1 J b0 hq ha b7;have h7:=lR (bh f) a;obtain⟨n,hn⟩:=eR (aO (bh f) a);rw[hn] at HL h7;have e6:=oH hn;clear R a1 J b0 hq ha b7 hn;go_wp2_with fail;refine R3 9 wr [45] (fun _ v wn=>∃g,v=.slice (some ⟨g,0,none⟩) 1 1∧wr.heap.size≤g∧al wn g 3 #[.int .i64 n]) (fun i=>if i=7 then some (·=.int .i64 n) else if i=8 then some (fun v=>∃g,v=.slice (some ⟨g,0,none⟩) 1 1) else none) (fun i=>i==7&&!decide (0≤n)) (XS wr (mO p q f x)) (fun _ _ _ h hd=>⟨hd,h.end_ HR.2.2.2.2.2.2⟩) ?_;repeat first
 |refine O0 ?_
 |refine O4 HR.2.2.2.2.1 ?_
 refine O9 (decide (0≤n)) HR.2.2.2.2.1 (fun wn hk=>?_) ?_
 ·refine ql.reg (HL.out wn hk) (fun h=>?_) hk (fun e w' h=>⟨h.1,h.2▸kR⟩) ?_
  ·rw[←e6.out];exact cm.2 (h.2.2.1 a (mG HR.2.2.2.2.2.1))
  rintro w' k t _ v ⟨g,e,h1,h2⟩;exact⟨g,e,h1,h2.kept k trivial⟩
 refine OB fun g wt hd b3 n9 h8=>?_;have HF:=oH (show 0≤n by simpa using hd);have a6:=be HR.2.2.1 b3 (fun _ _=>trivial);have b8:=HR.2.1.kept b3 trivial;have d9:=h8.cl 0;have l7:=b3.size;have HT:=J3 b3 b8 d9;clear b3 b8 h8 hd;go_wp2_with (
  at_builtin;go_loud (
  refine aR _ rfl (.tmp 38) (.tmp 45) 38 rfl W4.heap.size 3 i3 _ 1 8 underlying38 I3.1 I3.2.1 I3.2.2.1 I3.2.2.2 rfl (by decide) _ _ _ rfl a6 (some ⟨g,0,none⟩) 1 1 [.int .i64 n] rfl rfl ?_ ?_ (by unfold maxLen;omega) (by omega) (by omega) ?_;·(
 intro _;exact⟨_,_,rfl,fun j u hu=>by
  rcases j with _|j;·rw[cN,HT.2.2];exact hu
  simp at hu⟩)
  ·intro u hu
   rw[cx.1 hu];rfl
  intro v2 w4 a7 e8 e3;obtain⟨C2,h9,rfl⟩:=aU a7;have b5:=HT.2.1.grown e8 (fun e=>by have:=(aD a6 e.symm).1;omega);have y5:=b5.cl 5;have f5:=b5.free 5;have H2:=J4 b5 a7 e8 e3;clear b5 a7 e8 e3))
 go_roundg (x.args.length-(j+1));·(
 refine⟨j+1,.slice C2 (j+1) h9,by omega,rfl,by go_num,(((HR.1.trans HT.1.all).grown H2.2.2.1 fun b hb=>.inr (aD a6 hb).1).setCell (.inl fun h=>h rfl) _),?_,?_,?_⟩
 ·have:=H2.1.set 5 (.slice C2 (j+1) h9)
  simpa using this
 ·have e:aI ((x.args.map (aO (bh f))).take (j+1))=aI ((x.args.map (aO (bh f))).take j)++[.int .i64 n]:=by rw[cU,cL,HR.2.2.2.2.2.1,←e6.out];simp[aI]
  rw[e];exact be H2.2.1 ((aa.refl (fun b=>b≠w.heap.size+1+1+1) _).setCell (.inl fun h=>h rfl) _) fun b hb=>by have:=(aD H2.2.1 hb).1;show b≠_;omega
 intro i a' hi b9;by_cases e:i=j;·subst e;rw[HR.2.2.2.2.2.1] at b9;injection b9 with b9;subst b9;exact cm.1 (by rw[e6.out];exact HF.out)
 exact HR.2.2.2.1 i a' (by omega) b9)
 omega)
 obtain rfl:j=x.args.length:=by omega
 rw[oF (by rw[ce];omega)] at J;have c9:∀a∈x.args,a∈bh f:=fun a ha=>by obtain⟨i,hi⟩:=List.getElem?_of_mem ha;exact b0 i a (lS.1 hi).1 hi
 have hint:=Ca (jr (S:=fun b=>W4.heap.size≤b) J (by rw[ce]) (by rw[ce];omega) (fun g hg=>(aD J hg).1) fun y hy=>by obtain⟨a,_,rfl⟩:=dr.1 hy;have:=lR (bh f) a;exact iw (by unfold aV;omega));have l8:=(HW.2.2.2.2.1.kept h0.out (by show _≠_;omega)).kept R (by show _≠_;omega);have x6:=l8.cl 6;obtain⟨wo,rfl⟩:=eQ wr;have HO:=J4 R a1 hint c9;have l9:=oH b7;have h3:=oH (h0.out.trans R);clear R a1 J b0 c9 hint b7 l8;go_wp2_with fail;go_loopg [52] x.Nh.length (fun g t wr=>∃(j:Nat) (v5:Value),j≤x.Nh.length∧g=x.Nh.length-j∧t=.int .i64 j∧aa (fun b=>b≠w.heap.size+1+1+1) wo wr∧al wr (w.heap.size+1+1+1) 40 #[.int .u8 x.kind,.int .u8 x.op,.int .i64 (-1),.int .i64 r,.int .i64 s,.slice E1 x.args.length d8,v5,.int .i64 x.num,.int .i64 x.Nj]∧wr.ownsRow wo.heap.size 3 1 v5 j (aI ((x.Nh.map (aO (cn f))).take j))∧∀(i:Nat) a,i<j→x.Nh[i]? =some a→a∈cn f);·exact⟨0,_,by omega,by omega,rfl,kR,HO.2.1,⟨rfl,.inl ⟨rfl,rfl⟩⟩,fun i a h=>by omega⟩
 obtain⟨j,v5,hj,rfl,rfl,R,a1,J,b0⟩:=hrel;have l6:=R.size;have b7:aa All w wr:=am ((l9.out).all.trans (R.mono fun b hb=>by show b≠_;omega));obtain⟨E2,e0,rfl⟩:=aU J;by_cases j5:j<x.Nh.length;·(
 obtain⟨a,ha⟩:=eG j5;obtain⟨bb,o,cc,rfl,n7,n8,rfl⟩:=bn (HM.2.2.2.2.1 wr b7) ha;have j6:a.size≤140737488355328:=HM.2.2.2.2.2.1.Nh a (mG ha);have hq:∀wn,aa All wr wn→wn.cell? ⟨w.heap.size+1+1+1,6,none⟩=some (.slice E2 j e0)∧wn.cell? ⟨w.heap.size,0,none⟩=some (.map (some b1))∧wn.cell? ⟨w.heap.size+1,8,none⟩=some (.int .i64 x.Nj):=fun wn hk=>
  ⟨(a1.kept hk trivial).cell 6,(((HW.2.2.2.1.kept h3.out (by show _≠_;omega)).kept R (by show _≠_;omega)).kept hk trivial).cell 0,(((HW.2.2.2.2.1.kept h3.out (by show _≠_;omega)).kept R (by show _≠_;omega)).kept hk trivial).cell 8⟩
 have HL:=oH (fun wn (hk:aa All wr wn)=>lQ b1 (cn f) a x.Nj wn (HM.2.1.keep (b7.trans hk) trivial) j6 HM.2.2.2.2.2.1.Nj);have HR:=J7 R a1 J b0 hq ha b7;have h7:=lR (cn f) a;obtain⟨n,hn⟩:=eR (aO (cn f) a);rw[hn] at HL h7;have e6:=oH hn;clear R a1 J b0 hq ha b7 hn;go_wp2_with fail;refine R3 9 wr [64] (fun _ v wn=>∃g,v=.slice (some ⟨g,0,none⟩) 1 1∧wr.heap.size≤g∧al wn g 3 #[.int .i64 n]) (fun i=>if i=7 then some (·=.int .i64 n) else if i=8 then some (fun v=>∃g,v=.slice (some ⟨g,0,none⟩) 1 1) else none) (fun i=>i==7&&!decide (0≤n)) (XS wr (mO p q f x)) (fun _ _ _ h hd=>⟨hd,h.end_ HR.2.2.2.2.2.2⟩) ?_;repeat first
 |refine O0 ?_
 |refine O4 HR.2.2.2.2.1 ?_
 refine O9 (decide (0≤n)) HR.2.2.2.2.1 (fun wn hk=>?_) ?_
 ·refine ql.reg (HL.out wn hk) (fun h=>?_) hk (fun e w' h=>⟨h.1,h.2▸kR⟩) ?_
  ·rw[←e6.out];exact cm.2 (h.2.2.2.1 a (mG HR.2.2.2.2.2.1))
  rintro w' k t _ v ⟨g,e,h1,h2⟩;exact⟨g,e,h1,h2.kept k trivial⟩
 refine OB fun g wt hd b3 n9 h8=>?_;have HF:=oH (show 0≤n by simpa using hd);have a6:=be HR.2.2.1 b3 (fun _ _=>trivial);have b8:=HR.2.1.kept b3 trivial;have d9:=h8.cl 0;have l7:=b3.size;have HT:=J3 b3 b8 d9;clear b3 b8 h8 hd;go_wp2_with (
  at_builtin;go_loud (
  refine aR _ rfl (.tmp 57) (.tmp 64) 38 rfl wo.heap.size 3 i3 _ 1 8 underlying38 I3.1 I3.2.1 I3.2.2.1 I3.2.2.2 rfl (by decide) _ _ _ rfl a6 (some ⟨g,0,none⟩) 1 1 [.int .i64 n] rfl rfl ?_ ?_ (by unfold maxLen;omega) (by omega) (by omega) ?_;·(
 intro _;exact⟨_,_,rfl,fun j u hu=>by
  rcases j with _|j;·rw[cN,HT.2.2];exact hu
  simp at hu⟩)
  ·intro u hu
   rw[cx.1 hu];rfl
  intro v2 w4 a7 e8 e3;obtain⟨C2,h9,rfl⟩:=aU a7;have b5:=HT.2.1.grown e8 (fun e=>by have:=(aD a6 e.symm).1;omega);have y5:=b5.cl 6;have f5:=b5.free 6;have H2:=J4 b5 a7 e8 e3;clear b5 a7 e8 e3))
 go_roundg (x.Nh.length-(j+1));·(
 refine⟨j+1,.slice C2 (j+1) h9,by omega,rfl,by go_num,(((HR.1.trans HT.1.all).grown H2.2.2.1 fun b hb=>.inr (aD a6 hb).1).setCell (.inl fun h=>h rfl) _),?_,?_,?_⟩
 ·have:=H2.1.set 6 (.slice C2 (j+1) h9)
  simpa using this
 ·have e:aI ((x.Nh.map (aO (cn f))).take (j+1))=aI ((x.Nh.map (aO (cn f))).take j)++[.int .i64 n]:=by rw[cU,cL,HR.2.2.2.2.2.1,←e6.out];simp[aI]
  rw[e];exact be H2.2.1 ((aa.refl (fun b=>b≠w.heap.size+1+1+1) _).setCell (.inl fun h=>h rfl) _) fun b hb=>by have:=(aD H2.2.1 hb).1;show b≠_;omega
 intro i a' hi b9;by_cases e:i=j;·subst e;rw[HR.2.2.2.2.2.1] at b9;injection b9 with b9;subst b9;exact cm.1 (by rw[e6.out];exact HF.out)
 exact HR.2.2.2.1 i a' (by omega) b9)
 omega)
 obtain rfl:j=x.Nh.length:=by omega
 rw[oF (by rw[ce];omega)] at J;have c9:∀a∈x.Nh,a∈cn f:=fun a ha=>by obtain⟨i,hi⟩:=List.getElem?_of_mem ha;exact b0 i a (lS.1 hi).1 hi
 have hint:=Ca (jr (S:=fun b=>wo.heap.size≤b) J (by rw[ce]) (by rw[ce];omega) (fun g hg=>(aD J hg).1) fun y hy=>by obtain⟨a,_,rfl⟩:=dr.1 hy;have:=lR (cn f) a;exact iw (by unfold aV;omega));have HQ:=J5 R a1 hint c9 b7;have j7:=HW.2.2.2.2.1.kept (h3.out.trans R) (by show _≠_;omega);have x0:=j7.cl 0;have HX:=oH j7;have m9:=oH (h3.out.trans R);clear R a1 J b0 c9 hint b7 j7;clear x6;go_upto_if 70 with fail;go_cut [] (fun wx=>aa All wr wx∧(x.kind=7→∀g,q.Nf[r.toNat]? =some g→x.args.length=g.params.length))
 case first=>(
 by_cases e7:x.kind=7;·(
 have t7:=yK x.kind 7 (by omega);have j8:r=aO (fh q) x.ref:=by rw[←H4.2.2.2.2.1];unfold dv;simp[e7]
 have o9:0≤r:=by rw[←H4.2.2.2.2.1];exact H4.2.2.2.1.1
 have p0:r.toNat<q.Nf.length:=by obtain⟨k,hk,i1⟩:=yS (cm.1 (by rw[←j8];exact o9));have:=(lS.1 i1).1;unfold fh at this;rw[ce] at this;rw[j8,hk];simpa using this
 have p9:r<(q.Nf.length:Int):=by omega
 obtain⟨g,hg⟩:=eG p0;obtain⟨q0,vu,vi,vo,pa,pf,ba,q1,R1,R2,⟨q2,q3,j0,p1,R3⟩,R4,R5⟩:=HM.1.keep HQ.2.2.2.2;iterate 2 injection j0 with j0
 simp only[List.cons.injEq,and_true] at j0;obtain⟨rfl,rfl⟩:=j0;obtain⟨fA,fc,rfl,q4,q5,q6,_⟩:=id R3;obtain⟨gb,go,q7,rfl,q8,p7,n0,gp,gv,rfl,p2,p3,_⟩:=aZ R3 hg;obtain⟨p4,p5,rfl,_⟩:=p2;have j2:=n0 1 _ rfl;have n1:∀wn,aa All wr wn→wn.cell? ⟨br,6,none⟩=some (.slice (some ⟨gb,go,none⟩) q.Nf.length fc)∧wn.cell? ⟨gb,go+r.toNat*4+1,none⟩=some (.slice p4 g.params.length p5)∧wn.cell? ⟨w.heap.size+1+1+1,3,none⟩=some (.int .i64 r)∧wn.cell? ⟨w.heap.size+1,5,none⟩=some (.slice ua x.args.length uc)∧wn.cell? ⟨w.heap.size+1,8,none⟩=some (.int .i64 x.Nj):=fun wn hk=>
  ⟨hk.cell trivial (R1.cell 6),hk.cell trivial j2,(HQ.2.1.kept hk trivial).cell 3,(HX.out.kept hk trivial).cell 5,(HX.out.kept hk trivial).cell 8⟩
 have HY:=J3 n1 hg e7;have p6:=oH HM.2.2.2.2.2.1.Nj;clear n1 R1 R2 p1 R3 R4 R5 n0 j2 p3 hg j8 e7;go_upto_region 14 with fail;obtain⟨b,tn⟩:=eR (((x.args.length:Int)==(g.params.length:Int)));have HB:=oH (show b=true↔x.args.length=g.params.length by rw[←tn,cy];omega);refine R2 18 wr (fun i=>if i=17 then some (·=.tuple #[]) else none) (fun i=>i==17&&!b) (XS wr (mO p q f x)) (fun _ _ _ h hd=>⟨hd,h.end_ HQ.2.2.2.2⟩) ?_;repeat first
 |refine O0 ?_
 |refine O4 HY.1 ?_
 refine O9 b (C:=fun _=>True) (fun _ _=>trivial) (fun wn hk=>ZR (n:=13) p6.out (by decide) (by unfold aV;omega) (fun h=>HB.2 (h.2.2.2.2 HY.2.2 g (by rw[H4.2.2.2.2.1];exact HY.2.1))) hk) ?_;refine ZS fun hd wt b3 _=>?_;have HT:=J2 b3 (HB.1 (by simpa using hd));clear b3 hd;simp only[dK];go_wp2_with fail;go_meet;exact⟨HT.1,fun _ g' n2=>by rw[HY.2.1] at n2;cases n2;exact HT.2⟩)
 have t7:=nK x.kind 7 (by omega);have HN:=oH e7;clear e7;go_wp2_with fail;go_meet;exact⟨kR,fun h=>absurd h HN.out⟩)
 obtain⟨a8,e1⟩:=hcut;have b6:=HQ.2.1.kept a8 trivial;have n3:=HX.out.kept a8 trivial;have j1:=(HW.2.2.2.2.2.1.kept m9.out (by show _≠_;omega)).kept a8 trivial;have n4:=(HW.2.2.2.1.kept m9.out (by show _≠_;omega)).kept a8 trivial;have x2:=n3.cl 2;have s1:=n4.cl 1;have fy:=b6.free 2;have yy:=b6.cl 2;have nr:=jY x.dst;clear n3 n4;by_cases e9:x.dst=gR
 ·rw[bL e9] at nr;have HD:=oH e9;clear e9;have I:=j1;have y0:=b6.cell 0;have y1:=b6.cell 1;have y2:=b6.cell 2;have y3:=b6.cell 3;have y4:=b6.cell 4;have y5:=b6.cell 5;have y6:=b6.cell 6;have y7:=b6.cell 7;have y8:=b6.cell 8;have o0:=I.cell 0;have o1:=I.cell 1;have o2:=I.cell 2;have o3:=I.cell 3;have o4:=I.cell 4;have o5:=I.cell 5;have o6:=I.cell 6;have o7:=I.cell 7;have o8:=I.cell 8;have k0:=I.free 0;have k1:=I.free 1;have k2:=I.free 2;have k3:=I.free 3;have k4:=I.free 4;have k5:=I.free 5;have k6:=I.free 6;have k7:=I.free 7;have k8:=I.free 8;have Y:=(((((((((I.set 0 (.int .u8 x.kind)).set 1 (.int .u8 x.op)).set 2 (.int .i64 (-1))).set 3 (.int .i64 r)).set 4 (.int .i64 s)).set 5 (.slice E1 x.args.length d8)).set 6 (.slice E2 x.Nh.length e0)).set 7 (.int .i64 x.num)).set 8 (.int .i64 x.Nj));have c0:=Y.cell 0;have c1:=Y.cell 1;have c2:=Y.cell 2;have c3:=Y.cell 3;have c4:=Y.cell 4;have c5:=Y.cell 5;have c6:=Y.cell 6;have c7:=Y.cell 7;have c8:=Y.cell 8;have d7:=((((((((((aa.refl (fun b=>b≠w.heap.size+1+1∧b≠w.heap.size+1+1+1) wc).setCell (p:=⟨w.heap.size+1+1,0,none⟩) (.inl fun h=>h.1 rfl) (.int .u8 x.kind)).setCell (p:=⟨w.heap.size+1+1,1,none⟩) (.inl fun h=>h.1 rfl) (.int .u8 x.op)).setCell (p:=⟨w.heap.size+1+1,2,none⟩) (.inl fun h=>h.1 rfl) (.int .i64 (-1))).setCell (p:=⟨w.heap.size+1+1,3,none⟩) (.inl fun h=>h.1 rfl) (.int .i64 r)).setCell (p:=⟨w.heap.size+1+1,4,none⟩) (.inl fun h=>h.1 rfl) (.int .i64 s)).setCell (p:=⟨w.heap.size+1+1,5,none⟩) (.inl fun h=>h.1 rfl) (.slice E1 x.args.length d8)).setCell (p:=⟨w.heap.size+1+1,6,none⟩) (.inl fun h=>h.1 rfl) (.slice E2 x.Nh.length e0)).setCell (p:=⟨w.heap.size+1+1,7,none⟩) (.inl fun h=>h.1 rfl) (.int .i64 x.num)).setCell (p:=⟨w.heap.size+1+1,8,none⟩) (.inl fun h=>h.1 rfl) (.int .i64 x.Nj));simp only[ga,gc] at y0 o0 c0 y1 o1 c1 y2 o2 c2 y3 o3 c3 y4 o4 c4 y5 o5 c5 y6 o6 c6 y7 o7 c7 y8 o8 c8;have h1:=ah.keep (S:=fun b=>w.heap.size≤b∧b<wo.heap.size∧b≠w.heap.size+1+1∧b≠w.heap.size+1+1+1) ((HQ.1.mono fun b hb=>hb.2.2.2).trans (a8.all.trans (d7.mono fun b hb=>⟨hb.2.2.1,hb.2.2.2⟩))) (ah.wide (fun b (hb:W4.heap.size≤b∧b<wo.heap.size)=>by omega) HO.2.2.1);have h2:=ah.keep (S:=fun b=>w.heap.size≤b∧b<wr.heap.size∧b≠w.heap.size+1+1∧b≠w.heap.size+1+1+1) (a8.all.trans (d7.mono fun b hb=>⟨hb.2.2.1,hb.2.2.2⟩)) (ah.wide (fun b (hb:wo.heap.size≤b∧b<wr.heap.size)=>by omega) HQ.2.2.1);have e4:=d7.size;have e5:=a8.size;have HZ:=J5 h1 h2 (am ((HQ.2.2.2.2.trans a8).all.trans (d7.mono fun b hb=>by constructor<;>(show b≠_)<;>omega))) e4 e5;have HA:=oH e1;clear h1 h2 d7 Y I j1 b6 a8 e4 e5 e1;skip;go_wp2_with fail;refine bodyPost_ret (v:=.agg #[.int .u8 x.kind,.int .u8 x.op,.int .i64 (-1),.int .i64 r,.int .i64 s,.slice E1 x.args.length d8,.slice E2 x.Nh.length e0,.int .i64 x.num,.int .i64 x.Nj]) (by simp[results,Tryz.f141,go_sem,c0,c1,c2,c3,c4,c5,c6,c7,c8]) rfl (.inl ⟨⟨H4.2.2.2.1.1,H4.2.2.2.1.2,HO.2.2.2,HQ.2.2.2.1,fun e7 g hg=>HA.out e7 g (by rw[←H4.2.2.2.2.1];exact hg)⟩,HZ.2.2.1,(-1),r,s,E1,_,d8,E2,_,e0,rfl,Ko ?_ H4.2.2.2.2.1 H4.2.2.2.2.2 ?_ ?_ HM.2.2.2.2.2.1 HM.2.2.2.2.2.2.1 ?_⟩);·rw[ap HD.out]
  ·exact ah.wide (fun b hb=>by have:=HZ.2.2.2.1;have:=HZ.2.2.2.2;omega) HZ.1
  ·exact ah.wide (fun b hb=>by have:=HZ.2.2.2.1;have:=HZ.2.2.2.2;omega) HZ.2.1
  unfold aV;omega
 rw[cI e9] at nr;have n5:=(HM.2.2.1.keep (HQ.2.2.2.2.trans a8) trivial).get (s:=x.dst) (by have:=HM.2.2.2.2.2.1.dst;unfold maxLen;omega);have j3:0≤aO (bh f) x.dst:=cm.2 (HM.2.2.2.2.2.2.2.resolve_left e9);have h7:=lR (bh f) x.dst;rw[Int.max_eq_left j3] at n5;obtain⟨n,hn⟩:=eR (aO (bh f) x.dst);rw[hn] at n5 h7;have HD:=J2 e9 hn;clear e9 hn j3;have I:=j1.far (p:=⟨w.heap.size+1+1+1,2,none⟩) (show w.heap.size+1+1≠w.heap.size+1+1+1 by omega) (.int .i64 n);have yz:=b6.set 2 (.int .i64 n);have y0:=yz.cell 0;have y1:=yz.cell 1;have y2:=yz.cell 2;have y3:=yz.cell 3;have y4:=yz.cell 4;have y5:=yz.cell 5;have y6:=yz.cell 6;have y7:=yz.cell 7;have y8:=yz.cell 8;have o0:=I.cell 0;have o1:=I.cell 1;have o2:=I.cell 2;have o3:=I.cell 3;have o4:=I.cell 4;have o5:=I.cell 5;have o6:=I.cell 6;have o7:=I.cell 7;have o8:=I.cell 8;have k0:=I.free 0;have k1:=I.free 1;have k2:=I.free 2;have k3:=I.free 3;have k4:=I.free 4;have k5:=I.free 5;have k6:=I.free 6;have k7:=I.free 7;have k8:=I.free 8;have Y:=(((((((((I.set 0 (.int .u8 x.kind)).set 1 (.int .u8 x.op)).set 2 (.int .i64 n)).set 3 (.int .i64 r)).set 4 (.int .i64 s)).set 5 (.slice E1 x.args.length d8)).set 6 (.slice E2 x.Nh.length e0)).set 7 (.int .i64 x.num)).set 8 (.int .i64 x.Nj));have c0:=Y.cell 0;have c1:=Y.cell 1;have c2:=Y.cell 2;have c3:=Y.cell 3;have c4:=Y.cell 4;have c5:=Y.cell 5;have c6:=Y.cell 6;have c7:=Y.cell 7;have c8:=Y.cell 8;have d7:=(((((((((((aa.refl (fun b=>b≠w.heap.size+1+1∧b≠w.heap.size+1+1+1) wc).setCell (p:=⟨w.heap.size+1+1+1,2,none⟩) (.inl fun h=>h.2 rfl) (.int .i64 n)).setCell (p:=⟨w.heap.size+1+1,0,none⟩) (.inl fun h=>h.1 rfl) (.int .u8 x.kind)).setCell (p:=⟨w.heap.size+1+1,1,none⟩) (.inl fun h=>h.1 rfl) (.int .u8 x.op)).setCell (p:=⟨w.heap.size+1+1,2,none⟩) (.inl fun h=>h.1 rfl) (.int .i64 n)).setCell (p:=⟨w.heap.size+1+1,3,none⟩) (.inl fun h=>h.1 rfl) (.int .i64 r)).setCell (p:=⟨w.heap.size+1+1,4,none⟩) (.inl fun h=>h.1 rfl) (.int .i64 s)).setCell (p:=⟨w.heap.size+1+1,5,none⟩) (.inl fun h=>h.1 rfl) (.slice E1 x.args.length d8)).setCell (p:=⟨w.heap.size+1+1,6,none⟩) (.inl fun h=>h.1 rfl) (.slice E2 x.Nh.length e0)).setCell (p:=⟨w.heap.size+1+1,7,none⟩) (.inl fun h=>h.1 rfl) (.int .i64 x.num)).setCell (p:=⟨w.heap.size+1+1,8,none⟩) (.inl fun h=>h.1 rfl) (.int .i64 x.Nj));simp only[ga,gc] at y0 o0 c0 y1 o1 c1 y2 o2 c2 y3 o3 c3 y4 o4 c4 y5 o5 c5 y6 o6 c6 y7 o7 c7 y8 o8 c8;have h1:=ah.keep (S:=fun b=>w.heap.size≤b∧b<wo.heap.size∧b≠w.heap.size+1+1∧b≠w.heap.size+1+1+1) ((HQ.1.mono fun b hb=>hb.2.2.2).trans (a8.all.trans (d7.mono fun b hb=>⟨hb.2.2.1,hb.2.2.2⟩))) (ah.wide (fun b (hb:W4.heap.size≤b∧b<wo.heap.size)=>by omega) HO.2.2.1);have h2:=ah.keep (S:=fun b=>w.heap.size≤b∧b<wr.heap.size∧b≠w.heap.size+1+1∧b≠w.heap.size+1+1+1) (a8.all.trans (d7.mono fun b hb=>⟨hb.2.2.1,hb.2.2.2⟩)) (ah.wide (fun b (hb:wo.heap.size≤b∧b<wr.heap.size)=>by omega) HQ.2.2.1);have e4:=d7.size;have e5:=a8.size;have HZ:=J5 h1 h2 (am ((HQ.2.2.2.2.trans a8).all.trans (d7.mono fun b hb=>by constructor<;>(show b≠_)<;>omega))) e4 e5;have HA:=oH e1;clear h1 h2 d7 Y I j1 b6 a8 e4 e5 e1;clear yz;go_wp2_with fail;refine bodyPost_ret (v:=.agg #[.int .u8 x.kind,.int .u8 x.op,.int .i64 n,.int .i64 r,.int .i64 s,.slice E1 x.args.length d8,.slice E2 x.Nh.length e0,.int .i64 x.num,.int .i64 x.Nj]) (by simp[results,Tryz.f141,go_sem,c0,c1,c2,c3,c4,c5,c6,c7,c8]) rfl (.inl ⟨⟨H4.2.2.2.1.1,H4.2.2.2.1.2,HO.2.2.2,HQ.2.2.2.1,fun e7 g hg=>HA.out e7 g (by rw[←H4.2.2.2.2.1];exact hg)⟩,HZ.2.2.1,n,r,s,E1,_,d8,E2,_,e0,rfl,Ko ?_ H4.2.2.2.2.1 H4.2.2.2.2.2 ?_ ?_ HM.2.2.2.2.2.1 HM.2.2.2.2.2.2.1 ?_⟩);·rw[ae HD.1,HD.2]
 ·exact ah.wide (fun b hb=>by have:=HZ.2.2.2.1;have:=HZ.2.2.2.2;omega) HZ.1
 ·exact ah.wide (fun b hb=>by have:=HZ.2.2.2.1;have:=HZ.2.2.2.2;omega) HZ.2.1
 unfold aV;omega
section
theorem dR.made {α:Type}{n:Nat}{e:TypeId}{E:cO α}{B:Nat}(w:World)(cur:Array Value)(cap:Nat)(j:B≤w.heap.size)(hm:cap≤maxLen)(o:cur.size=cap*n):
 dR n e E B (w.alloc (.cells cur e)) (.slice (some ⟨w.heap.size,0,none⟩) 0 cap) ([]:List α):=
 ⟨[],fun _=>False,World.ownsRow_made w cur cap j hm o,rfl,(fun _ h=>by cases h),fun _ h=>h.elim,fun i x h=>by simp at h⟩
def eT {α:Type}(E:bT α):cO α:=fun S w cs x=>∃v,cs=[v]∧E S w v x
theorem aS {α:Type}{E:bT α}(g:bT.Good E):cO.Good (eT E):=by
 constructor
 ·rintro S w j cs x k ⟨v,e,h⟩
  exact⟨v,e,g.keep k h⟩
 rintro S T w cs x k ⟨v,e,h⟩;exact⟨v,e,g.wide k h⟩
theorem jT {α:Type}{bw:Nat}{E:bT α}{S:Nat→Prop}{w:World}{v:Value}{l:List α}(h:rx 1 bw (eT E) S w v l):Sl bw E S w v l:=by obtain⟨a,cap,rfl,j,o,C,h⟩:=h;refine⟨a,cap,rfl,j,o,C,fun i x I=>?_⟩;obtain⟨b,off,cs,e,J,_,R,u,rfl,Y⟩:=h i x I;exact⟨b,off,u,e,J,by have:=R 0 u rfl;rwa [Nat.mul_one,dj] at this,Y⟩
theorem qz {l:List Nat}{x:Nat}(h:x∈l):x≤l.sum:=by
 induction l with
 |nil=>cases h
 |cons a l j=>
  rw[List.sum_cons];rcases fX.1 h with rfl|h;·omega
  have:=j h;omega
section
variable {p:aH} {q:dN} {f:cD} {b:eS} {x:cX}
theorem yr (j:fV q)(o:f∈q.Nf):gl f≤4096:=fR (qz (dr.2 ⟨f,o,rfl⟩)) j.2.2.2.2
theorem Fm (j:fV q)(o:f∈q.Nf)(C:b∈f.Ng):b.code.length≤4096:=fR (qz (dr.2 ⟨b,C,rfl⟩)) (yr j o)
theorem xu (j:fV q)(o:f∈q.Nf):(bh f).length≤5000:=by
 have C:=yr j o;have I:=(j.2.2.2.1 f o).2.2.1;have J:(sx f).length≤gl f:=by unfold sx gl;refine fR (List.length_filter_le _ _) ?_;rw[List.length_flatMap];simp
 unfold bh;rw[iQ];omega
theorem pr (j:fV q)(o:f∈q.Nf):(cn f).length≤64∧f.Ng.length≤64:=by have:=(j.2.2.2.1 f o).2.2.2.2.1;unfold cn;rw[ce];exact⟨this,this⟩
theorem KU (j:b∈f.Ng)(o:x∈b.code):x.dst=gR∨x.dst∈bh f:=by
 by_cases h:x.dst=gR;·exact .inl h
 right;refine eD.2 (.inr (List.mem_filter.2 ⟨List.mem_flatMap.2 ⟨b,j,dr.2 ⟨x,o,rfl⟩⟩,?_⟩));simpa using h
theorem Ir (j:fV q)(o:f∈q.Nf)(C:b∈f.Ng)(I:x∈b.code):x.args.length≤64∧x.Nh.length≤64:=by
 obtain⟨_,_,_,_,_,J,R⟩:=((j.2.2.2.1 f o).2.2.2.2.2 b C).2 x I;by_cases h:x.kind=3
 ·obtain⟨_,_,_,e,Y,h6⟩:=J h
  omega
 obtain⟨s,_,e,_,Y,_⟩:=R h;rw[e];exact⟨by omega,by simp⟩
theorem mf {α:Type}(f:α→Bool)(l:List α)(h:l.length≤1048576):aV (gJ f l):=by have:=kT f l;unfold aV;omega
theorem GP (j:dD p)(o:fV q)(C:f∈q.Nf):aV (dv p q f x)∧aV (dy f x):=by
 have R:=j.1;have Y:=j.2.1.1.2.1;have h3:=j.2.2.2.2.2.1.1;have h4:=j.2.2.2.2.2.2.1;have h5:=o.1;have h6:=o.2.1;have h7:=(pr o C).1;have I:(dz q).length≤1048576:=by unfold dz;rw[ce];omega
 have J:(fh q).length≤1048576:=by unfold fh;rw[ce];omega
 have z:aV 0:=by unfold aV;omega
 constructor;·(
 unfold dv;split;·exact mf _ _ I
 split;·exact mf _ _ J
 split;·exact mf _ _ (by omega)
 split;·exact mf _ _ (by omega)
 split;·exact mf _ _ (by omega)
 split;·exact mf _ _ (by omega)
 exact z)
 unfold dy;split;·exact mf _ _ (by omega)
 exact z
end
def we:cO cD:=fun S w cs f=>∃j o,cs=[.map (some j),.map (some o)]∧S j∧S o∧wd w j o f
theorem nN:cO.Good we:=by
 constructor
 ·rintro S w Y cs x k ⟨C,I,e,j,o,J,R⟩
  exact⟨C,I,e,j,o,J.keep k j,R.keep k o⟩
 rintro S T w cs x k ⟨C,I,e,j,o,J⟩;exact⟨C,I,e,k _ j,k _ o,J⟩
theorem vq:(prog.info? 167).map (fun i=>(i.zero,i.size,i.bytes))=some (some (.agg #[.map none,.map none]),2,16):=by kernel_rfl
theorem Dp (n:Nat)(I:n≤1048576)(w:World):(Instr.makeSlice 165 (.int .i64 0) (.int .i64 n)).run prog w=.ok (.slice (some ⟨w.heap.size,0,none⟩) 0 n) (w.alloc (.cells (madeCells #[.map none,.map none] (n*2)) 167)):=by obtain⟨i,hi,j,o,C⟩:=info_parts vq;rw[run_make (P:=prog) w 165 167 i _ underlying165 hi j .i64 .i64 0 n (by omega) (by omega) (by rw[C];omega) (by omega),o,dP];rfl
end
theorem kt:(prog.info? 3).map (fun i=>(i.zero,i.size,i.bytes))=some (some (.int .i64 0),1,8):=by kernel_rfl
theorem vm:(prog.info? 38).map (fun i=>(i.zero,i.size,i.bytes))=some (some (.slice none 0 0),1,24):=by kernel_rfl
def EN (b:aw)(w:World)(e:Ending)(j:World):Prop:=∃u,e=.returned (.tuple #[u,.bool true])∧Rows (fun g=>w.heap.size≤g∧g<j.heap.size) j u (bM b)∧aa All w j
theorem oT {w:World}{B:Nat}{e:TypeId}{v:Value}{l:List Int}(h:w.ownsRow B e 1 v l.length (aI l))(hw:∀x∈l,(Lit.int .i64 x).wf=true)(o:l.length≤1000):aK (fun g=>B≤g∧g<w.heap.size) w v l:=
 jr h rfl (by omega) (fun g j=>aD h j) hw
theorem JH (S:Nat→Prop)(bv:Value)(b:aw)(w:World)(hb:bW S w bv b.Ng)(hG:gY b):
 Calls prog 42 #[.agg #[.int .i64 b.params,.int .i64 b.vars,bv]] w (EN b w):=by
 obtain⟨iI,II⟩:=iH kt;obtain⟨iR,IR⟩:=iH vm;have j3:=bg.la hb;obtain⟨B1,d1,rfl,m5,m6,m7,_⟩:=hb;unfold maxLen at*;obtain⟨W0,e9⟩:=eQ (w.alloc (.cells #[.int .i64 b.params,.int .i64 b.vars,.slice B1 b.Ng.length d1] 35));have h7:=aC1 e9;have bB:=aA0 e9;obtain⟨b0,b1,b2⟩:=bB.c3;have l5:=h7.size;have l6:=hG.blk.2;have HG:=oH hG;have HW:=J4 e9 h7 bB j3;clear e9 h7 bB j3 hG;go_enter func42,ntmps42;go_upto_region 1 with fail;rw[←HW.1];go_wp2_with fail;go_loopg [4,5] b.Ng.length (fun g s4 s5 wr=>∃j:Nat,j≤b.Ng.length∧g=b.Ng.length-j∧s5=.int .i64 j∧aa All W0 wr∧dR 1 38 (eT aK) W0.heap.size wr s4 ((bM b).take j));·exact⟨0,by omega,by omega,rfl,kR,by rw[List.take_zero];exact dR.nil⟩
 obtain⟨j,hj,rfl,rfl,c9,a8⟩:=hrel;have h0:=HW.2.1.trans c9;obtain⟨E,ep,rfl⟩:=a8.form;have c2:((bM b).take j).length=j:=by rw[fN,cS];omega
 rw[c2] at a8⊢;have j4:=HW.2.2.1.kept c9 trivial;clear b0 b1 b2;obtain⟨b0,b1,b2⟩:=j4.c3;clear j4;have k9:=c9.size;by_cases k4:j<b.Ng.length;·(
 obtain⟨l,hl⟩:=eG k4;have h1:=mG hl;obtain⟨rb,ro,rv,rfl,k5,l7,h8⟩:=bn (HW.2.2.2 wr h0) hl;obtain⟨q1,q2,q3⟩:=HG.out.some_ l h1;have e6:=(lC q1).2;have hrefs:=HG.out.ref l h1;have c5:=HG.out.Ni l h1;have j5:(bM b).take (j+1)=(bM b).take j++[eJ (iW l)]:=by rw[cU,Cn hl];rfl
 generalize iW l=x at*;obtain⟨LA,lc,rfl,l1,l2,l3,_⟩:=id h8;unfold maxLen at l2;obtain⟨m,hm⟩:∃m:Nat,l.length=m+1:=⟨l.length-1,by omega⟩;rw[show l.length-1=m by omega] at e6;obtain⟨xb,xo,l8,rfl,k6,j6,c1,xa,xf,rfl,k7,k8,j7⟩:=aZ h8 e6;obtain⟨ua,uc,rfl,_⟩:=k7;obtain⟨va,vc,rfl,_⟩:=k8;have z0:=c1 0 _ rfl;rw[dj] at z0;have z1:=c1 1 _ rfl;have z2:=c1 2 _ rfl;have z3:=c1 3 _ rfl;have z4:=c1 4 _ rfl;have z5:=c1 5 _ rfl;have z6:=c1 6 _ rfl;have z7:=c1 7 _ rfl;have z8:=c1 8 _ rfl;have tl:((l.length:Int)==0)=false:=by rw[bE];omega
 have tm:(l.length:Int)-1=(m:Int):=by omega
 have l9:m<l.length:=by omega
 obtain⟨W5,h2⟩:=eQ (wr.alloc (.cells #[.int .u8 x.kind,.int .u8 x.op,.int .i64 x.dst,.int .i64 x.ref,.int .i64 x.Ni,.slice ua x.args.length uc,.slice va x.Nh.length vc,.int .i64 x.num,.int .i64 x.Nj] 40));have h9:=aC1 h2;have b5:=aA0 h2;have m9:=h9.size;have HX:=oH (show∀wn,aa All W5 wn→wn.cell? ⟨wr.heap.size,0,none⟩=some (.int .u8 x.kind)∧wn.cell? ⟨wr.heap.size,3,none⟩=some (.int .i64 x.ref)∧wn.cell? ⟨wr.heap.size,4,none⟩=some (.int .i64 x.Ni) from fun wn hk=>⟨(b5.kept hk trivial).cell 0,(b5.kept hk trivial).cell 3,(b5.kept hk trivial).cell 4⟩);have HA:=J6 c9 a8 h2 h9 j5 j7;obtain⟨_,j8⟩:=a8.own;have HO:=oH j8;clear c9 a8 h2 h9 b5 j5 hl h1 h8 e6 c1 j7 h0 k5 k6 j6 j8;go_upto_region 9 with fail;rw[←HA.2.2.1];clear z0 z1 z2 z3 z4 z5 z6 z7 z8;obtain⟨c0,c3,c4⟩:=HX.out W5 kR;have t1:decide ((x.kind:Int)<11)=false:=by simp;omega
 have t2:decide ((13:Int)<(x.kind:Int))=false:=by simp;omega
 by_cases h4:x.kind=13;·(
 have t3:=wK x.kind 13 (by omega);have t4:=nK x.kind 12 (by omega);have d7:=oH (show eJ x=[] by unfold eJ;rw[ae (by omega),ae (by omega)]);clear hrefs c5 h4;obtain⟨X9,C⟩:∃X,X=W5.alloc (.cells #[.slice none 0 0] 38):=⟨_,rfl⟩;have I:=aC1 C;have b4:=aA0 C;have J:=aD1 C;have d8:=eE J;have d9:=eE J.symm;have Y:aa All wr X9:=HA.2.2.2.1.trans ((aa.refl All W5).trans I);have o:=HA.2.1.keep (aS ah) Y fun _ _ _=>trivial;have b6:aK (fun g=>W5.heap.size≤g∧g<W5.heap.size) X9 (.slice none 0 0) (([]:List Int)):=ah.keep I.all (Sl.nil);have i1:=Y.size;have H9:=J5 C b4 o b6 Y;clear C I b4 J o b6 Y;go_wp2_with (
  at_builtin;go_loud (
  rw[←H9.1];refine bN (E:=eT aK) _ (aS ah) rfl (.tmp 64) (.tmp 66) 54 rfl iR _ 24 underlying54 IR.1 IR.2.1 IR.2.2.1 IR.2.2.2 rfl (by decide) _ _ rfl H9.2.2.1 W5.heap.size 0 1 rfl [.slice none 0 0] (([]:List Int)) rfl ?_ ?_ (by rw[c2];omega) (by omega) (by omega) (fun g=>W5.heap.size≤g∧g<W5.heap.size) ?_ ⟨_,rfl,H9.2.2.2.1⟩ ?_;·intro j u hu;rw[cN,H9.2.1.cell,List.getElem?_toArray];exact hu
  ·intro u hu
   rw[cx.1 hu];rfl
  ·intro g hg;have b3:W5.heap.size≤g∧g<W5.heap.size:=hg;exact⟨by omega,by omega,fun e=>by have:=(aD HO.out e).2;omega⟩
  intro D2 i6 w9 o b7 b8;have HZ:=J3 o b7 b8;clear o b7 b8))
 go_roundg (b.Ng.length-(j+1));·refine⟨j+1,by omega,rfl,by go_num,(HA.1.trans H9.2.2.2.2).grown HZ.2.1 fun b hb=>.inr (HZ.2.2 b hb),?_⟩;rw[HA.2.2.2.2.1,d7.out];have h3:=HZ.1;rw[c2] at h3;exact h3
 omega)
 by_cases e7:x.kind=12;·(
 by_cases ea:x.Ni=x.ref;·(
 have t3:=mK x.kind 13 (by omega);have t4:=yK x.kind 12 (by omega);have t5:(x.Ni !=x.ref)=false:=by rw[gj];exact ea
 have d7:=oH (show eJ x=[x.ref] by unfold eJ;rw[ae (fun h=>h.2 ea),ap (.inl e7)]);clear hrefs c5 h4 e7 ea;obtain⟨X1,a7⟩:∃X,X=W5.alloc (.cells #[.int .i64 x.ref] 3):=⟨_,rfl⟩;have a1:=aC1 a7;have c6:=aA0 a7;have h6:=a1.size;have b9:=J3 a7 a1 c6;clear a7 a1 c6
 go_upto_region 14 with (at_builtin
                         go_loud (
                         rw[←b9.1];refine aR _ rfl (.tmp 44) (.tmp 47) 38 rfl W5.heap.size 3 iI _ 1 8 underlying38 II.1 II.2.1 II.2.2.1 II.2.2.2 rfl (by decide) _ 0 [] rfl ⟨rfl,.inl ⟨rfl,rfl⟩⟩ (some ⟨W5.heap.size,0,none⟩) 1 1 [.int .i64 x.ref] rfl rfl ?_ ?_ (by unfold maxLen;omega) (by omega) (by omega) ?_;·(
 intro _;exact⟨_,_,rfl,fun j u hu=>by
  rcases j with _|j;·rw[cN,b9.2.2.cell];exact hu
  simp at hu⟩)
                         ·intro u hu;rw[cx.1 hu];rfl
                         intro v1 w1 R b3 c7;obtain⟨C1,c8,rfl⟩:=aU R;have a6:aa All W5 w1:=((aa.refl All W5).trans b9.2.1).grown b3 fun b hb=>.inr (by cases hb);obtain⟨e0,e3,e4⟩:=HX.out w1 a6;have j9:=a6.size;simp only[cN,mF] at R⊢;clear b3 c7))
 obtain⟨X9,C⟩:∃X,X=w1.alloc (.cells #[.slice C1 1 c8] 38):=⟨_,rfl⟩;have I:=aC1 C;have b4:=aA0 C;have J:=aD1 C;have d8:=eE J;have d9:=eE J.symm;have Y:aa All wr X9:=HA.2.2.2.1.trans (a6.trans I);have o:=HA.2.1.keep (aS ah) Y fun _ _ _=>trivial;have b6:aK (fun g=>W5.heap.size≤g∧g<w1.heap.size) X9 (.slice C1 1 c8) ([x.ref]):=ah.keep I.all (oT (l:=[x.ref]) R (fun y hy=>by rcases fX.1 hy with rfl|hy<;>first|exact iw HA.2.2.2.2.2.ref|(rw[cx.1 hy];exact iw HA.2.2.2.2.2.Ni)|cases hy) (by simp));have i1:=Y.size;have H9:=J5 C b4 o b6 Y;clear C I b4 J o b6 Y;go_wp2_with (
  at_builtin;go_loud (
  rw[←H9.1];refine bN (E:=eT aK) _ (aS ah) rfl (.tmp 64) (.tmp 66) 54 rfl iR _ 24 underlying54 IR.1 IR.2.1 IR.2.2.1 IR.2.2.2 rfl (by decide) _ _ rfl H9.2.2.1 w1.heap.size 0 1 rfl [.slice C1 1 c8] ([x.ref]) rfl ?_ ?_ (by rw[c2];omega) (by omega) (by omega) (fun g=>W5.heap.size≤g∧g<w1.heap.size) ?_ ⟨_,rfl,H9.2.2.2.1⟩ ?_;·intro j u hu;rw[cN,H9.2.1.cell,List.getElem?_toArray];exact hu
  ·intro u hu
   rw[cx.1 hu];rfl
  ·intro g hg;have b3:W5.heap.size≤g∧g<w1.heap.size:=hg;exact⟨by omega,by omega,fun e=>by have:=(aD HO.out e).2;omega⟩
  intro D2 i6 w9 o b7 b8;have HZ:=J3 o b7 b8;clear o b7 b8))
 go_roundg (b.Ng.length-(j+1));·refine⟨j+1,by omega,rfl,by go_num,(HA.1.trans H9.2.2.2.2).grown HZ.2.1 fun b hb=>.inr (HZ.2.2 b hb),?_⟩;rw[HA.2.2.2.2.1,d7.out];have h3:=HZ.1;rw[c2] at h3;exact h3
 omega)
 have t3:=mK x.kind 13 (by omega);have t4:=yK x.kind 12 (by omega);have t5:(x.Ni !=x.ref)=true:=by rw[bne_iff_ne];exact ea
 have d7:=oH (show eJ x=[x.ref,x.Ni] by unfold eJ;rw[ap ⟨e7,ea⟩]);clear hrefs c5 h4 e7 ea;obtain⟨X1,a7⟩:∃X,X=W5.alloc (.cells #[.int .i64 x.ref] 3):=⟨_,rfl⟩;have a1:=aC1 a7;have c6:=aA0 a7;have h6:=a1.size;have b9:=J3 a7 a1 c6;clear a7 a1 c6
 go_upto_region 14 with (at_builtin
                         go_loud (
                         rw[←b9.1];refine aR _ rfl (.tmp 44) (.tmp 47) 38 rfl W5.heap.size 3 iI _ 1 8 underlying38 II.1 II.2.1 II.2.2.1 II.2.2.2 rfl (by decide) _ 0 [] rfl ⟨rfl,.inl ⟨rfl,rfl⟩⟩ (some ⟨W5.heap.size,0,none⟩) 1 1 [.int .i64 x.ref] rfl rfl ?_ ?_ (by unfold maxLen;omega) (by omega) (by omega) ?_;·(
 intro _;exact⟨_,_,rfl,fun j u hu=>by
  rcases j with _|j;·rw[cN,b9.2.2.cell];exact hu
  simp at hu⟩)
                         ·intro u hu;rw[cx.1 hu];rfl
                         intro v1 w1 R b3 c7;obtain⟨C1,c8,rfl⟩:=aU R;have a6:aa All W5 w1:=((aa.refl All W5).trans b9.2.1).grown b3 fun b hb=>.inr (by cases hb);obtain⟨e0,e3,e4⟩:=HX.out w1 a6;have j9:=a6.size;simp only[cN,mF] at R⊢;clear b3 c7))
 obtain⟨X2,h5⟩:∃X,X=w1.alloc (.cells #[.int .i64 x.Ni] 3):=⟨_,rfl⟩;have e2:=aC1 h5;have k0:=aA0 h5;have l0:=e2.size;have i7:=J3 h5 e2 k0;have e5:=be R e2 (fun _ _=>trivial);clear h5 e2 k0
 go_upto_region 16 with (at_builtin
                         go_loud (
                         rw[←i7.1];refine aR _ rfl (.tmp 59) (.tmp 62) 38 rfl W5.heap.size 3 iI _ 1 8 underlying38 II.1 II.2.1 II.2.2.1 II.2.2.2 rfl (by decide) _ 1 [.int .i64 x.ref] rfl e5 (some ⟨w1.heap.size,0,none⟩) 1 1 [.int .i64 x.Ni] rfl rfl ?_ ?_ (by unfold maxLen;omega) (by omega) (by omega) ?_;·(
 intro _;exact⟨_,_,rfl,fun j u hu=>by
  rcases j with _|j;·rw[cN,i7.2.2.cell];exact hu
  simp at hu⟩)
                         ·intro u hu;rw[cx.1 hu];rfl
                         intro v2 w2 e1 k1 k2;obtain⟨C2,j0,rfl⟩:=aU e1;have e8:aa All W5 w2:=(a6.trans i7.2.1).grown k1 fun b hb=>.inr (by exact(aD e5 hb).1);obtain⟨e0,e3,e4⟩:=HX.out w2 e8;have n0:=e8.size;simp only[List.cons_append,mF] at e1⊢;clear k1 k2))
 obtain⟨X9,C⟩:∃X,X=w2.alloc (.cells #[.slice C2 2 j0] 38):=⟨_,rfl⟩;have I:=aC1 C;have b4:=aA0 C;have J:=aD1 C;have d8:=eE J;have d9:=eE J.symm;have Y:aa All wr X9:=HA.2.2.2.1.trans (e8.trans I);have o:=HA.2.1.keep (aS ah) Y fun _ _ _=>trivial;have b6:aK (fun g=>W5.heap.size≤g∧g<w2.heap.size) X9 (.slice C2 2 j0) ([x.ref,x.Ni]):=ah.keep I.all (oT (l:=[x.ref,x.Ni]) e1 (fun y hy=>by rcases fX.1 hy with rfl|hy<;>first|exact iw HA.2.2.2.2.2.ref|(rw[cx.1 hy];exact iw HA.2.2.2.2.2.Ni)|cases hy) (by simp));have i1:=Y.size;have H9:=J5 C b4 o b6 Y;clear C I b4 J o b6 Y;go_wp2_with (
  at_builtin;go_loud (
  rw[←H9.1];refine bN (E:=eT aK) _ (aS ah) rfl (.tmp 64) (.tmp 66) 54 rfl iR _ 24 underlying54 IR.1 IR.2.1 IR.2.2.1 IR.2.2.2 rfl (by decide) _ _ rfl H9.2.2.1 w2.heap.size 0 1 rfl [.slice C2 2 j0] ([x.ref,x.Ni]) rfl ?_ ?_ (by rw[c2];omega) (by omega) (by omega) (fun g=>W5.heap.size≤g∧g<w2.heap.size) ?_ ⟨_,rfl,H9.2.2.2.1⟩ ?_;·intro j u hu;rw[cN,H9.2.1.cell,List.getElem?_toArray];exact hu
  ·intro u hu
   rw[cx.1 hu];rfl
  ·intro g hg;have b3:W5.heap.size≤g∧g<w2.heap.size:=hg;exact⟨by omega,by omega,fun e=>by have:=(aD HO.out e).2;omega⟩
  intro D2 i6 w9 o b7 b8;have HZ:=J3 o b7 b8;clear o b7 b8))
 go_roundg (b.Ng.length-(j+1));·refine⟨j+1,by omega,rfl,by go_num,(HA.1.trans H9.2.2.2.2).grown HZ.2.1 fun b hb=>.inr (HZ.2.2 b hb),?_⟩;rw[HA.2.2.2.2.1,d7.out];have h3:=HZ.1;rw[c2] at h3;exact h3
 omega)
 have t3:=mK x.kind 13 (by omega);have t4:=nK x.kind 12 (by omega);have d7:=oH (show eJ x=[x.ref] by unfold eJ;rw[ae (by omega),ap (by omega)]);clear hrefs c5 h4 e7;obtain⟨X1,a7⟩:∃X,X=W5.alloc (.cells #[.int .i64 x.ref] 3):=⟨_,rfl⟩;have a1:=aC1 a7;have c6:=aA0 a7;have h6:=a1.size;have b9:=J3 a7 a1 c6;clear a7 a1 c6
 go_upto_region 14 with (at_builtin
                         go_loud (
                         rw[←b9.1];refine aR _ rfl (.tmp 44) (.tmp 47) 38 rfl W5.heap.size 3 iI _ 1 8 underlying38 II.1 II.2.1 II.2.2.1 II.2.2.2 rfl (by decide) _ 0 [] rfl ⟨rfl,.inl ⟨rfl,rfl⟩⟩ (some ⟨W5.heap.size,0,none⟩) 1 1 [.int .i64 x.ref] rfl rfl ?_ ?_ (by unfold maxLen;omega) (by omega) (by omega) ?_;·(
 intro _;exact⟨_,_,rfl,fun j u hu=>by
  rcases j with _|j;·rw[cN,b9.2.2.cell];exact hu
  simp at hu⟩)
                         ·intro u hu;rw[cx.1 hu];rfl
                         intro v1 w1 R b3 c7;obtain⟨C1,c8,rfl⟩:=aU R;have a6:aa All W5 w1:=((aa.refl All W5).trans b9.2.1).grown b3 fun b hb=>.inr (by cases hb);obtain⟨e0,e3,e4⟩:=HX.out w1 a6;have j9:=a6.size;simp only[cN,mF] at R⊢;clear b3 c7))
 obtain⟨X9,C⟩:∃X,X=w1.alloc (.cells #[.slice C1 1 c8] 38):=⟨_,rfl⟩;have I:=aC1 C;have b4:=aA0 C;have J:=aD1 C;have d8:=eE J;have d9:=eE J.symm;have Y:aa All wr X9:=HA.2.2.2.1.trans (a6.trans I);have o:=HA.2.1.keep (aS ah) Y fun _ _ _=>trivial;have b6:aK (fun g=>W5.heap.size≤g∧g<w1.heap.size) X9 (.slice C1 1 c8) ([x.ref]):=ah.keep I.all (oT (l:=[x.ref]) R (fun y hy=>by rcases fX.1 hy with rfl|hy<;>first|exact iw HA.2.2.2.2.2.ref|(rw[cx.1 hy];exact iw HA.2.2.2.2.2.Ni)|cases hy) (by simp));have i1:=Y.size;have H9:=J5 C b4 o b6 Y;clear C I b4 J o b6 Y;go_wp2_with (
  at_builtin;go_loud (
  rw[←H9.1];refine bN (E:=eT aK) _ (aS ah) rfl (.tmp 64) (.tmp 66) 54 rfl iR _ 24 underlying54 IR.1 IR.2.1 IR.2.2.1 IR.2.2.2 rfl (by decide) _ _ rfl H9.2.2.1 w1.heap.size 0 1 rfl [.slice C1 1 c8] ([x.ref]) rfl ?_ ?_ (by rw[c2];omega) (by omega) (by omega) (fun g=>W5.heap.size≤g∧g<w1.heap.size) ?_ ⟨_,rfl,H9.2.2.2.1⟩ ?_;·intro j u hu;rw[cN,H9.2.1.cell,List.getElem?_toArray];exact hu
  ·intro u hu
   rw[cx.1 hu];rfl
  ·intro g hg;have b3:W5.heap.size≤g∧g<w1.heap.size:=hg;exact⟨by omega,by omega,fun e=>by have:=(aD HO.out e).2;omega⟩
  intro D2 i6 w9 o b7 b8;have HZ:=J3 o b7 b8;clear o b7 b8))
 go_roundg (b.Ng.length-(j+1));·refine⟨j+1,by omega,rfl,by go_num,(HA.1.trans H9.2.2.2.2).grown HZ.2.1 fun b hb=>.inr (HZ.2.2 b hb),?_⟩;rw[HA.2.2.2.2.1,d7.out];have h3:=HZ.1;rw[c2] at h3;exact h3
 omega)
 obtain rfl:j=b.Ng.length:=by omega
 rw[oF (by rw[cS];omega)] at a8;have j1:=jT (a8.read (bw:=24) (aS ah) (by rw[cS];omega));have HQ:=J3 c9 h0 (aq.wide (fun g (hg:W0.heap.size≤g∧g<wr.heap.size)=>show w.heap.size≤g∧g<wr.heap.size by omega) j1);have HC:=oH (pV _ _ (bM b) wr j1);clear c9 h0 a8 j1;skip;go_wp2_with fail;refine HC.out.mono ?_;rintro e w2 ⟨rfl,j2⟩;rw[bL (qam HG.out)];have k3:=oH j2;have l4:=j2.size;clear j2;go_wp2_with fail;go_ret2;exact⟨_,rfl,aq.wide (fun g (hg:w.heap.size≤g∧g<wr.heap.size)=>show w.heap.size≤g∧g<w2.heap.size by omega) (aq.keep k3.out.all HQ.2.2),HQ.2.1.trans k3.out⟩
section
open Classical in
noncomputable def mH (b:aw)(i:Nat)(x:bz):Int:=if lZ b x i then(if∀(m:Nat) v f,x.args[m]? =some v→x.Nh[m]? =some f→jl b v f.toNat then 0 else 19) else 18
open Classical in
theorem Ck {b:aw}{i k:Nat}{x:bz}(h:x.kind=3):uo b i k x=mH b i x:=by unfold uo mH;rw[ap h]
theorem wZ {b:aw}{i:Nat}{x:bz}(h:¬lZ b x i):mH b i x=18:=by unfold mH;rw[ae h]
theorem Cl {b:aw}{i:Nat}{x:bz}(h:lZ b x i){m:Nat}{v f:Int}(j:x.args[m]? =some v)(o:x.Nh[m]? =some f)(C:¬jl b v f.toNat):mH b i x=19:=by unfold mH;rw[ap h,ae fun h'=>C (h' m v f j o)]
theorem GC {b:aw}{i:Nat}{x:bz}(h:lZ b x i)(j:∀(m:Nat) v f,x.args[m]? =some v→x.Nh[m]? =some f→jl b v f.toNat):mH b i x=0:=by unfold mH;rw[ap h,ap j]
theorem zU {l:List Int}{k:Nat}{y a:Int}(h:l[k]? =some y):(l.take (k+1)).count a=(l.take k).count a+if y=a then 1 else 0:=by
 rw[cU,h,List.count_append];by_cases e:y=a;·rw[ap e];subst e;simp
 rw[ae e];simp[e]
theorem Hf (S T:Nat→Prop)(bv tv a5 a6:Value)(b:aw)(x:bz)(blk:Nat)(w:World)(hb:bW S w bv b.Ng)(ht:Rows T w tv (bM b))(hG:gY b)(_R:blk<b.Ng.length)
 (c1:aK S w a5 x.args) (c2:aK S w a6 x.Nh) (hl:x.Nh.length=x.args.length∧x.Nh.length≤64) (b7:∀a∈x.Nh,0≤a∧a<b.Ng.length) (c3:∀a∈x.args,0≤a∧a<b.vars):
 Calls prog 46 #[.agg #[.int .i64 b.params,.int .i64 b.vars,bv],tv,.agg #[.int .u8 x.kind,.int .u8 x.op,.int .i64 x.dst,.int .i64 x.ref,.int .i64 x.Ni,a5,a6,.int .i64 x.num,.int .i64 x.Nj],.int .i64 blk] w fun e w'=>e=.returned (.int .i64 (mH b blk x))∧aa All w w':=by
 have c4:=bg.la hb;have b8:=aq.la ht;have c5:=ah.la c1;have c6:=ah.la c2;obtain⟨B1,d1,rfl,m5,m6,m7,_⟩:=hb;obtain⟨TA,tc,rfl,t1,t2,t3,_⟩:=ht;have b5:(bM b).length=b.Ng.length:=cS b;rw[b5] at t1 t3 b8⊢;obtain⟨ua,uc,rfl,u1,u2,u3,_⟩:=c1;obtain⟨va,vc,rfl,v1,v2,v3,_⟩:=c2;unfold maxLen at*;have h8:=hG.blk.2;have b6:=xe (ll:=bM b) (l:=x.Nh) (k:=blk) (by rw[b5];exact b7);have HL:=J5 hl b7 c3 b5 b6;have h5:x.Nh.length≤64:=hl.2;have h6:x.Nh.length≤x.args.length:=eE hl.1;have h7:x.args.length≤x.Nh.length:=eE hl.1.symm;clear hl b7 c3 b5 b6;obtain⟨W0,a8⟩:=eQ ((w.alloc (.cells #[.int .i64 b.params,.int .i64 b.vars,.slice B1 b.Ng.length d1] 35)).alloc (.cells #[.int .u8 x.kind,.int .u8 x.op,.int .i64 x.dst,.int .i64 x.ref,.int .i64 x.Ni,.slice ua x.args.length uc,.slice va x.Nh.length vc,.int .i64 x.num,.int .i64 x.Nj] 40));have c7:=aC2 a8;have bB:=aA1 a8;have bX:=aB0 a8 aE1;obtain⟨b0,b1,b2⟩:=bB.c3;obtain⟨x0,x1,x2,x3,x4,x5,x6,x7,x8⟩:=bX.c9;have HG:=oH hG;have J:=J8 a8 c7 bB bX c4 b8 c5 c6;clear a8 c7 bB bX c4 b8 c5 c6 hG;go_enter func46,ntmps46;go_upto_region 1 with fail;rw[←J.1];go_wp2_with fail;go_loopg [9,10] b.Ng.length (fun g s9 e2 wr=>∃j:Nat,j≤b.Ng.length∧g=b.Ng.length-j∧e2=.int .i64 j∧s9=.int .i64 (uh x.Nh j)∧wr=W0∧∀i:Nat,i<j→(dH (bM b) i blk→x.Nh.count (i:Int)=1)∧(¬dH (bM b) i blk→x.Nh.count (i:Int)=0));·exact⟨0,by omega,by omega,rfl,by rw[KT fun a ha=>(HL.2.1 a ha).1]<;>rfl,rfl,fun i hi=>by omega⟩
 obtain⟨j,hj,rfl,rfl,rfl,hw,C⟩:=hrel;have b9:=hw.symm;subst b9;have e3:uh x.Nh j≤x.Nh.length:=List.length_filter_le _ _;obtain⟨cb,Y⟩:=eR (uh x.Nh j);rw[Y] at e3⊢;by_cases c0:j<b.Ng.length;·(
 have HA:=J2 C Y;clear C Y;go_wp2_with fail;go_loopg [11,12] x.Nh.length (fun g e4 e5 wr=>∃k:Nat,k≤x.Nh.length∧g=x.Nh.length-k∧e5=.int .i64 k∧e4=.int .i64 ((x.Nh.take k).count (j:Int))∧wr=W0);·exact⟨0,by omega,by omega,rfl,by rw[List.take_zero];rfl,rfl⟩
 obtain⟨k,e6,rfl,rfl,rfl,hw⟩:=hrel;have b9:=hw.symm;subst b9;have e7:(x.Nh.take k).count (j:Int)≤k:=fR List.count_le_length (by rw[fN];omega);obtain⟨ct,a7⟩:=eR ((x.Nh.take k).count (j:Int));rw[a7] at e7⊢;by_cases b3:k<x.Nh.length;·(
 obtain⟨y,hy⟩:=eG b3;obtain⟨yb,yo,c,rfl,e8,h9,rfl,e9⟩:=bn (J.2.2.2.2.2.2.2 W0 J.2.1) hy;have HY:=J2 (zU (a:=(j:Int)) hy) a7;clear hy a7 e8 e9;by_cases e:y=(j:Int)
 ·have t:(y==(j:Int))=true:=by rw[cy];exact e
  have HE:=oH e;clear e;go_wp2_with fail;go_roundg (x.Nh.length-(k+1));·exact⟨k+1,by omega,rfl,by go_num,by rw[HY.1,ap HE.out,HY.2];go_num,rfl⟩
  omega
 have t:(y==(j:Int))=false:=by rw[bE];exact e
 have HE:=oH e;clear e;go_wp2_with fail;go_roundg (x.Nh.length-(k+1));·exact⟨k+1,by omega,rfl,by go_num,by rw[HY.1,ae HE.out,HY.2]<;>rfl,rfl⟩
 omega)
 obtain rfl:k=x.Nh.length:=by omega
 rw[dZ] at a7;have c8:=tF T _ (bM b) j blk W0 (J.2.2.2.2.2.1 W0 J.2.1) (by rw[HL.2.2.2.1];exact c0);have HC:=J2 a7 c8;clear a7 c8;go_wp2_with fail;refine HC.2.mono ?_;rintro e w2 ⟨rfl,hw⟩;subst hw;by_cases I:dH (bM b) j blk;·(
 rw[av I];by_cases he:ct=1;·(
 have t:((ct:Int) !=1)=false:=by rw[gj];omega
 have HO:=J2 I he;clear I he;go_wp2_with fail;go_roundg (b.Ng.length-(j+1))
 ·refine⟨j+1,by omega,rfl,by go_num,by rw[uP fun a ha=>(HL.2.1 a ha).1,HA.2,HC.1];go_num,rfl,fun i hi=>?_⟩
  by_cases e:i=j;·subst e;rw[HC.1,HO.2];exact⟨fun h=>rfl,fun h=>absurd HO.1 h⟩
  exact HA.1 i (by omega)
 omega)
 have t:((ct:Int) !=1)=true:=by rw[bne_iff_ne];omega
 have HN:=oH (wZ (b:=b) (i:=blk) (x:=x) fun h=>he (by have h2:=HL.2.2.2.2.1 (mp.1 h) j (by rw[HL.2.2.2.1];exact c0);rw[ap I,HC.1] at h2;exact h2));clear I he;go_wp2_with fail;go_ret;exact⟨by rw[HN.out]<;>rfl,J.2.1⟩)
 rw[au I];by_cases he:ct=0;·(
 have t:((ct:Int) !=0)=false:=by rw[gj];omega
 have HO:=J2 I he;clear I he;go_wp2_with fail;go_roundg (b.Ng.length-(j+1))
 ·refine⟨j+1,by omega,rfl,by go_num,by rw[uP fun a ha=>(HL.2.1 a ha).1,HA.2,HC.1];go_num,rfl,fun i hi=>?_⟩
  by_cases e:i=j;·subst e;rw[HC.1,HO.2];exact⟨fun h=>absurd h HO.1,fun h=>rfl⟩
  exact HA.1 i (by omega)
 omega)
 have t:((ct:Int) !=0)=true:=by rw[bne_iff_ne];omega
 have HN:=oH (wZ (b:=b) (i:=blk) (x:=x) fun h=>he (by have h2:=HL.2.2.2.2.1 (mp.1 h) j (by rw[HL.2.2.2.1];exact c0);rw[ae I,HC.1] at h2;exact h2));clear I he;go_wp2_with fail;go_ret;exact⟨by rw[HN.out]<;>rfl,J.2.1⟩)
 obtain rfl:j=b.Ng.length:=by omega
 have c9:=Fk (l:=x.Nh) (n:=b.Ng.length) fun a ha=>(HL.2.1 a ha).2;rw[Y] at c9;have t:((cb:Int) !=(x.Nh.length:Int))=false:=by rw[gj];omega
 have HP:=oH (show lZ b x blk from mp.2 (HL.2.2.2.2.2 fun i hi=>by
  rw[HL.2.2.2.1] at hi;by_cases h:dH (bM b) i blk;·rw[ap h];exact(C i hi).1 h
  rw[ae h];exact(C i hi).2 h))
 clear C c9 Y;go_wp2_with fail;go_loopg [14] x.args.length (fun g s wr=>∃k:Nat,k≤x.args.length∧g=x.args.length-k∧s=.int .i64 k∧aa All W0 wr∧∀(m:Nat) v f,m<k→x.args[m]? =some v→x.Nh[m]? =some f→jl b v f.toNat);·exact⟨0,by omega,by omega,rfl,kR,fun m v f hm=>by omega⟩
 obtain⟨k,e6,rfl,rfl,o,C⟩:=hrel;have a1:=J.2.1.trans o;clear x0 x1 x2 x3 x4 x5 x6 x7 x8 b0 b1 b2;have d7:=J.2.2.1.kept o trivial;have d8:=J.2.2.2.1.kept o trivial;obtain⟨b0,b1,b2⟩:=d7.c3;obtain⟨x0,x1,x2,x3,x4,x5,x6,x7,x8⟩:=d8.c9;clear d7 d8;by_cases b3:k<x.args.length;·(
 have i1:k<x.Nh.length:=by omega
 obtain⟨v,hv⟩:=eG b3;obtain⟨f,hf⟩:∃f,x.Nh[k]? =some f:=⟨_,lG (by omega)⟩;obtain⟨vb,vo,c,rfl,h0,d9,rfl,h3⟩:=bn (J.2.2.2.2.2.2.1 wr a1) hv;obtain⟨fb,fo,c,rfl,h4,e0,rfl,e1⟩:=bn (J.2.2.2.2.2.2.2 wr a1) hf;obtain⟨f0,f1⟩:=HL.2.1 f (mG hf);obtain⟨v0,_⟩:=HL.2.2.1 v (mG hv);obtain⟨fn,rfl⟩:∃fn:Nat,f=fn:=⟨f.toNat,by omega⟩;have HF:=oH (show∀wn,aa All wr wn→wn.cell? ⟨w.heap.size,0,none⟩=some (.int .i64 b.params)∧wn.cell? ⟨w.heap.size,1,none⟩=some (.int .i64 b.vars)∧wn.cell? ⟨w.heap.size,2,none⟩=some (.slice B1 b.Ng.length d1)∧wn.cell? ⟨w.heap.size+1,0,none⟩=some (.int .u8 x.kind)∧wn.cell? ⟨w.heap.size+1,1,none⟩=some (.int .u8 x.op)∧wn.cell? ⟨w.heap.size+1,2,none⟩=some (.int .i64 x.dst)∧wn.cell? ⟨w.heap.size+1,3,none⟩=some (.int .i64 x.ref)∧wn.cell? ⟨w.heap.size+1,4,none⟩=some (.int .i64 x.Ni)∧wn.cell? ⟨w.heap.size+1,5,none⟩=some (.slice (some ⟨vb,vo,none⟩) x.args.length uc)∧wn.cell? ⟨w.heap.size+1,6,none⟩=some (.slice (some ⟨fb,fo,none⟩) x.Nh.length vc)∧wn.cell? ⟨w.heap.size+1,7,none⟩=some (.int .i64 x.num)∧wn.cell? ⟨w.heap.size+1,8,none⟩=some (.int .i64 x.Nj)∧wn.cell? ⟨vb,vo+k,none⟩=some (.int .i64 v)∧wn.cell? ⟨fb,fo+k,none⟩=some (.int .i64 fn) from fun wn _R=>
  ⟨(J.2.2.1.kept (o.trans _R) trivial).cell 0,(J.2.2.1.kept (o.trans _R) trivial).cell 1,(J.2.2.1.kept (o.trans _R) trivial).cell 2,(J.2.2.2.1.kept (o.trans _R) trivial).cell 0,(J.2.2.2.1.kept (o.trans _R) trivial).cell 1,(J.2.2.2.1.kept (o.trans _R) trivial).cell 2,(J.2.2.2.1.kept (o.trans _R) trivial).cell 3,(J.2.2.2.1.kept (o.trans _R) trivial).cell 4,(J.2.2.2.1.kept (o.trans _R) trivial).cell 5,(J.2.2.2.1.kept (o.trans _R) trivial).cell 6,(J.2.2.2.1.kept (o.trans _R) trivial).cell 7,(J.2.2.2.1.kept (o.trans _R) trivial).cell 8,_R.cell trivial d9,_R.cell trivial e0⟩)
 have HC:=oH (fun wn (_R:aa All wr wn)=>AW S T _ _ b v fn wn (J.2.2.2.2.1 wn (a1.trans _R)) (J.2.2.2.2.2.1 wn (a1.trans _R)) HG.out (by omega) (by omega));have HA:=J5 o a1 C hv hf;clear o a1 C hv hf h0 d9 h3 h4 e0 e1;go_wp2_with fail;by_cases he:jl b v fn;·(
 rw[av he] at HC;have HE:=oH he;clear he;refine R0 14 wr (fun i=>if i=12 then some (·=.bool true) else none) ?_;iterate 12 first|refine O4 HF.out ?_|refine O0 ?_
 refine O5 (v:=.bool true) (fun wn _R hp=>⟨_,_,by(skip;go_simp<;>with_reducible rfl),((HC.out wn _R).mono fun e w' h=>⟨h.1,_R.trans h.2,fun _ h=>by cases h⟩)⟩) ?_;refine O0 ?_;refine aG fun wt b4 hF=>?_;have HT:=oH b4;clear b4 hF;simp only[dK];go_wp2_with fail;go_roundg (x.args.length-(k+1))
 ·refine⟨k+1,by omega,rfl,by go_num,HA.1.trans HT.out,fun m v' f' hm h1 h2=>?_⟩
  by_cases e:m=k;·subst e;rw[HA.2.2.2.1] at h1;rw[HA.2.2.2.2] at h2;cases h1;cases h2;rw[dP];exact HE.out
  exact HA.2.2.1 m v' f' (by omega) h1 h2
 omega)
 rw[au he] at HC;have HE:=oH he;clear he;refine R0 14 wr (fun i=>if i=12 then some (·=.bool false) else none) ?_;iterate 12 first|refine O4 HF.out ?_|refine O0 ?_
 refine O5 (v:=.bool false) (fun wn _R hp=>⟨_,_,by(skip;go_simp<;>with_reducible rfl),((HC.out wn _R).mono fun e w' h=>⟨h.1,_R.trans h.2,fun _ h=>by cases h⟩)⟩) ?_;refine O0 ?_;refine aG fun wt b4 hF=>?_;have HT:=oH b4;clear b4 hF;simp only[dK];have HN:=oH (Cl HP.out HA.2.2.2.1 HA.2.2.2.2 (by rw[dP];exact HE.out));go_wp2_with fail;go_ret;exact⟨by rw[HN.out]<;>rfl,HA.2.1.trans HT.out⟩)
 obtain rfl:k=x.args.length:=by omega
 have HY:=oH (GC HP.out fun m v f h1 h2=>C m v f (lS.1 h1).1 h1 h2);have HK:=oH a1;clear o a1 C;go_wp2_with fail;go_ret;exact⟨by rw[HY.out]<;>rfl,HK.out⟩
end
section
theorem yn {b:aw}{k:Nat}(h:cV (kO (bM b)) b.Ng.length=k):oh b=(fQ b k,16):=by unfold oh;rw[h,ap (by omega),dP]
theorem ve {b:aw}{k:Nat}(j:cV (kO (bM b)) b.Ng.length= -1)(h:cV (iN (bM b)) b.Ng.length=k):oh b=(fQ b k,17):=by unfold oh;rw[j,ae (by decide),h,ap (by omega),dP]
open Classical in
theorem yp {b:aw}(j:cV (kO (bM b)) b.Ng.length= -1)(o:cV (iN (bM b)) b.Ng.length= -1){i:Nat}(h:dH (bM b) i 0):oh b=(fQ b 0,18):=by unfold oh;rw[j,ae (by decide),o,ae (by decide),ap ⟨i,h⟩]
open Classical in
theorem BU {b:aw}(j:cV (kO (bM b)) b.Ng.length= -1)(o:cV (iN (bM b)) b.Ng.length= -1)(h:∀i,¬dH (bM b) i 0):oh b=ls (uo b) b.Ng:=by unfold oh;rw[j,ae (by decide),o,ae (by decide),ae fun⟨i,hi⟩=>h i hi]
open Classical in
theorem Gt {b:aw}{i k:Nat}{x:bz}(h:x.kind≠3){v:Int}(j:v∈x.args)(o:¬iP b v i k):uo b i k x=19:=by unfold uo;rw[ae h,ae fun h'=>o (h' v j)]
open Classical in
theorem Kq {b:aw}{i k:Nat}{x:bz}(h:x.kind≠3)(j:∀v∈x.args,iP b v i k):uo b i k x=0:=by unfold uo;rw[ae h,ap j]
theorem GD (b:aw)(i:Nat)(x:bz):mH b i x=0∨mH b i x=18∨mH b i x=19:=by
 unfold mH;split
 ·split
  ·exact .inl rfl
  exact .inr (.inr rfl)
 exact .inr (.inl rfl)
def qk (b:aw)(w:World)(e:Ending)(j:World):Prop:=e=.returned (.tuple #[.int .i64 (oh b).1,.int .i64 (oh b).2])∧aa All w j
theorem qk.of {b:aw}{w j:World}{x y:Int}(h:oh b=(x,y))(o:aa All w j):qk b w (.returned (.tuple #[.int .i64 x,.int .i64 y])) j:=by refine⟨?_,o⟩;rw[h]
theorem yQ {b:aw}{k:Nat}{l:List bz}{x:bz}(j:b.Ng[k]? =some l)(o:l[0]? =some x):fQ b k=x.Nj:=by
 unfold fQ;have e:b.Ng.getD k []=l:=by rw[iG,j];rfl
 rw[e,iG,o];rfl
theorem DS (S:Nat→Prop)(bv:Value)(b:aw)(w:World)(hb:bW S w bv b.Ng)(hG:gY b):
 Calls prog 24 #[.agg #[.int .i64 b.params,.int .i64 b.vars,bv]] w (qk b w):=by
 have e4:=bg.la hb;obtain⟨B1,d1,rfl,m5,m6,m7,_⟩:=hb;unfold maxLen at*;have k8:=hG.blk.2;have k9:=hG.blk.1;obtain⟨W0,c7⟩:=eQ (w.alloc (.cells #[.int .i64 b.params,.int .i64 b.vars,.slice B1 b.Ng.length d1] 35));have e5:=aC1 c7;have bB:=aA0 c7;obtain⟨b0,b1,b2⟩:=bB.c3;have h9:=JH S (.slice B1 b.Ng.length d1) b W0 (e4 W0 e5) hG;have HG:=oH hG;have R:=J5 c7 e5 bB e4 h9;have e6:=oH (show∀(k:Nat),k<b.Ng.length→∃l x,b.Ng[k]? =some l∧l[0]? =some x∧fQ b k=x.Nj∧0<l.length from fun k hk=>by obtain⟨l,hl⟩:=eG hk;have h1:=(HG.out.some_ l (mG hl)).1;obtain⟨x,hx⟩:∃x,l[0]? =some x:=⟨_,lG (by omega)⟩;exact⟨l,x,hl,hx,yQ hl hx,h1⟩);clear c7 e5 bB e4 h9 hG;go_enter func24,ntmps24;go_upto_region 1 with fail;rw[←R.1];go_wp2_with fail;refine R.2.2.2.2.mono ?_;rintro e w1 ⟨u,rfl,b9,e7⟩;have c8:=aq.la b9;have c9:(bM b).length=b.Ng.length:=cS b;obtain⟨TA,tc,rfl,t1,t2,t3,_⟩:=b9;rw[c9] at t1 t3 c8⊢;unfold maxLen at t2;have b6:=DV _ _ (bM b) w1 (c8 w1 kR) (qam HG.out);have e1:=R.2.1.trans e7;rw[c9] at b6;have HT:=J5 c8 c9 b6 e7 e1;clear c8 c9 b6 e7 e1 b0 b1 b2;go_wp2_with fail;refine HT.2.2.1.mono ?_;rintro e w2 ⟨rfl,e8⟩;have d7:=oH (HT.2.2.2.1.trans e8);have e2:=oH e8;clear e8;have a1:=R.2.2.1.kept d7.out trivial;obtain⟨b0,b1,b2⟩:=a1.c3;clear a1;rcases jX (kO (bM b)) b.Ng.length with ⟨h0,_⟩|⟨k,h0,hk,_⟩
 case inr=>(
 obtain⟨l,x,hl,hx,b3,i1⟩:=e6.out k (by omega);obtain⟨rb,ro,rv,rfl,b7,b4,Y⟩:=bn (R.2.2.2.1 w2 (R.2.1.trans d7.out)) hl;obtain⟨LA,lc,rfl,l1,l2,l3,_⟩:=id Y;unfold maxLen at l2;obtain⟨xb,xo,e9,rfl,b8,a6,I,xa,xf,rfl,_⟩:=aZ Y hx;have z8:=I 8 _ rfl;rw[Nat.zero_mul,dj] at z8;have HP:=oH b3;clear hl hx b3 Y I b7 b8 a6;rw[h0];have tk:decide ((0:Int)≤(k:Int))=true:=by simp
 have HN:=oH (yn h0);clear h0;go_wp2_with fail;go_ret2;exact .of (by rw[HN.out,HP.out]) (R.2.1.trans d7.out))
 rw[h0];have H0:=oH h0;have h2:=Bb _ _ (bM b) w2 (HT.1 w2 e2.out) (qam HG.out);rw[HT.2.1] at h2;have HS:=oH h2;clear h0 h2;go_wp2_with fail;refine HS.out.mono ?_;rintro e w3 ⟨rfl,h4⟩;have a8:=oH (d7.out.trans h4);have c3:=oH (e2.out.trans h4);clear h4 b0 b1 b2;have a1:=R.2.2.1.kept a8.out trivial;obtain⟨b0,b1,b2⟩:=a1.c3;clear a1;rcases jX (iN (bM b)) b.Ng.length with ⟨h0,_⟩|⟨k,h0,hk,_⟩
 case inr=>(
 obtain⟨l,x,hl,hx,b3,i1⟩:=e6.out k (by omega);obtain⟨rb,ro,rv,rfl,b7,b4,Y⟩:=bn (R.2.2.2.1 w3 (R.2.1.trans a8.out)) hl;obtain⟨LA,lc,rfl,l1,l2,l3,_⟩:=id Y;unfold maxLen at l2;obtain⟨xb,xo,e9,rfl,b8,a6,I,xa,xf,rfl,_⟩:=aZ Y hx;have z8:=I 8 _ rfl;rw[Nat.zero_mul,dj] at z8;have HP:=oH b3;clear hl hx b3 Y I b7 b8 a6;rw[h0];have tk:decide ((0:Int)≤(k:Int))=true:=by simp
 have HN:=oH (ve H0.out h0);clear h0;go_wp2_with fail;go_ret2;exact .of (by rw[HN.out,HP.out]) (R.2.1.trans a8.out))
 rw[h0];have H1:=oH h0;clear h0;go_wp2_with fail;go_loopg [8] b.Ng.length (fun g s wr=>∃j:Nat,j≤b.Ng.length∧g=b.Ng.length-j∧s=.int .i64 j∧wr=w3∧∀i:Nat,i<j→¬dH (bM b) i 0);·exact⟨0,by omega,by omega,rfl,rfl,fun i hi=>by omega⟩
 obtain⟨j,hj,rfl,rfl,hw,o⟩:=hrel;have k4:=hw.symm;subst k4;by_cases c4:j<b.Ng.length;·(
 have HC:=J2 o (tF _ _ (bM b) j 0 w3 (HT.1 w3 c3.out) (by rw[HT.2.1];exact c4));clear o;go_wp2_with fail;refine HC.2.mono ?_;rintro e w4 ⟨rfl,hw⟩;subst hw;by_cases a7:dH (bM b) j 0;·rw[av a7];have HN:=oH (yp H0.out H1.out a7);clear a7;obtain⟨l,x,hl,hx,b3,i1⟩:=e6.out 0 (by omega);obtain⟨rb,ro,rv,rfl,b7,b4,Y⟩:=bn (R.2.2.2.1 w3 (R.2.1.trans a8.out)) hl;obtain⟨LA,lc,rfl,l1,l2,l3,_⟩:=id Y;unfold maxLen at l2;obtain⟨xb,xo,e9,rfl,b8,a6,I,xa,xf,rfl,_⟩:=aZ Y hx;have z8:=I 8 _ rfl;rw[Nat.zero_mul,dj] at z8;rw[dj] at b4;have HP:=oH b3;clear hl hx b3 Y I b7 b8 a6;go_wp2_with fail;go_ret2;exact .of (by rw[HN.out,HP.out]) (R.2.1.trans a8.out)
 rw[au a7];have HN:=oH a7;clear a7;go_wp2_with fail;go_roundg (b.Ng.length-(j+1))
 ·refine⟨j+1,by omega,rfl,by go_num,rfl,fun i hi=>?_⟩
  by_cases e:i=j;·subst e;exact HN.out
  exact HC.1 i (by omega)
 omega)
 obtain rfl:j=b.Ng.length:=by omega
 have HO:=oH (BU H0.out H1.out fun i hi=>o i (by have:=lq hi;rw[HT.2.1] at this;exact this) hi);clear o;go_wp2_with fail;go_loopg [9] b.Ng.length (fun g s wr=>∃j:Nat,j≤b.Ng.length∧g=b.Ng.length-j∧s=.int .i64 j∧aa All w3 wr∧∀(i:Nat),i<j→∀l,b.Ng[i]? =some l→∀(k:Nat) x,l[k]? =some x→uo b i k x=0);·exact⟨0,by omega,by omega,rfl,kR,fun i hi=>by omega⟩
 obtain⟨j,hj,rfl,rfl,C,o⟩:=hrel;clear b0 b1 b2;have a1:=R.2.2.1.kept (a8.out.trans C) trivial;obtain⟨b0,b1,b2⟩:=a1.c3;clear a1;by_cases c4:j<b.Ng.length;·(
 obtain⟨l,hl⟩:=eG c4;have i6:=mG hl;obtain⟨rb,ro,rv,rfl,b7,b4,Y⟩:=bn (R.2.2.2.1 wr (R.2.1.trans (a8.out.trans C))) hl;have i7:=cT.la Y;obtain⟨LA,lc,rfl,l1,l2,l3,_⟩:=Y;unfold maxLen at l2;have HA:=J6 C o hl i6 i7 b4;clear C o hl i6 i7 b7;obtain⟨wo,rfl⟩:=eQ wr;go_wp2_with fail;go_loopg [10] l.length (fun g s wr=>∃k:Nat,k≤l.length∧g=l.length-k∧s=.int .i64 k∧aa All wo wr∧∀(i:Nat),i<k→∀x,l[i]? =some x→uo b j i x=0);·exact⟨0,by omega,by omega,rfl,kR,fun i hi=>by omega⟩
 obtain⟨k,hk,rfl,rfl,C,o⟩:=hrel;have c5:aa All W0 wr:=a8.out.trans (HA.1.trans C);clear b0 b1 b2 b4;have a1:=R.2.2.1.kept c5 trivial;obtain⟨b0,b1,b2⟩:=a1.c3;clear a1;have b4:=C.cell trivial HA.2.2.2.2.2;by_cases j0:k<l.length;·(
 obtain⟨x,hx⟩:=eG j0;have j1:=mG hx;obtain⟨xb,xo,e9,rfl,b8,a6,I,xa,xf,rfl,j2,j3,k5⟩:=aZ (HA.2.2.2.2.1 wr C) hx;have j4:=ah.la j2;have j5:=ah.la j3;obtain⟨ua,uc,rfl,u1,u2,u3,_⟩:=j2;obtain⟨va,vc,rfl,_⟩:=j3;unfold maxLen at u2;have z0:=I 0 _ rfl;rw[dj] at z0;have z1:=I 1 _ rfl;have z2:=I 2 _ rfl;have z3:=I 3 _ rfl;have z4:=I 4 _ rfl;have z5:=I 5 _ rfl;have z6:=I 6 _ rfl;have z7:=I 7 _ rfl;have z8:=I 8 _ rfl;obtain⟨W5,d8⟩:=eQ (wr.alloc (.cells #[.int .u8 x.kind,.int .u8 x.op,.int .i64 x.dst,.int .i64 x.ref,.int .i64 x.Ni,.slice ua x.args.length uc,.slice va x.Nh.length vc,.int .i64 x.num,.int .i64 x.Nj] 40));have d9:=aC1 d8;have b5:=aA0 d8;obtain⟨y0,y1,y2,y3,y4,y5,y6,y7,y8⟩:=b5.c9;have e3:=R.2.2.1.kept (c5.trans d9) trivial;obtain⟨c0,c1,c2⟩:=e3.c3;have J:=J10 C o hx j1 d8 d9 b5 j4 j5 (c5.trans d9);clear C o hx j1 d8 d9 b5 j4 j5 c5 e3 I k5 b8 a6;go_upto_region 20 with fail;rw[←J.2.2.2.2.1];clear z0 z1 z2 z3 z4 z5 z6 z7 z8 b0 b1 b2 b4;by_cases h3:x.kind=3;·(
 have t3:=yK x.kind 3 (by omega);have hC:=Hf S _ (.slice (some ⟨rb,ro,none⟩) b.Ng.length d1) (.slice TA b.Ng.length tc) _ _ b x j W5 (R.2.2.2.1 W5 (R.2.1.trans J.2.2.2.2.2.2.2.2.2)) (HT.1 W5 (c3.out.trans (HA.1.trans (J.1.trans J.2.2.2.2.2.1)))) HG.out c4 (J.2.2.2.2.2.2.2.1 W5 J.2.2.2.2.2.1) (J.2.2.2.2.2.2.2.2.1 W5 J.2.2.2.2.2.1) (by have:=HG.out.phi l HA.2.2.2.1 x J.2.2.2.1 h3;exact⟨this.1,this.2.2⟩) (HG.out.Nh l HA.2.2.2.1 x J.2.2.2.1) (HG.out.args l HA.2.2.2.1 x J.2.2.2.1);have h5:uo b j k x=mH b j x:=Ck h3;have h6:=GD b j x;obtain⟨pf,j6⟩:=eR (mH b j x);rw[j6] at hC h5 h6;have HC:=J2 hC h5;clear hC h5 j6 h3;go_wp2_with fail;refine HC.1.mono ?_;rintro e w6 ⟨rfl,h7⟩;have j7:=oH h7;have j8:=J.2.2.2.2.2.2.1.kept h7 trivial;have y8:=j8.cl 8;clear h7 j8;by_cases hz:pf=0;·(
 have tz:(pf !=0)=false:=by rw[gj];exact hz
 have HZ:=oH (show uo b j k x=0 by rw[HC.2];exact hz);clear hz h6;go_wp2_with fail;go_roundg (l.length-(k+1))
 ·refine⟨k+1,by omega,rfl,by go_num,(J.1.trans J.2.2.2.2.2.1).trans j7.out,fun i hi z hz=>?_⟩
  by_cases e:i=k;·subst e;rw[J.2.2.1] at hz;cases hz;exact HZ.out
  exact J.2.1 i (by omega) z hz
 omega)
 have tz:(pf !=0)=true:=by rw[bne_iff_ne];exact hz
 have HZ:=oH (show oh b=(x.Nj,pf) by rw[HO.out,uY HA.2.2.1 J.2.2.1 (fun i hi m hm k y hy=>HA.2.1 i hi m hm k y hy) (fun i hi y hy=>J.2.1 i hi y hy) (by rw[HC.2];exact hz),HC.2]);clear hz h6;go_wp2_with fail;go_ret2;exact .of HZ.out ((R.2.1.trans J.2.2.2.2.2.2.2.2.2).trans j7.out))
 have t3:=nK x.kind 3 (by omega);have H3:=oH h3;clear h3;obtain⟨wp,rfl⟩:=eQ wr;go_wp2_with fail;go_loopg [13] x.args.length (fun g s wr=>∃m:Nat,m≤x.args.length∧g=x.args.length-m∧s=.int .i64 m∧aa All W5 wr∧∀(i:Nat) v,i<m→x.args[i]? =some v→iP b v j k);·exact⟨0,by omega,by omega,rfl,kR,fun i v hi=>by omega⟩
 obtain⟨m,hm,rfl,rfl,C,o⟩:=hrel;clear y0 y1 y2 y3 y4 y5 y6 y7 y8 c0 c1 c2;have j9:=J.2.2.2.2.2.2.1.kept C trivial;obtain⟨y0,y1,y2,y3,y4,y5,y6,y7,y8⟩:=j9.c9;clear j9;by_cases k0:m<x.args.length;·(
 obtain⟨v,hv⟩:=eG k0;have k1:aa All wp wr:=J.2.2.2.2.2.1.trans C;obtain⟨vb,vo,c,rfl,k6,k2,rfl,k7⟩:=bn (J.2.2.2.2.2.2.2.1 wr k1) hv;have v0:=(HG.out.args l HA.2.2.2.1 x J.2.2.2.1 v (mG hv)).1;have HF:=oH (show∀wn,aa All wr wn→wn.cell? ⟨w.heap.size,0,none⟩=some (.int .i64 b.params)∧wn.cell? ⟨w.heap.size,1,none⟩=some (.int .i64 b.vars)∧wn.cell? ⟨w.heap.size,2,none⟩=some (.slice (some ⟨rb,ro,none⟩) b.Ng.length d1)∧wn.cell? ⟨wp.heap.size,5,none⟩=some (.slice (some ⟨vb,vo,none⟩) x.args.length uc)∧wn.cell? ⟨vb,vo+m,none⟩=some (.int .i64 v) from fun wn hk=>
  ⟨(R.2.2.1.kept ((J.2.2.2.2.2.2.2.2.2.trans C).trans hk) trivial).cell 0,(R.2.2.1.kept ((J.2.2.2.2.2.2.2.2.2.trans C).trans hk) trivial).cell 1,(R.2.2.1.kept ((J.2.2.2.2.2.2.2.2.2.trans C).trans hk) trivial).cell 2,((J.2.2.2.2.2.2.1.kept C trivial).kept hk trivial).cell 5,hk.cell trivial k2⟩)
 have HC:=oH (fun wn (hk:aa All wr wn)=>zj S _ (.slice (some ⟨rb,ro,none⟩) b.Ng.length d1) (.slice TA b.Ng.length tc) b v j k wn (R.2.2.2.1 wn (R.2.1.trans ((J.2.2.2.2.2.2.2.2.2.trans C).trans hk))) (HT.1 wn (c3.out.trans ((HA.1.trans (J.1.trans J.2.2.2.2.2.1)).trans (C.trans hk)))) HG.out (by omega) c4);have HV:=J3 C o hv;clear C o hv k1 k6 k2 k7;go_wp2_with fail;by_cases he:iP b v j k;·(
 rw[av he] at HC;have HE:=oH he;clear he;refine R0 11 wr (fun i=>if i=9 then some (·=.bool true) else none) ?_;iterate 9 first|refine O4 HF.out ?_|refine O0 ?_
 refine O5 (v:=.bool true) (fun wn hk hp=>⟨_,_,by(skip;go_simp<;>with_reducible rfl),((HC.out wn hk).mono fun e w' h=>⟨h.1,hk.trans h.2,fun _ h=>by cases h⟩)⟩) ?_;refine O0 ?_;refine aG fun wt c6 hF=>?_;have e0:=oH c6;clear c6 hF;simp only[dK];go_wp2_with fail;go_roundg (x.args.length-(m+1))
 ·refine⟨m+1,by omega,rfl,by go_num,HV.1.trans e0.out,fun i z hi hz=>?_⟩
  by_cases e:i=m;·subst e;rw[HV.2.2] at hz;cases hz;exact HE.out
  exact HV.2.1 i z (by omega) hz
 omega)
 rw[au he] at HC;have HE:=oH he;clear he;refine R0 11 wr (fun i=>if i=9 then some (·=.bool false) else none) ?_;iterate 9 first|refine O4 HF.out ?_|refine O0 ?_
 refine O5 (v:=.bool false) (fun wn hk hp=>⟨_,_,by(skip;go_simp<;>with_reducible rfl),((HC.out wn hk).mono fun e w' h=>⟨h.1,hk.trans h.2,fun _ h=>by cases h⟩)⟩) ?_;refine O0 ?_;refine aG fun wt c6 hF=>?_;have e0:=oH c6;clear c6 hF;simp only[dK];have l0:=(J.2.2.2.2.2.2.1.kept (HV.1.trans e0.out) trivial).cl 8;have HZ:=oH (show oh b=(x.Nj,19) by have k3:=Gt (b:=b) (i:=j) (k:=k) H3.out (mG HV.2.2) HE.out;rw[HO.out,uY HA.2.2.1 J.2.2.1 (fun i hi m hm k y hy=>HA.2.1 i hi m hm k y hy) (fun i hi y hy=>J.2.1 i hi y hy) (by rw[k3];decide),k3]);go_wp2_with fail;go_ret2;exact .of HZ.out ((R.2.1.trans J.2.2.2.2.2.2.2.2.2).trans (HV.1.trans e0.out)))
 obtain rfl:m=x.args.length:=by omega
 have HB:=J2 C (Kq (b:=b) (i:=j) (k:=k) H3.out fun v hv=>by obtain⟨i,hi⟩:=cY.1 hv;exact o i v (lS.1 hi).1 hi);clear C o;go_wp2_with fail;go_roundg (l.length-(k+1))
 ·refine⟨k+1,by omega,rfl,by go_num,(J.1.trans J.2.2.2.2.2.1).trans HB.1,fun i hi z hz=>?_⟩
  by_cases e:i=k;·subst e;rw[J.2.2.1] at hz;cases hz;exact HB.2
  exact J.2.1 i (by omega) z hz
 omega)
 obtain rfl:k=l.length:=by omega
 have HB:=J2 C o;clear C o c5;go_wp2_with fail;go_roundg (b.Ng.length-(j+1))
 ·refine⟨j+1,by omega,rfl,by go_num,HA.1.trans HB.1,fun i hi l2 h8 k x hx=>?_⟩
  by_cases e:i=j;·subst e;rw[HA.2.2.1] at h8;cases h8;exact HB.2 k (lS.1 hx).1 x hx
  exact HA.2.1 i (by omega) l2 h8 k x hx
 omega)
 obtain rfl:j=b.Ng.length:=by omega
 have HN:=oH (show oh b=(0,0) by rw[HO.out];exact yj fun i l hl=>o i (lS.1 hl).1 l hl);have HK:=oH C;clear C o;go_wp2_with fail;go_ret2;exact .of HN.out (R.2.1.trans (a8.out.trans HK.out))
end
theorem ng (k:Nat)(w:World):Calls prog 140 #[.int .u8 k] w fun e j=>e=.returned (.bool (decide (11≤k)))∧w=j:=by
 by_cases h:11≤k
 ·have t:decide ((11:Int)≤(k:Int))=true:=by simp;omega
  rw[bL h];have H:=oH h;clear h;go_enter func140,ntmps140;go_wp2;go_ret;exact⟨rfl,rfl⟩
 have t:decide ((11:Int)≤(k:Int))=false:=by simp;omega
 rw[cI h];have H:=oH h;clear h;go_enter func140,ntmps140;go_wp2;go_ret;exact⟨rfl,rfl⟩
def Ky (l:List cX)(i:Nat)(x:cX):Prop:=(11≤x.kind→i+1=l.length)∧(x.kind=3→i=0∨∃y,l[i-1]? =some y∧y.kind=3)
def vZ (l:List cX):Prop:=∃x,l[l.length-1]? =some x∧11≤x.kind
theorem nz {l:List cX}:mQ (l.map fun x=>x.kind)↔vZ l∧∀(i:Nat) x,l[i]? =some x→Ky l i x:=by
 constructor;·(
 rintro⟨Y,h1,h2⟩;have o:0<l.length:=by
  rcases l with _|⟨a,l⟩;·exact absurd rfl Y
  simp
 refine⟨?_,fun i x j=>⟨fun h=>?_,fun h=>?_⟩⟩
 ·obtain⟨x,j⟩:∃x,l[l.length-1]? =some x:=⟨_,lG (by omega)⟩
  exact⟨x,j,(h1 (l.length-1) x.kind (by rw[cL,j];rfl)).2 (by rw[ce];omega)⟩
 ·have:=(h1 i x.kind (by rw[cL,j];rfl)).1 h
  rwa [ce] at this
 rcases i with _|i;·exact .inl rfl
 have:=h2 i (by rw[cL,j];exact congrArg some h);rw[cL] at this;obtain⟨y,C,I⟩:=oE.1 this;exact .inr ⟨y,by simpa using C,I⟩)
 rintro⟨⟨z,hz,I⟩,h⟩;have o:0<l.length:=by have:=(lS.1 hz).1;omega
 refine⟨fun e=>?_,fun i k hi=>?_,fun i hi=>?_⟩;·rw[List.map_eq_nil_iff] at e;subst e;simp at o
 ·rw[cL] at hi;obtain⟨x,j,rfl⟩:=oE.1 hi;rw[ce];refine⟨(h i x j).1,fun e=>?_⟩;have e':i=l.length-1:=by omega
  subst e';rw[hz] at j;cases j;exact I
 rw[cL] at hi;obtain⟨x,j,J⟩:=oE.1 hi;rcases (h (i+1) x j).2 J with Y|⟨y,C,R⟩;·omega
 rw[cL,show l[i]? =some y by simpa using C];exact congrArg some R
def Cs (p:aH)(q:dN)(f:cD)(b:eS)(w:World)(e:Ending)(j:World):Prop:=
 ql (mQ (b.code.map fun x=>x.kind)∧∀x∈b.code,mO p q f x) (fun e j=>aa All w j∧∃u,e=.returned u∧tZ (fun b=>w.heap.size≤b∧b<j.heap.size) j u (b.code.map (pg p q f))) w e j
theorem FT:(prog.info? 40).map (fun i=>(i.zero,i.size,i.bytes))=some (some (.agg #[.int .u8 0,.int .u8 0,.int .i64 0,.int .i64 0,.int .i64 0,.slice none 0 0,.slice none 0 0,.int .i64 0,.int .i64 0]),9,96):=by kernel_rfl
abbrev Kb:=dR 9 40 KD
theorem CD (S:Nat→Prop)(br:Nat)(p:aH)(q:dN)(f:cD)(b:eS)(b1 b2:Nat)(bv:Value)(w:World)(hr:rV S w br p q)(i1:cK w b1 (cn f))(i6:cK w b2 (bh f))(i7:Im S w bv b.code)(j0:aV b.Nj)
 (hI:∀x∈b.code,aV (dv p q f x)∧aV (dy f x)) (hd:∀x∈b.code,x.dst=gR∨x.dst∈bh f) (hz:∀x∈b.code,x.args.length≤1048576∧x.Nh.length≤1048576) (hv:(bh f).length≤1000000000) (hb:(cn f).length≤1000000000) (hl:b.code.length≤1048576):
 Calls prog 90 #[.pointer (some ⟨br,0,none⟩),.agg #[.map (some b1),.map (some b2)],.agg #[.string b.name,bv,.int .i64 b.Nj]] w (Cs p q f b w):=by
 obtain⟨iO,d9⟩:=iH FT;have hV:=it.la i7;obtain⟨cA,cc,rfl,u1,u2,u3,_⟩:=i7;unfold maxLen at u2;obtain⟨W1,b8⟩:=eQ ((w.alloc (.cells #[.map (some b1),.map (some b2)] 167)).alloc (.cells #[.string b.name,.slice cA b.code.length cc,.int .i64 b.Nj] 171));have j1:=aD2 b8;have j2:=aC2 b8;have bS:=aA1 b8;have bB:=aB0 b8 aE1;have c1:=bB.cl 1;have HW:=J5 b8 j1 j2 bS bB;have HM:=J8 hr i1 i6 hV j0 hI hd hz;clear b8 j1 j2 bS bB hr i1 i6 hV j0 hI hd hz;go_enter func90,ntmps90;go_upto_region 1 with fail;rw[←HW.1];go_upto_region 2 with fail;go_cut [] (fun wx=>aa All W1 wx∧vZ b.code)
 case first=>(
 have b0:=oH HM.2.2.2.2.1;rcases Nat.eq_zero_or_pos b.code.length with h0|h0
 case' inl=>(
 have J:=oH (show false=true↔vZ b.code from⟨fun h=>(by cases h),fun⟨x,hx,_⟩=>by have:=(lS.1 hx).1;omega⟩);have HB:=oH (show∀wn,aa All W1 wn→wn.cell? ⟨w.heap.size+1,1,none⟩=some (.slice cA b.code.length cc)∧wn.cell? ⟨w.heap.size+1,2,none⟩=some (.int .i64 b.Nj)∧True from fun wn o=>⟨(HW.2.2.2.2.kept o trivial).cell 1,(HW.2.2.2.2.kept o trivial).cell 2,trivial⟩);have t0:decide ((1:Int)≤(b.code.length:Int))=false:=by simp;omega
 clear h0;obtain⟨t,tE⟩:=eQ true;have HE:=oH trivial)
 case' inr=>(
 obtain⟨m,hm⟩:∃m:Nat,b.code.length=m+1:=⟨b.code.length-1,by omega⟩;obtain⟨x,hx⟩:∃x,b.code[m]? =some x:=⟨_,lG (by omega)⟩;obtain⟨xb,xo,k6,rfl,k7,j3,R,xa,xf,rfl,_,_,j4⟩:=aZ (HM.2.2.2.1 W1 HW.2.2.1) hx;have z0:=R 0 _ rfl;rw[dj] at z0;have HB:=oH (show∀wn,aa All W1 wn→wn.cell? ⟨w.heap.size+1,1,none⟩=some (.slice (some ⟨xb,xo,none⟩) b.code.length cc)∧wn.cell? ⟨w.heap.size+1,2,none⟩=some (.int .i64 b.Nj)∧wn.cell? ⟨xb,xo+m*9,none⟩=some (.int .u8 x.kind) from fun wn o=>⟨(HW.2.2.2.2.kept o trivial).cell 1,(HW.2.2.2.2.kept o trivial).cell 2,o.cell trivial z0⟩);clear R z0;have t0:decide ((1:Int)≤(b.code.length:Int))=true:=by simp;omega
 have tm:(if(b.code.length:Int)-1<0 then(0:Int) else(b.code.length:Int)-1)=(m:Int):=by split<;>omega
 have tl:m<b.code.length:=by omega
 have hx:b.code[b.code.length-1]? =some x:=by rw[show b.code.length-1=m by omega];exact hx
 have e9:vZ b.code↔11≤x.kind:=⟨fun⟨y,hy,k8⟩=>by rw[hx] at hy;cases hy;exact k8,fun h=>⟨x,hx,h⟩⟩;have l9:=oH hm;clear hx hm;have HE:=oH (fun wn=>ng x.kind wn);obtain⟨t,ht⟩:=eR (decide (11≤x.kind));rw[ht] at HE;refine Or.elim (Classical.em (11≤x.kind)) (fun o=>?p1) (fun o=>?n1)
 case' p1=>have J:=oH (show true=true↔vZ b.code from⟨fun _=>e9.2 o,fun _=>rfl⟩);have tE:=bL o;rw[ht] at tE;clear o e9 ht
 case' n1=>have J:=oH (show false=true↔vZ b.code from⟨fun h=>(by cases h),fun h=>absurd (e9.1 h) o⟩);have tE:=cI o;rw[ht] at tE;clear o e9 ht)
 all_goals
  refine RN 15 14 W1 (fun i=>if i=14 then some (·=.tuple #[]) else if i=10 then some (·=.bool t) else none) J (fun _ _ _ h hd=>⟨hd,.inr ⟨fun h1=>h.1 (nz.1 h1.1).1,h.stop HW.2.2.1⟩⟩) ?_;repeat first
  |refine O0 ?_
  |refine O2 ?_
  |refine O4 HB.out ?_
  first
  |(refine O8 (C:=fun _=>True) (fun _ _=>trivial) (fun wn o=>(HE.out wn).mono fun e w' h=>⟨h.1,h.2▸o,fun _ h=>by cases h⟩) ?_
    rw[tE];repeat first
    |refine O0 ?_
    |refine O2 ?_
    |refine O4 HB.out ?_)
  |skip
  first
  |refine O9 true (C:=fun _=>True) (fun _ _=>trivial) (fun wn o=>ZR (n:=15) b0.out (by decide) (by unfold aV;omega) J.2 o) ?_
  |refine O9 false (C:=fun _=>True) (fun _ _=>trivial) (fun wn o=>ZR (n:=15) b0.out (by decide) (by unfold aV;omega) J.2 o) ?_
  refine ZS fun hd wt a6 _=>?_;have HT:=J2 a6 (J.1 (by first|(simp;done)|(simp at hd;done)|simpa using hd));clear a6 hd;simp only[dK];go_wp2_with fail;go_meet;exact⟨HT.1,HT.2⟩)
 obtain⟨h4,c2⟩:=hcut;obtain⟨wz,rfl⟩:=eQ wc;have d1:=(HW.2.2.2.2.kept h4 trivial).cl 1;have J:=J2 h4 c2;clear h4 c2 c1;go_wp2_with fail;go_loopg [8,33] b.code.length (fun g s8 k9 wr=>∃j:Nat,j≤b.code.length∧g=b.code.length-j∧k9=.int .i64 j∧Kb wz.heap.size wr s8 ((b.code.map (pg p q f)).take j)∧aa All wz wr∧∀(i:Nat) x,i<j→b.code[i]? =some x→Ky b.code i x∧mO p q f x);·exact⟨0,by omega,by omega,rfl,dR.nil,kR,fun i a h=>by omega⟩
 obtain⟨j,hj,rfl,rfl,a1,b3,b6⟩:=hrel;obtain⟨E,ep,rfl⟩:=a1.form;have h5:((b.code.map (pg p q f)).take j).length=j:=by rw[fN,ce];omega
 rw[h5] at a1⊢;have c3:aa All w wr:=(HW.2.2.1.trans J.1).trans b3;by_cases l0:j<b.code.length;·(
 obtain⟨x,hx⟩:=eG l0;have c4:=mG hx;have hV:=HM.2.2.2.1 wr c3;obtain⟨xb,xo,k6,rfl,k7,j3,R,xa,xf,rfl,j5,j6,j4⟩:=aZ hV hx;have j7:=ax.la j5;have j8:=ax.la j6;obtain⟨ua,uc,rfl,_⟩:=j5;obtain⟨va,vc,rfl,_⟩:=j6;have z0:=R 0 _ rfl;rw[dj] at z0;have z1:=R 1 _ rfl;have z2:=R 2 _ rfl;have z3:=R 3 _ rfl;have z4:=R 4 _ rfl;have z5:=R 5 _ rfl;have z6:=R 6 _ rfl;have z7:=R 7 _ rfl;have z8:=R 8 _ rfl;obtain⟨W2,h2⟩:=eQ (wr.alloc (.cells #[.int .u8 x.kind,.int .u8 x.op,.string x.dst,.string x.ref,.string x.Ni,.slice ua x.args.length uc,.slice va x.Nh.length vc,.int .i64 x.num,.int .i64 x.Nj] 185));have b4:=aC1 h2;have j9:al W2 wr.heap.size 185 #[.int .u8 x.kind,.int .u8 x.op,.string x.dst,.string x.ref,.string x.Ni,.slice ua x.args.length uc,.slice va x.Nh.length vc,.int .i64 x.num,.int .i64 x.Nj]:=by rw[h2];exact ac rfl
 have l1:=oH (show∀y,0<j→b.code[j-1]? =some y→∀wn,aa All wr wn→wn.cell? ⟨xb,xo+(j-1)*9,none⟩=some (.int .u8 y.kind) from fun y _ hy wn o=>by obtain⟨b',o',m9,he,_,_,l2,a',f',rfl,_⟩:=aZ hV hy;injection he with he;injection he with l3 l4;subst l3 l4;have:=l2 0 _ rfl;rw[dj] at this;exact o.cell trivial this);have I:=oH (show∀wn,aa All W2 wn→∀i,wn.cell? ⟨wr.heap.size,i,none⟩=(#[.int .u8 x.kind,.int .u8 x.op,.string x.dst,.string x.ref,.string x.Ni,.slice ua x.args.length uc,.slice va x.Nh.length vc,.int .i64 x.num,.int .i64 x.Nj]:Array Value)[i]? from fun wn o i=>(j9.kept o trivial).cell i);have c5:=oH (show∀wn,aa All W2 wn→wn.cell? ⟨w.heap.size+1,1,none⟩=some (.slice (some ⟨xb,xo,none⟩) b.code.length cc)∧wn.cell? ⟨w.heap.size,0,none⟩=some (.map (some b1))∧wn.cell? ⟨w.heap.size,1,none⟩=some (.map (some b2)) from fun wn o=>⟨((((HW.2.2.2.2.kept J.1 trivial).kept b3 trivial).kept b4 trivial).kept o trivial).cell 1,((((HW.2.2.2.1.kept J.1 trivial).kept b3 trivial).kept b4 trivial).kept o trivial).cell 0,((((HW.2.2.2.1.kept J.1 trivial).kept b3 trivial).kept b4 trivial).kept o trivial).cell 1⟩);have HR:=J10 a1 b3 b6 c3 hx h2 b4 j7 j8 j4;clear a1 b3 b6 c3 hx h2 b4 j7 j8 hV R j9;go_upto_region 7 with fail;rw[←HR.2.2.2.2.2.1];have b0:=oH HR.2.2.2.2.2.2.2.2.2.Nj;go_cut [] (fun wx=>aa All W2 wx∧(11≤x.kind→j+1=b.code.length))
 case first=>(
 have HB:=oH (show∀wn,aa All W2 wn→wn.cell? ⟨wr.heap.size,0,none⟩=some (.int .u8 x.kind)∧wn.cell? ⟨wr.heap.size,8,none⟩=some (.int .i64 x.Nj)∧wn.cell? ⟨w.heap.size+1,1,none⟩=some (.slice (some ⟨xb,xo,none⟩) b.code.length cc) from fun wn o=>⟨I.out wn o 0,I.out wn o 8,(c5.out wn o).1⟩);have HE:=oH (fun wn=>ng x.kind wn);obtain⟨t,ht⟩:=eR (decide (11≤x.kind));rw[ht] at HE;refine Or.elim (Classical.em (11≤x.kind)) (fun o=>?p2) (fun o=>?n2)
 case' p2=>
  have tE:=bL o;rw[ht] at tE;clear ht;refine Or.elim (Classical.em (j+1=b.code.length)) (fun c0=>?p3) (fun c0=>?n3)
  case' p3=>(
 have te:((j:Int)==(b.code.length:Int)-1)=true:=by rw[cy];omega
 have J:=oH (show true=true↔(11≤x.kind→j+1=b.code.length) from⟨fun _ _=>c0,fun _=>rfl⟩);have n0:=oH c0;clear o c0)
  case' n3=>(
 have te:((j:Int)==(b.code.length:Int)-1)=false:=by rw[bE];omega
 have J:=oH (show false=true↔(11≤x.kind→j+1=b.code.length) from⟨fun h=>(by cases h),fun h=>absurd (h o) c0⟩);clear o c0)
 case' n2=>(have tE:=cI o;rw[ht] at tE;clear ht;have J:=oH (show true=true↔(11≤x.kind→j+1=b.code.length) from⟨fun _ h=>absurd h o,fun _=>rfl⟩);clear o)
 all_goals
  refine RN 12 11 W2 (fun i=>if i=11 then some (·=.tuple #[]) else if i=2 then some (·=.bool t) else none) J (fun _ _ _ h hd=>⟨hd,.inr ⟨fun h1=>h.1 ((nz.1 h1.1).2 j x HR.2.2.2.2.1).1,h.stop (HR.2.2.2.1.trans HR.2.2.2.2.2.2.1)⟩⟩) ?_;repeat first
  |refine O0 ?_
  |refine O2 ?_
  |refine O4 HB.out ?_
  first
  |(refine O8 (C:=fun _=>True) (fun _ _=>trivial) (fun wn o=>(HE.out wn).mono fun e w' h=>⟨h.1,h.2▸o,fun _ h=>by cases h⟩) ?_
    rw[tE];repeat first
    |refine O0 ?_
    |refine O2 ?_
    |refine O4 HB.out ?_)
  |skip
  first
  |refine O9 true (C:=fun _=>True) (fun _ _=>trivial) (fun wn o=>ZR (n:=15) b0.out (by decide) (by unfold aV;omega) J.2 o) ?_
  |refine O9 false (C:=fun _=>True) (fun _ _=>trivial) (fun wn o=>ZR (n:=15) b0.out (by decide) (by unfold aV;omega) J.2 o) ?_
  refine ZS fun hd wt a6 _=>?_;have HT:=J2 a6 (J.1 (by first|(simp;done)|(simp at hd;done)|simpa using hd));clear a6 hd;simp only[dK];go_wp2_with fail;go_meet;exact HT.out)
 obtain⟨k0,h7⟩:=hcut;obtain⟨w7,rfl⟩:=eQ wc;have H7:=J2 k0 h7;clear k0 h7;go_upto_region 8 with fail;go_cut [] (fun wx=>aa All W2 wx∧(x.kind=3→j=0∨∃y,b.code[j-1]? =some y∧y.kind=3))
 case first=>(
 have hC:∀h:x.kind=3,(j=0∨∃y,b.code[j-1]? =some y∧y.kind=3)→(x.kind=3→j=0∨∃y,b.code[j-1]? =some y∧y.kind=3):=fun _ h _=>h;refine Or.elim (Classical.em (x.kind=3)) (fun h3=>?p4) (fun h3=>?n4)
 case' p4=>
  have t3:=wK x.kind 3 (by omega);refine Or.elim (Classical.em (j=0)) (fun c6=>?p5) (fun c6=>?n5)
  case' p5=>(
 have tz:((j:Int)==0)=true:=by rw[cy];omega
 have HB:=oH (show∀wn,aa All w7 wn→wn.cell? ⟨wr.heap.size,0,none⟩=some (.int .u8 x.kind)∧wn.cell? ⟨wr.heap.size,8,none⟩=some (.int .i64 x.Nj)∧wn.cell? ⟨w.heap.size+1,1,none⟩=some (.slice (some ⟨xb,xo,none⟩) b.code.length cc) from fun wn o=>⟨I.out wn (H7.1.trans o) 0,I.out wn (H7.1.trans o) 8,(c5.out wn (H7.1.trans o)).1⟩);have J:=oH (show true=true↔(x.kind=3→j=0∨∃y,b.code[j-1]? =some y∧y.kind=3) from⟨fun _ _=>.inl c6,fun _=>rfl⟩);clear h3 c6 hC)
  case' n5=>(
 obtain⟨y,hy⟩:∃y,b.code[j-1]? =some y:=⟨_,lG (by omega)⟩;have HB:=oH (show∀wn,aa All w7 wn→wn.cell? ⟨wr.heap.size,0,none⟩=some (.int .u8 x.kind)∧wn.cell? ⟨wr.heap.size,8,none⟩=some (.int .i64 x.Nj)∧wn.cell? ⟨w.heap.size+1,1,none⟩=some (.slice (some ⟨xb,xo,none⟩) b.code.length cc)∧wn.cell? ⟨xb,xo+(j-1)*9,none⟩=some (.int .u8 y.kind) from fun wn o=>⟨I.out wn (H7.1.trans o) 0,I.out wn (H7.1.trans o) 8,(c5.out wn (H7.1.trans o)).1,l1.out y (by omega) hy wn (HR.2.2.2.2.2.2.1.trans (H7.1.trans o))⟩);obtain⟨m,rfl⟩:∃m,j=m+1:=⟨j-1,by omega⟩;simp only[Nat.add_sub_cancel] at HB;have tz:((m:Int)+1==0)=false:=by rw[bE];omega
 have tm:m<b.code.length:=by omega
 have n7:m≤1048576:=by omega
 have tw:IntKind.i64.wrap (m:Int)=(m:Int):=by rw[IntKind.wrap_i64];omega
 refine Or.elim (Classical.em (y.kind=3)) (fun hp=>?p6) (fun hp=>?n6)
 case' p6=>have tp:=yK y.kind 3 (by omega);have J:=oH (show true=true↔(x.kind=3→m+1=0∨∃y,b.code[m+1-1]? =some y∧y.kind=3) from⟨fun _ _=>.inr ⟨y,hy,hp⟩,fun _=>rfl⟩);clear h3 hy hp c6 hC
 case' n6=>(
 have tp:=nK y.kind 3 (by omega);have J:=oH (show false=true↔(x.kind=3→m+1=0∨∃y,b.code[m+1-1]? =some y∧y.kind=3) from⟨fun h=>(by cases h),fun h=>by
  rcases h h3 with h0|⟨y2,k1,b4⟩;·omega
  rw[hy] at k1;cases k1;exact absurd b4 hp⟩)
 clear h3 hy hp c6 hC))
 case' n4=>have t3:=mK x.kind 3 (by omega);have HB:=oH (show∀wn,aa All w7 wn→wn.cell? ⟨wr.heap.size,0,none⟩=some (.int .u8 x.kind)∧wn.cell? ⟨wr.heap.size,8,none⟩=some (.int .i64 x.Nj)∧wn.cell? ⟨w.heap.size+1,1,none⟩=some (.slice (some ⟨xb,xo,none⟩) b.code.length cc) from fun wn o=>⟨I.out wn (H7.1.trans o) 0,I.out wn (H7.1.trans o) 8,(c5.out wn (H7.1.trans o)).1⟩);have J:=oH (show true=true↔(x.kind=3→j=0∨∃y,b.code[j-1]? =some y∧y.kind=3) from⟨fun _ h=>absurd h h3,fun _=>rfl⟩);clear h3 hC
 all_goals
  refine RN 20 19 w7 (fun i=>if i=19 then some (·=.tuple #[]) else none) J (fun _ _ _ h hd=>⟨hd,.inr ⟨fun h1=>h.1 ((nz.1 h1.1).2 _ x HR.2.2.2.2.1).2,h.stop ((HR.2.2.2.1.trans HR.2.2.2.2.2.2.1).trans H7.1)⟩⟩) ?_;repeat first
  |refine O0 ?_
  |refine O2 ?_
  |refine O4 HB.out ?_
  first
  |refine O9 true (C:=fun _=>True) (fun _ _=>trivial) (fun wn o=>ZR (n:=18) b0.out (by decide) (by unfold aV;omega) J.2 o) ?_
  |refine O9 false (C:=fun _=>True) (fun _ _=>trivial) (fun wn o=>ZR (n:=18) b0.out (by decide) (by unfold aV;omega) J.2 o) ?_
  refine ZS fun hd wt a6 _=>?_;have HT:=J2 a6 (J.1 (by first|(simp;done)|(simp at hd;done)|simpa using hd));clear a6 hd;simp only[dK];go_wp2_with fail;go_meet;exact⟨H7.1.trans HT.1,HT.2⟩)
 obtain⟨Y,h8⟩:=hcut;obtain⟨w8,rfl⟩:=eQ wc;have h6:=c5.out w8 Y;have s0:=h6.2.1;have s1:=h6.2.2;have e0:=I.out w8 Y 0;have e1:=I.out w8 Y 1;have e2:=I.out w8 Y 2;have e3:=I.out w8 Y 3;have e4:=I.out w8 Y 4;have e5:=I.out w8 Y 5;have e6:=I.out w8 Y 6;have e7:=I.out w8 Y 7;have e8:=I.out w8 Y 8;simp only[gc] at e0 e1 e2 e3 e4 e5 e6 e7 e8;have a7:aa All wr w8:=HR.2.2.2.2.2.2.1.trans Y;have a8:aa All w w8:=HR.2.2.2.1.trans a7;have k2:=Ls S br p q f x b1 b2 _ _ w8 (HM.1.keep a8) (HM.2.1.keep a8 trivial) (HM.2.2.1.keep a8 trivial) (HR.2.2.2.2.2.2.2.1 w8 a7) (HR.2.2.2.2.2.2.2.2.1 w8 a7) HR.2.2.2.2.2.2.2.2.2 (HM.2.2.2.2.2.1 x c4) (HM.2.2.2.2.2.2.1 x c4) (HM.2.2.2.2.2.2.2 x c4) hv hb;have H8:=J5 k2 a7 a8 h8 c4;clear h6 Y h8 k2 a7 a8 c4;go_wp2_with fail;refine H8.1.mono ?_;rintro e w9 (⟨c7,b5,dd,rr,ss,y1,y2,y3,v1,v2,v3,rfl,hE⟩|⟨c7,⟨an,nn,hn,ha,hi,rfl⟩,b5⟩)
 case inr=>have HS:=J5 c7 hn ha hi b5;clear c7 hn ha hi b5;go_wp2_with fail;exact⟨rfl,.inr ⟨fun h=>HS.1 (h.2 x H8.2.2.2.2),⟨an,nn,HS.2.1,HS.2.2.1,HS.2.2.2.1,rfl⟩,H8.2.2.1.trans HS.2.2.2.2⟩⟩
 obtain⟨W9,c8⟩:=eQ (w9.alloc (.cells #[.int .u8 x.kind,.int .u8 x.op,.int .i64 dd,.int .i64 rr,.int .i64 ss,.slice y1 y2 y3,.slice v1 v2 v3,.int .i64 x.num,.int .i64 x.Nj] 40));have b7:=aC1 c8;have b9:=aA0 c8;have h9:=aD1 c8;have l7:=eE h9;have l8:=eE h9.symm;have n8:=H8.2.1.size;have n9:=b5.size;have o0:=HR.2.1.size;have c9:Kb wz.heap.size W9 (.slice E j ep) ((b.code.map (pg p q f)).take j):=HR.1.keep sH ((H8.2.1.trans b5).trans b7) fun _ _ _=>trivial;have H9:=J6 c8 b9 c9 (sH.keep b7.all hE) ((H8.2.1.trans b5).trans b7) c7;clear c8 b7 b9 h9 c9 hE c7 b5 e0 e1 e2 e3 e4 e5 e6 e7 e8 s0 s1 z0 z1 z2 z3 z4 z5 z6 z7 z8;go_wp2_with (
  at_builtin;go_loud (
  rw[←H9.1];refine bN (E:=KD) _ sH rfl (.tmp 70) (.tmp 75) 36 rfl iO _ 96 underlying36 d9.1 d9.2.1 d9.2.2.1 d9.2.2.2 rfl (by decide) _ _ rfl H9.2.2.1 w9.heap.size 0 1 rfl [.int .u8 x.kind,.int .u8 x.op,.int .i64 dd,.int .i64 rr,.int .i64 ss,.slice y1 y2 y3,.slice v1 v2 v3,.int .i64 x.num,.int .i64 x.Nj] (pg p q f x) rfl ?_ ?_ (by rw[h5];omega) (by omega) ?_ (fun b=>w8.heap.size≤b∧b<w9.heap.size) ?_ ?_ ?_;·intro j u hu;rw[cN,H9.2.1.cell,List.getElem?_toArray];exact hu
  ·intro u hu;simp only[fX,List.not_mem_nil,or_false] at hu;rcases hu with rfl|rfl|rfl|rfl|rfl|rfl|rfl|rfl|rfl<;>rfl
  ·omega
  ·intro b hb;have o1:w8.heap.size≤b∧b<w9.heap.size:=hb;obtain⟨_,l5⟩:=HR.1.own;exact⟨by omega,by omega,fun e=>by have:=(aD l5 e).2;omega⟩
  ·exact H9.2.2.2.1
  intro D2 o2 w4 d7 k3 k4;have H4:=J3 d7 k3 k4;clear d7 k3 k4))
 go_roundg (b.code.length-(j+1))
 ·refine⟨j+1,by omega,rfl,by go_num,?_,(HR.2.1.trans H9.2.2.2.2.1).grown H4.2.1 fun b hb=>.inr (H4.2.2 b hb),fun i' y hi hy=>?_⟩
  ·have e:(b.code.map (pg p q f)).take (j+1)=(b.code.map (pg p q f)).take j++[pg p q f x]:=by rw[cU,cL,HR.2.2.2.2.1];rfl
   rw[e];have h3:=H4.1;rw[h5] at h3;exact h3
  by_cases e:i'=j;·subst e;rw[HR.2.2.2.2.1] at hy;injection hy with hy;subst hy;exact⟨⟨H7.2,H8.2.2.2.1⟩,H9.2.2.2.2.2⟩
  exact HR.2.2.1 i' y (by omega) hy
 omega)
 obtain rfl:j=b.code.length:=by omega
 rw[oF (by rw[ce];omega)] at a1;have d8:∀(i:Nat) x,b.code[i]? =some x→Ky b.code i x∧mO p q f x:=fun i x hx=>b6 i x (lS.1 hx).1 hx;have hO:=a1.read (bw:=96) sH (by rw[ce];omega);have k5:=J.1.size;have l6:=HW.2.2.1.size;have HQ:=J3 (cT.wide (fun b (hb:wz.heap.size≤b∧b<wr.heap.size)=>show w.heap.size≤b∧b<wr.heap.size by omega) hO) d8 c3;clear a1 b3 b6 d8 hO c3 k5 l6;go_wp2_with fail;go_ret;exact .inl ⟨⟨nz.2 ⟨J.2,fun i x hx=>(HQ.2.1 i x hx).1⟩,fun x hx=>by obtain⟨i,hi⟩:=List.getElem?_of_mem hx;exact(HQ.2.1 i x hi).2⟩,HQ.2.2,_,rfl,HQ.1⟩
end Go.Proofs.YtccbbkopmlnkpaaGreatDoor
