/- Part 11 of the proof of CallsShallow (its last part says what is proved). No condition. -/
import Derived.Test.YtncdbjponknakaaGreatDoorK9
namespace Go.Proofs.YtncdbjponknakaaGreatDoor
set_option maxRecDepth 100000
set_option maxHeartbeats 8000000
open Go.RowKit Go.Proofs.Tryz
theorem lR (l:List ByteArray)(s:ByteArray): -1≤aO l s∧aO l s<(l.length:Int)+1:=kT _ _
theorem Ca {S:Nat→Prop}{w:World}{v:Value}{l:List Int}(h:aK S w v l):aK (fun b=>S b∧b<w.heap.size) w v l:=by obtain⟨a,cap,o,C,J,R,h⟩:=h;refine⟨a,cap,o,C,J,R,fun i x Y=>?_⟩;obtain⟨b,off,c,e,Z,j,he⟩:=h i x Y;exact⟨b,off,c,e,⟨Z,jy w _ j⟩,j,he⟩
theorem iw {n:Int}(h:aV n):(Lit.int .i64 n).wf=true:=by unfold aV at h;simp[Lit.wf,IntKind.min,IntKind.max,IntKind.signed,IntKind.bits];omega
theorem Ko {p:aH}{q:dN}{f:cD}{x:cX}{d r s:Int}{S:Nat→Prop}{w:World}{l a2:Option Addr}{o C J R:Nat}(Z:(if x.dst=gR then-1 else aO (bh f) x.dst)=d)(hr:dv p q f x=r)(hs:dy f x=s)(h1:aK S w (.slice l o C) (x.args.map (aO (bh f))))(h2:aK S w (.slice a2 J R) (x.Nh.map (aO (cn f))))(j:uB x)(Y:aV (dv p q f x)∧aV (dy f x))(hD:aV d):
 KD S w [.int .u8 x.kind,.int .u8 x.op,.int .i64 d,.int .i64 r,.int .i64 s,.slice l o C,.slice a2 J R,.int .i64 x.num,.int .i64 x.Nj] (pg p q f x):=by
 subst Z hr hs;exact⟨_,_,rfl,h1,h2,j.kind,j.op,hD,Y.1,Y.2,j.num,j.Nj⟩
def KC (p:aH)(q:dN)(f:cD)(x:cX)(w:World)(e:Ending)(w':World):Prop:=
 ql (mO p q f x) (fun e w'=>aa All w w'∧∃(d r s:Int) (a1:Option Addr) (n1 c1:Nat) (a2:Option Addr) (n2 c2:Nat),e=.returned (.agg #[.int .u8 x.kind,.int .u8 x.op,.int .i64 d,.int .i64 r,.int .i64 s,.slice a1 n1 c1,.slice a2 n2 c2,.int .i64 x.num,.int .i64 x.Nj])∧
  KD (fun b=>w.heap.size≤b∧b<w'.heap.size) w' [.int .u8 x.kind,.int .u8 x.op,.int .i64 d,.int .i64 r,.int .i64 s,.slice a1 n1 c1,.slice a2 n2 c2,.int .i64 x.num,.int .i64 x.Nj] (pg p q f x)) w e w'
theorem Ls (S:Nat→Prop)(br:Nat)(p:aH)(q:dN)(f:cD)(x:cX)(b1 b2:Nat)(xa xf:Value)(w:World)(hr:rV S w br p q)(l5:cK w b1 (cn f))(l6:cK w b2 (bh f))(l7:gB S w xa x.args)(l8:gB S w xf x.Nh)(hx:uB x)
 (hI:aV (dv p q f x)∧aV (dy f x)) (hd:x.dst=gR∨x.dst∈bh f) (hz:x.args.length≤1048576∧x.Nh.length≤1048576) (hv:(bh f).length≤1000000000) (Z:(cn f).length≤1000000000):
 Calls prog 167 #[.pointer (some ⟨br,0,none⟩),.agg #[.map (some b1),.map (some b2)],.agg #[.int .u8 x.kind,.int .u8 x.op,.string x.dst,.string x.ref,.string x.Ni,xa,xf,.int .i64 x.num,.int .i64 x.Nj]] w (KC p q f x w):=by
 obtain⟨i3,l9,m0,m1,m2⟩:=info_parts yw;have I3:=J4 l9 m0 m1 m2;clear l9 m0 m1 m2;obtain⟨z1,z2⟩:=hz;have m3:=ax.la l7;have m4:=ax.la l8;obtain⟨ua,uc,rfl,u1,u2,u3,_⟩:=l7;obtain⟨va,vc,rfl,v1,v2,v3,_⟩:=l8;unfold maxLen at u2 v2;obtain⟨W2,e5⟩:=eQ ((((w.alloc (.cells #[.map (some b1),.map (some b2)] 249)).alloc (.cells #[.int .u8 x.kind,.int .u8 x.op,.string x.dst,.string x.ref,.string x.Ni,.slice ua x.args.length uc,.slice va x.Nh.length vc,.int .i64 x.num,.int .i64 x.Nj] 231)).alloc (.cells #[.int .u8 0,.int .u8 0,.int .i64 0,.int .i64 0,.int .i64 0,.slice none 0 0,.slice none 0 0,.int .i64 0,.int .i64 0] 47)).alloc (.cells #[.int .u8 x.kind,.int .u8 x.op,.int .i64 (-1),.int .i64 0,.int .i64 0,.slice none 0 0,.slice none 0 0,.int .i64 x.num,.int .i64 x.Nj] 47));have k9:W2.heap.size=w.heap.size+4:=by rw[e5];simp
 have j3:aa All w W2:=by rw[e5];exact(((kR.alloc _).alloc _).alloc _).alloc _
 have bS:al W2 w.heap.size 249 #[.map (some b1),.map (some b2)]:=by rw[e5];exact(((al.new _ _ _).alloc _).alloc _).alloc _
 have bX:al W2 (w.heap.size+1) 231 #[.int .u8 x.kind,.int .u8 x.op,.string x.dst,.string x.ref,.string x.Ni,.slice ua x.args.length uc,.slice va x.Nh.length vc,.int .i64 x.num,.int .i64 x.Nj]:=by rw[e5];exact((ac (by simp)).alloc _).alloc _
 have bO:al W2 (w.heap.size+1+1) 47 #[.int .u8 0,.int .u8 0,.int .i64 0,.int .i64 0,.int .i64 0,.slice none 0 0,.slice none 0 0,.int .i64 0,.int .i64 0]:=by rw[e5];exact(ac (by simp)).alloc _
 have bY:al W2 (w.heap.size+1+1+1) 47 #[.int .u8 x.kind,.int .u8 x.op,.int .i64 (-1),.int .i64 0,.int .i64 0,.slice none 0 0,.slice none 0 0,.int .i64 x.num,.int .i64 x.Nj]:=by rw[e5];exact ac (by simp)
 have X0:∀i,W2.cell? ⟨w.heap.size+1,i,none⟩=(#[.int .u8 x.kind,.int .u8 x.op,.string x.dst,.string x.ref,.string x.Ni,.slice ua x.args.length uc,.slice va x.Nh.length vc,.int .i64 x.num,.int .i64 x.Nj]:Array Value)[i]?:=fun i=>bX.cell i;have g0:=bX.cell 0;have g1:=bX.cell 1;have g2:=bX.cell 2;have g3:=bX.cell 3;have g4:=bX.cell 4;have g5:=bX.cell 5;have g6:=bX.cell 6;have g7:=bX.cell 7;have g8:=bX.cell 8;have s0:=bS.cell 0;have s1:=bS.cell 1;simp only[gc] at g0 g1 g2 g3 g4 g5 g6 g7 g8 s0 s1;have HW:=J7 e5 k9 j3 bS bX bO bY;have HM:=J8 hr l5 l6 m3 m4 hx hI hd;clear e5 k9 j3 bS bX bO bY X0 hr l5 l6 m3 m4 hx hI hd;go_enter func167,ntmps167;go_upto_region 2 with fail;rw[←HW.1];go_wp2_with fail;refine(GO S br p q f x b1 b2 _ _ W2 (HM.1.keep HW.2.2.1) (HM.2.1.keep HW.2.2.1 trivial) (HM.2.2.2.1 _ HW.2.2.1) (HM.2.2.2.2.1 _ HW.2.2.1) HM.2.2.2.2.2.1).mono ?_;rintro e w3 (⟨i1,rfl,h9⟩|⟨i1,⟨an,nn,hn,ha,hi,rfl⟩,h9⟩)
 case inr=>have HS:=J5 i1 hn ha hi h9;clear i1 hn ha hi h9;go_wp2_with fail;exact⟨rfl,.inr ⟨fun h=>HS.1 ⟨h.1,h.2.1⟩,⟨an,nn,HS.2.1,HS.2.2.1,HS.2.2.2.1,rfl⟩,HW.2.2.1.trans HS.2.2.2.2⟩⟩
 clear g0 g1 g2 g3 g4 g5 g6 g7 g8 s0 s1;obtain⟨r,hr⟩:=eR (dv p q f x);obtain⟨s,hs⟩:=eR (dy f x);rw[hr,hs];have i0:=HW.2.2.2.2.2.2.kept h9 trivial;have y3:=i0.cell 3;have y4:=i0.cell 4;have f3:=i0.free 3;have f4:=i0.free 4;simp only[gc] at y3 y4;obtain⟨W4,j4⟩:=eQ ((w3.setCell ⟨w.heap.size+1+1+1,3,none⟩ (.int .i64 r)).setCell ⟨w.heap.size+1+1+1,4,none⟩ (.int .i64 s));have j5:aa (fun b=>b≠w.heap.size+1+1+1) W2 W4:=by rw[j4];exact(h9.all.setCell (.inl fun h=>h rfl) _).setCell (.inl fun h=>h rfl) _
 have b4:al W4 (w.heap.size+1+1+1) 47 #[.int .u8 x.kind,.int .u8 x.op,.int .i64 (-1),.int .i64 r,.int .i64 s,.slice none 0 0,.slice none 0 0,.int .i64 x.num,.int .i64 x.Nj]:=by rw[j4];simpa using(i0.set 3 (.int .i64 r)).set 4 (.int .i64 s)
 have p9:=j5.size;have k9:=eE HW.2.1.symm;have m5:=HW.2.2.2.2.1.kept j5 (by show _≠_;omega);have x5:=m5.cell 5;simp only[gc] at x5;have H4:=J6 j4 j5 b4 i1 hr hs;clear j4 j5 b4 i1 hr hs m5 i0 h9;go_upto_region 3 with fail;rw[←H4.1];clear y3 y4 f3 f4;go_wp2_with fail;have m6:=oH (show aa All w W4 from am (HW.2.2.1.all.trans (H4.2.1.mono fun b Z=>by show b≠_;omega)));have h7:=oH H4.2.1;go_loopg [33] x.args.length (fun g t wr=>∃(j:Nat) (v5:Value),j≤x.args.length∧g=x.args.length-j∧t=.int .i64 j∧aa (fun b=>b≠w.heap.size+1+1+1) W4 wr∧al wr (w.heap.size+1+1+1) 47 #[.int .u8 x.kind,.int .u8 x.op,.int .i64 (-1),.int .i64 r,.int .i64 s,v5,.slice none 0 0,.int .i64 x.num,.int .i64 x.Nj]∧wr.ownsRow W4.heap.size 3 1 v5 j (aI ((x.args.map (aO (bh f))).take j))∧∀(i:Nat) a,i<j→x.args[i]? =some a→a∈bh f);·exact⟨0,_,by omega,by omega,rfl,kR,H4.2.2.1,⟨rfl,.inl ⟨rfl,rfl⟩⟩,fun i a h=>by omega⟩
 obtain⟨j,v5,hj,rfl,rfl,R,a1,J,b0⟩:=hrel;have m7:=R.size;have b8:aa All w wr:=am ((m6.out).all.trans (R.mono fun b Z=>by show b≠_;omega));obtain⟨E1,d9,rfl⟩:=aU J;by_cases l0:j<x.args.length;·(
 obtain⟨a,ha⟩:=eG l0;obtain⟨bb,o,cc,rfl,n8,n9,rfl⟩:=bn (HM.2.2.2.1 wr b8) ha;have l1:a.size≤140737488355328:=HM.2.2.2.2.2.1.args a (mG ha);have hq:∀wn,aa All wr wn→wn.cell? ⟨w.heap.size+1+1+1,5,none⟩=some (.slice E1 j d9)∧wn.cell? ⟨w.heap.size,1,none⟩=some (.map (some b2))∧wn.cell? ⟨w.heap.size+1,8,none⟩=some (.int .i64 x.Nj):=fun wn C=>
  ⟨(a1.kept C trivial).cell 5,(((HW.2.2.2.1.kept h7.out (by show _≠_;omega)).kept R (by show _≠_;omega)).kept C trivial).cell 1,(((HW.2.2.2.2.1.kept h7.out (by show _≠_;omega)).kept R (by show _≠_;omega)).kept C trivial).cell 8⟩
 have HL:=oH (fun wn (C:aa All wr wn)=>lQ b2 (bh f) a x.Nj wn (HM.2.2.1.keep (b8.trans C) trivial) l1 HM.2.2.2.2.2.1.Nj);have HR:=J7 R a1 J b0 hq ha b8;have i2:=lR (bh f) a;obtain⟨n,hn⟩:=eR (aO (bh f) a);rw[hn] at HL i2;have h0:=oH hn;clear R a1 J b0 hq ha b8 hn;go_wp2_with fail;by_cases hf:0≤n;·(
 have HF:=oH hf;refine R1 9 wr [45] (fun _ v wn=>∃g,v=.slice (some ⟨g,0,none⟩) 1 1∧wr.heap.size≤g∧al wn g 3 #[.int .i64 n]) (fun i=>if i=7 then some (·=.int .i64 n) else if i=8 then some (fun v=>∃g,v=.slice (some ⟨g,0,none⟩) 1 1) else none) ?_;refine O0 ?_;refine O4 HR.2.2.2.2.1 ?_;refine O0 ?_;refine O4 HR.2.2.2.2.1 ?_;iterate 2 refine O0 ?_
 refine O4 HR.2.2.2.2.1 ?_;refine O5 (v:=.int .i64 n) (fun wn C hp=>⟨_,_,by(obtain⟨e0,e1,e2⟩:=HR.2.2.2.2.1 wn C;go_simp<;>with_reducible rfl),(HL.out wn C).mono fun e w' h=>?_⟩) ?_
 ·rcases h with ⟨_,h1,rfl⟩|⟨h1,_⟩
  ·exact⟨h1,C,fun _ _ _ h=>h⟩
  exact absurd HF.out h1
 refine O6 (fun wn C hp=>?_) (fun wn C hp=>?_) ?_
 ·go_simp
  exact⟨rfl,⟨_,rfl⟩,C.alloc _,fun t _ v ⟨g,e,h1,h2⟩=>⟨g,e,h1,h2.alloc _⟩,fun d hd hT=>⟨_,rfl,C.size,al.new _ _ _⟩⟩
 ·exact⟨.slice (some ⟨wn.heap.size,0,none⟩) 1 1,wn.alloc (.cells #[.int .i64 n] 3),⟨_,rfl⟩,C.alloc _,fun t _ v ⟨g,e,h1,h2⟩=>⟨g,e,h1,h2.alloc _⟩,fun d hd hT=>⟨_,rfl,C.size,al.new _ _ _⟩⟩
 rintro v ⟨g,rfl⟩;simp only[PS];refine aG fun wt b3 hF=>?_;obtain⟨g',e,o9,i4⟩:=hF 45 (by simp) _ rfl;iterate 3 injection e with e
 subst e;simp only[dK];have a6:=be HR.2.2.1 b3 (fun _ _=>trivial);have b9:=HR.2.1.kept b3 trivial;have b5:=i4.cell 0;have m8:=b3.size;simp only[gc] at b5;have HT:=J3 b3 b9 b5;clear b3 b9 i4 hF hf;go_wp2_with (
  at_builtin;go_loud (
  refine aR _ rfl (.tmp 38) (.tmp 45) 45 rfl W4.heap.size 3 i3 _ 1 8 underlying45 I3.1 I3.2.1 I3.2.2.1 I3.2.2.2 rfl (by decide) _ _ _ rfl a6 (some ⟨g,0,none⟩) 1 1 [.int .i64 n] rfl rfl ?_ ?_ (by unfold maxLen;omega) (by omega) (by omega) ?_;·(
 intro _;exact⟨_,_,rfl,fun j u hu=>by
  rcases j with _|j;·rw[cN,HT.2.2];exact hu
  simp at hu⟩)
  ·intro u hu
   rw[cx.1 hu];rfl
  intro v2 w4 a7 h5 e6;obtain⟨C2,i5,rfl⟩:=aU a7;have b6:=HT.2.1.grown h5 (fun e=>by have:=(aD a6 e.symm).1;omega);have y5:=b6.cell 5;have f5:=b6.free 5;simp only[gc] at y5;have H2:=J4 b6 a7 h5 e6;clear b6 a7 h5 e6))
 go_roundg (x.args.length-(j+1));·(
 refine⟨j+1,.slice C2 (j+1) i5,by omega,rfl,by go_num,(((HR.1.trans HT.1.all).grown H2.2.2.1 fun b Z=>.inr (aD a6 Z).1).setCell (.inl fun h=>h rfl) _),?_,?_,?_⟩
 ·have:=H2.1.set 5 (.slice C2 (j+1) i5)
  simpa using this
 ·have e:aI ((x.args.map (aO (bh f))).take (j+1))=aI ((x.args.map (aO (bh f))).take j)++[.int .i64 n]:=by rw[cU,cL,HR.2.2.2.2.2.1,←h0.out];simp[aI]
  rw[e];exact be H2.2.1 ((aa.refl (fun b=>b≠w.heap.size+1+1+1) _).setCell (.inl fun h=>h rfl) _) fun b Z=>by have:=(aD H2.2.1 Z).1;show b≠_;omega
 intro i a' hi c9;by_cases e:i=j;·subst e;rw[HR.2.2.2.2.2.1] at c9;injection c9 with c9;subst c9;exact cm.1 (by rw[h0.out];exact HF.out)
 exact HR.2.2.2.1 i a' (by omega) c9)
 omega)
 have HF:=oH hf;have l2:=oH (show¬mO p q f x from fun h=>hf (by rw[←h0.out];exact cm.2 (h.2.2.1 a (mG HR.2.2.2.2.2.1))));refine bq 9 (aa All wr) [] (fun _ _ _=>True) (fun i=>if i=7 then some (·=.int .i64 0) else if i=8 then some (fun v=>∃g,v=.slice (some ⟨g,0,none⟩) 1 1) else none) (fun i=>decide (i=7)) (fun ch wn=>∃a n:Int,n≠0∧aV a∧aV n∧ch=[{v:=.iface 236 (.agg #[.int .i64 a,.int .i64 n]),recovered:=false}]∧aa All wr wn) (by kernel_rfl) (by kernel_rfl) (by kernel_rfl) (by kernel_rfl) kR.drew ?_ ?_
 ·rintro a ch wn ⟨an,nn,i6,i7,j0,rfl,j1⟩ j2
  exact⟨j2,.inr ⟨l2.out,⟨an,nn,i6,i7,j0,rfl⟩,HR.2.2.2.2.2.2.trans j1⟩⟩
 simp only[tK];clear hf;refine O0 ?_;refine O4 HR.2.2.2.2.1 ?_;refine O0 ?_;refine O4 HR.2.2.2.2.1 ?_;iterate 2 refine O0 ?_
 refine O4 HR.2.2.2.2.1 ?_;refine O7 (.int .i64 0) (fun wn C hp=>⟨_,_,by(obtain⟨e0,e1,e2⟩:=HR.2.2.2.2.1 wn C;go_simp<;>with_reducible rfl),((HL.out wn C).mono fun e w' h=>?_)⟩) ?_
 ·rcases h with ⟨h1,_⟩|⟨_,⟨an,nn,h1,h2,h3,rfl⟩,h4⟩
  ·exact absurd h1 HF.out
  exact⟨_,rfl,an,nn,h1,h2,h3,rfl,C.trans h4⟩
 refine O6 (fun wn C hp=>?_) (fun wn C hp=>?_) ?_
 ·go_simp
  exact⟨rfl,⟨_,rfl⟩,C.alloc _,fun _ _ _ h=>h,fun d hd hT=>by cases hT⟩
 ·exact⟨.slice (some ⟨wn.heap.size,0,none⟩) 1 1,wn.alloc (.cells #[.int .i64 0] 3),⟨_,rfl⟩,C.alloc _,fun _ _ _ h=>h,fun d hd hT=>by cases hT⟩
 intro v _;exact dG)
 obtain rfl:j=x.args.length:=by omega
 rw[oF (by rw[ce];omega)] at J;have d7:∀a∈x.args,a∈bh f:=fun a ha=>by obtain⟨i,hi⟩:=List.getElem?_of_mem ha;exact b0 i a (lS.1 hi).1 hi
 have hint:=Ca (jr (S:=fun b=>W4.heap.size≤b) J (by rw[ce]) (by rw[ce];omega) (fun g hg=>(aD J hg).1) fun y hy=>by obtain⟨a,_,rfl⟩:=dr.1 hy;have:=lR (bh f) a;exact iw (by unfold aV;omega));have m9:=(HW.2.2.2.2.1.kept h7.out (by show _≠_;omega)).kept R (by show _≠_;omega);have x6:=m9.cell 6;simp only[gc] at x6;obtain⟨wo,rfl⟩:=eQ wr;have HO:=J4 R a1 hint d7;have n0:=oH b8;have h8:=oH (h7.out.trans R);clear R a1 J b0 d7 hint b8 m9;go_wp2_with fail;go_loopg [52] x.Nh.length (fun g t wr=>∃(j:Nat) (v5:Value),j≤x.Nh.length∧g=x.Nh.length-j∧t=.int .i64 j∧aa (fun b=>b≠w.heap.size+1+1+1) wo wr∧al wr (w.heap.size+1+1+1) 47 #[.int .u8 x.kind,.int .u8 x.op,.int .i64 (-1),.int .i64 r,.int .i64 s,.slice E1 x.args.length d9,v5,.int .i64 x.num,.int .i64 x.Nj]∧wr.ownsRow wo.heap.size 3 1 v5 j (aI ((x.Nh.map (aO (cn f))).take j))∧∀(i:Nat) a,i<j→x.Nh[i]? =some a→a∈cn f);·exact⟨0,_,by omega,by omega,rfl,kR,HO.2.1,⟨rfl,.inl ⟨rfl,rfl⟩⟩,fun i a h=>by omega⟩
 obtain⟨j,v5,hj,rfl,rfl,R,a1,J,b0⟩:=hrel;have m7:=R.size;have b8:aa All w wr:=am ((n0.out).all.trans (R.mono fun b Z=>by show b≠_;omega));obtain⟨E2,e3,rfl⟩:=aU J;by_cases l0:j<x.Nh.length;·(
 obtain⟨a,ha⟩:=eG l0;obtain⟨bb,o,cc,rfl,n8,n9,rfl⟩:=bn (HM.2.2.2.2.1 wr b8) ha;have l1:a.size≤140737488355328:=HM.2.2.2.2.2.1.Nh a (mG ha);have hq:∀wn,aa All wr wn→wn.cell? ⟨w.heap.size+1+1+1,6,none⟩=some (.slice E2 j e3)∧wn.cell? ⟨w.heap.size,0,none⟩=some (.map (some b1))∧wn.cell? ⟨w.heap.size+1,8,none⟩=some (.int .i64 x.Nj):=fun wn C=>
  ⟨(a1.kept C trivial).cell 6,(((HW.2.2.2.1.kept h8.out (by show _≠_;omega)).kept R (by show _≠_;omega)).kept C trivial).cell 0,(((HW.2.2.2.2.1.kept h8.out (by show _≠_;omega)).kept R (by show _≠_;omega)).kept C trivial).cell 8⟩
 have HL:=oH (fun wn (C:aa All wr wn)=>lQ b1 (cn f) a x.Nj wn (HM.2.1.keep (b8.trans C) trivial) l1 HM.2.2.2.2.2.1.Nj);have HR:=J7 R a1 J b0 hq ha b8;have i2:=lR (cn f) a;obtain⟨n,hn⟩:=eR (aO (cn f) a);rw[hn] at HL i2;have h0:=oH hn;clear R a1 J b0 hq ha b8 hn;go_wp2_with fail;by_cases hf:0≤n;·(
 have HF:=oH hf;refine R1 9 wr [64] (fun _ v wn=>∃g,v=.slice (some ⟨g,0,none⟩) 1 1∧wr.heap.size≤g∧al wn g 3 #[.int .i64 n]) (fun i=>if i=7 then some (·=.int .i64 n) else if i=8 then some (fun v=>∃g,v=.slice (some ⟨g,0,none⟩) 1 1) else none) ?_;refine O0 ?_;refine O4 HR.2.2.2.2.1 ?_;refine O0 ?_;refine O4 HR.2.2.2.2.1 ?_;iterate 2 refine O0 ?_
 refine O4 HR.2.2.2.2.1 ?_;refine O5 (v:=.int .i64 n) (fun wn C hp=>⟨_,_,by(obtain⟨e0,e1,e2⟩:=HR.2.2.2.2.1 wn C;go_simp<;>with_reducible rfl),(HL.out wn C).mono fun e w' h=>?_⟩) ?_
 ·rcases h with ⟨_,h1,rfl⟩|⟨h1,_⟩
  ·exact⟨h1,C,fun _ _ _ h=>h⟩
  exact absurd HF.out h1
 refine O6 (fun wn C hp=>?_) (fun wn C hp=>?_) ?_
 ·go_simp
  exact⟨rfl,⟨_,rfl⟩,C.alloc _,fun t _ v ⟨g,e,h1,h2⟩=>⟨g,e,h1,h2.alloc _⟩,fun d hd hT=>⟨_,rfl,C.size,al.new _ _ _⟩⟩
 ·exact⟨.slice (some ⟨wn.heap.size,0,none⟩) 1 1,wn.alloc (.cells #[.int .i64 n] 3),⟨_,rfl⟩,C.alloc _,fun t _ v ⟨g,e,h1,h2⟩=>⟨g,e,h1,h2.alloc _⟩,fun d hd hT=>⟨_,rfl,C.size,al.new _ _ _⟩⟩
 rintro v ⟨g,rfl⟩;simp only[PS];refine aG fun wt b3 hF=>?_;obtain⟨g',e,o9,i4⟩:=hF 64 (by simp) _ rfl;iterate 3 injection e with e
 subst e;simp only[dK];have a6:=be HR.2.2.1 b3 (fun _ _=>trivial);have b9:=HR.2.1.kept b3 trivial;have b5:=i4.cell 0;have m8:=b3.size;simp only[gc] at b5;have HT:=J3 b3 b9 b5;clear b3 b9 i4 hF hf;go_wp2_with (
  at_builtin;go_loud (
  refine aR _ rfl (.tmp 57) (.tmp 64) 45 rfl wo.heap.size 3 i3 _ 1 8 underlying45 I3.1 I3.2.1 I3.2.2.1 I3.2.2.2 rfl (by decide) _ _ _ rfl a6 (some ⟨g,0,none⟩) 1 1 [.int .i64 n] rfl rfl ?_ ?_ (by unfold maxLen;omega) (by omega) (by omega) ?_;·(
 intro _;exact⟨_,_,rfl,fun j u hu=>by
  rcases j with _|j;·rw[cN,HT.2.2];exact hu
  simp at hu⟩)
  ·intro u hu
   rw[cx.1 hu];rfl
  intro v2 w4 a7 h5 e6;obtain⟨C2,i5,rfl⟩:=aU a7;have b6:=HT.2.1.grown h5 (fun e=>by have:=(aD a6 e.symm).1;omega);have y5:=b6.cell 6;have f5:=b6.free 6;simp only[gc] at y5;have H2:=J4 b6 a7 h5 e6;clear b6 a7 h5 e6))
 go_roundg (x.Nh.length-(j+1));·(
 refine⟨j+1,.slice C2 (j+1) i5,by omega,rfl,by go_num,(((HR.1.trans HT.1.all).grown H2.2.2.1 fun b Z=>.inr (aD a6 Z).1).setCell (.inl fun h=>h rfl) _),?_,?_,?_⟩
 ·have:=H2.1.set 6 (.slice C2 (j+1) i5)
  simpa using this
 ·have e:aI ((x.Nh.map (aO (cn f))).take (j+1))=aI ((x.Nh.map (aO (cn f))).take j)++[.int .i64 n]:=by rw[cU,cL,HR.2.2.2.2.2.1,←h0.out];simp[aI]
  rw[e];exact be H2.2.1 ((aa.refl (fun b=>b≠w.heap.size+1+1+1) _).setCell (.inl fun h=>h rfl) _) fun b Z=>by have:=(aD H2.2.1 Z).1;show b≠_;omega
 intro i a' hi c9;by_cases e:i=j;·subst e;rw[HR.2.2.2.2.2.1] at c9;injection c9 with c9;subst c9;exact cm.1 (by rw[h0.out];exact HF.out)
 exact HR.2.2.2.1 i a' (by omega) c9)
 omega)
 have HF:=oH hf;have l2:=oH (show¬mO p q f x from fun h=>hf (by rw[←h0.out];exact cm.2 (h.2.2.2.1 a (mG HR.2.2.2.2.2.1))));refine bq 9 (aa All wr) [] (fun _ _ _=>True) (fun i=>if i=7 then some (·=.int .i64 0) else if i=8 then some (fun v=>∃g,v=.slice (some ⟨g,0,none⟩) 1 1) else none) (fun i=>decide (i=7)) (fun ch wn=>∃a n:Int,n≠0∧aV a∧aV n∧ch=[{v:=.iface 236 (.agg #[.int .i64 a,.int .i64 n]),recovered:=false}]∧aa All wr wn) (by kernel_rfl) (by kernel_rfl) (by kernel_rfl) (by kernel_rfl) kR.drew ?_ ?_
 ·rintro a ch wn ⟨an,nn,i6,i7,j0,rfl,j1⟩ j2
  exact⟨j2,.inr ⟨l2.out,⟨an,nn,i6,i7,j0,rfl⟩,HR.2.2.2.2.2.2.trans j1⟩⟩
 simp only[tK];clear hf;refine O0 ?_;refine O4 HR.2.2.2.2.1 ?_;refine O0 ?_;refine O4 HR.2.2.2.2.1 ?_;iterate 2 refine O0 ?_
 refine O4 HR.2.2.2.2.1 ?_;refine O7 (.int .i64 0) (fun wn C hp=>⟨_,_,by(obtain⟨e0,e1,e2⟩:=HR.2.2.2.2.1 wn C;go_simp<;>with_reducible rfl),((HL.out wn C).mono fun e w' h=>?_)⟩) ?_
 ·rcases h with ⟨h1,_⟩|⟨_,⟨an,nn,h1,h2,h3,rfl⟩,h4⟩
  ·exact absurd h1 HF.out
  exact⟨_,rfl,an,nn,h1,h2,h3,rfl,C.trans h4⟩
 refine O6 (fun wn C hp=>?_) (fun wn C hp=>?_) ?_
 ·go_simp
  exact⟨rfl,⟨_,rfl⟩,C.alloc _,fun _ _ _ h=>h,fun d hd hT=>by cases hT⟩
 ·exact⟨.slice (some ⟨wn.heap.size,0,none⟩) 1 1,wn.alloc (.cells #[.int .i64 0] 3),⟨_,rfl⟩,C.alloc _,fun _ _ _ h=>h,fun d hd hT=>by cases hT⟩
 intro v _;exact dG)
 obtain rfl:j=x.Nh.length:=by omega
 rw[oF (by rw[ce];omega)] at J;have d7:∀a∈x.Nh,a∈cn f:=fun a ha=>by obtain⟨i,hi⟩:=List.getElem?_of_mem ha;exact b0 i a (lS.1 hi).1 hi
 have hint:=Ca (jr (S:=fun b=>wo.heap.size≤b) J (by rw[ce]) (by rw[ce];omega) (fun g hg=>(aD J hg).1) fun y hy=>by obtain⟨a,_,rfl⟩:=dr.1 hy;have:=lR (cn f) a;exact iw (by unfold aV;omega));have HQ:=J5 R a1 hint d7 b8;have l3:=HW.2.2.2.2.1.kept (h8.out.trans R) (by show _≠_;omega);have x0:=l3.cell 0;simp only[gc] at x0;have HX:=oH l3;have n1:=oH (h8.out.trans R);clear R a1 J b0 d7 hint b8 l3;clear x6;go_upto_if 70 with fail;go_cut [] (fun wx=>aa All wr wx∧(x.kind=7→∀g,q.Nf[r.toNat]? =some g→x.args.length=g.params.length))
 case first=>(
 by_cases e7:x.kind=7;·(
 have t7:=yK x.kind 7 (by omega);have l4:r=aO (fh q) x.ref:=by rw[←H4.2.2.2.2.1];unfold dv;simp[e7]
 have p0:0≤r:=by rw[←H4.2.2.2.2.1];exact H4.2.2.2.1.1
 have p1:r.toNat<q.Nf.length:=by obtain⟨k,C,j3⟩:=yS (cm.1 (by rw[←l4];exact p0));have:=(lS.1 j3).1;unfold fh at this;rw[ce] at this;rw[l4,C];simpa using this
 have q0:r<(q.Nf.length:Int):=by omega
 obtain⟨g,hg⟩:=eG p1;obtain⟨q1,vu,vi,vo,pa,pf,ba,q2,R1,R2,⟨q3,q4,j6,p2,R3⟩,R4,R5⟩:=HM.1.keep HQ.2.2.2.2;iterate 2 injection j6 with j6
 simp only[List.cons.injEq,and_true] at j6;obtain⟨rfl,rfl⟩:=j6;obtain⟨fA,fc,rfl,q5,q6,q7,_⟩:=id R3;obtain⟨gb,go,q8,rfl,q9,p8,n2,gp,gv,rfl,p3,p4,_⟩:=aZ R3 hg;obtain⟨p5,p6,rfl,_⟩:=p3;have j8:=n2 1 _ rfl;have n3:∀wn,aa All wr wn→wn.cell? ⟨br,6,none⟩=some (.slice (some ⟨gb,go,none⟩) q.Nf.length fc)∧wn.cell? ⟨gb,go+r.toNat*4+1,none⟩=some (.slice p5 g.params.length p6)∧wn.cell? ⟨w.heap.size+1+1+1,3,none⟩=some (.int .i64 r)∧wn.cell? ⟨w.heap.size+1,5,none⟩=some (.slice ua x.args.length uc)∧wn.cell? ⟨w.heap.size+1,8,none⟩=some (.int .i64 x.Nj):=fun wn C=>
  ⟨C.cell trivial (R1.cell 6),C.cell trivial j8,(HQ.2.1.kept C trivial).cell 3,(HX.out.kept C trivial).cell 5,(HX.out.kept C trivial).cell 8⟩
 have HY:=J3 n3 hg e7;have p7:=oH HM.2.2.2.2.2.1.Nj;clear n3 R1 R2 p2 R3 R4 R5 n2 j8 p4 hg l4 e7;go_upto_region 14 with fail;by_cases hn:x.args.length=g.params.length
 ·have tn:((x.args.length:Int)==(g.params.length:Int))=true:=by rw[cy];omega
  have HN:=oH hn;clear hn;refine R0 18 wr (fun i=>if i=17 then some (·=.tuple #[]) else none) ?_;refine O0 ?_;refine O4 HY.1 ?_;iterate 5 refine O0 ?_
  refine O4 HY.1 ?_;refine O0 ?_;refine O4 HY.1 ?_;iterate 2 refine O0 ?_
  refine O4 HY.1 ?_;iterate 3 refine O0 ?_
  refine O4 HY.1 ?_;refine O5 (v:=.tuple #[]) (fun wn C hp=>⟨_,_,by(go_simp<;>with_reducible rfl),(dX x.Nj 13 wn).mono fun e w' h=>⟨h.1,h.2▸C,fun _ h=>by cases h⟩⟩) ?_;refine aG fun wt b3 hF=>?_;have HT:=oH b3;clear b3 hF;simp only[dK];go_wp2_with fail;go_meet;exact⟨HT.out,fun _ g' n4=>by rw[HY.2.1] at n4;cases n4;exact HN.out⟩
 have tn:((x.args.length:Int)==(g.params.length:Int))=false:=by rw[bE];omega
 have HN:=oH (show¬mO p q f x from fun h=>hn (h.2.2.2.2 HY.2.2 g (by rw[H4.2.2.2.2.1];exact HY.2.1)));clear hn;refine bq 18 (aa All wr) [] (fun _ _ _=>True) (fun i=>if i=17 then some (·=.tuple #[]) else none) (fun i=>decide (i=17)) (fun ch wn=>∃a n:Int,n≠0∧aV a∧aV n∧ch=[{v:=.iface 236 (.agg #[.int .i64 a,.int .i64 n]),recovered:=false}]∧aa All wr wn) (by kernel_rfl) (by kernel_rfl) (by kernel_rfl) (by kernel_rfl) kR.drew ?_ ?_
 ·rintro a ch wn ⟨an,nn,i6,i7,j0,rfl,j1⟩ j2
  exact⟨j2,.inr ⟨HN.out,⟨an,nn,i6,i7,j0,rfl⟩,HQ.2.2.2.2.trans j1⟩⟩
 simp only[tK];refine O0 ?_;refine O4 HY.1 ?_;iterate 5 refine O0 ?_
 refine O4 HY.1 ?_;refine O0 ?_;refine O4 HY.1 ?_;iterate 2 refine O0 ?_
 refine O4 HY.1 ?_;iterate 3 refine O0 ?_
 refine O4 HY.1 ?_;refine O7 (.tuple #[]) (fun wn C hp=>⟨_,_,by(go_simp<;>with_reducible rfl),(fP x.Nj 13 wn).mono fun e w' h=>⟨_,h.1,x.Nj,13,by decide,p7.out,by unfold aV;omega,rfl,h.2▸C⟩⟩) ?_;exact dG)
 have t7:=nK x.kind 7 (by omega);have HN:=oH e7;clear e7;go_wp2_with fail;go_meet;exact⟨kR,fun h=>absurd h HN.out⟩)
 obtain⟨a8,e4⟩:=hcut;have b7:=HQ.2.1.kept a8 trivial;have n5:=HX.out.kept a8 trivial;have j7:=(HW.2.2.2.2.2.1.kept n1.out (by show _≠_;omega)).kept a8 trivial;have n6:=(HW.2.2.2.1.kept n1.out (by show _≠_;omega)).kept a8 trivial;have x2:=n5.cell 2;have s1:=n6.cell 1;have fy:=b7.free 2;have yy:=b7.cell 2;have nr:=jY x.dst;simp only[gc] at x2 s1 yy;clear n5 n6;by_cases h6:x.dst=gR
 ·rw[bL h6] at nr;have HD:=oH h6;clear h6;have l:=j7;have y0:=b7.cell 0;have y1:=b7.cell 1;have y2:=b7.cell 2;have y3:=b7.cell 3;have y4:=b7.cell 4;have y5:=b7.cell 5;have y6:=b7.cell 6;have y7:=b7.cell 7;have y8:=b7.cell 8;have o0:=l.cell 0;have o1:=l.cell 1;have o2:=l.cell 2;have o3:=l.cell 3;have o4:=l.cell 4;have o5:=l.cell 5;have o6:=l.cell 6;have o7:=l.cell 7;have o8:=l.cell 8;have k0:=l.free 0;have k1:=l.free 1;have k2:=l.free 2;have k3:=l.free 3;have k4:=l.free 4;have k5:=l.free 5;have k6:=l.free 6;have k7:=l.free 7;have k8:=l.free 8;have Y:=(((((((((l.set 0 (.int .u8 x.kind)).set 1 (.int .u8 x.op)).set 2 (.int .i64 (-1))).set 3 (.int .i64 r)).set 4 (.int .i64 s)).set 5 (.slice E1 x.args.length d9)).set 6 (.slice E2 x.Nh.length e3)).set 7 (.int .i64 x.num)).set 8 (.int .i64 x.Nj));have c0:=Y.cell 0;have c1:=Y.cell 1;have c2:=Y.cell 2;have c3:=Y.cell 3;have c4:=Y.cell 4;have c5:=Y.cell 5;have c6:=Y.cell 6;have c7:=Y.cell 7;have c8:=Y.cell 8;have d8:=((((((((((aa.refl (fun b=>b≠w.heap.size+1+1∧b≠w.heap.size+1+1+1) wc).setCell (p:=⟨w.heap.size+1+1,0,none⟩) (.inl fun h=>h.1 rfl) (.int .u8 x.kind)).setCell (p:=⟨w.heap.size+1+1,1,none⟩) (.inl fun h=>h.1 rfl) (.int .u8 x.op)).setCell (p:=⟨w.heap.size+1+1,2,none⟩) (.inl fun h=>h.1 rfl) (.int .i64 (-1))).setCell (p:=⟨w.heap.size+1+1,3,none⟩) (.inl fun h=>h.1 rfl) (.int .i64 r)).setCell (p:=⟨w.heap.size+1+1,4,none⟩) (.inl fun h=>h.1 rfl) (.int .i64 s)).setCell (p:=⟨w.heap.size+1+1,5,none⟩) (.inl fun h=>h.1 rfl) (.slice E1 x.args.length d9)).setCell (p:=⟨w.heap.size+1+1,6,none⟩) (.inl fun h=>h.1 rfl) (.slice E2 x.Nh.length e3)).setCell (p:=⟨w.heap.size+1+1,7,none⟩) (.inl fun h=>h.1 rfl) (.int .i64 x.num)).setCell (p:=⟨w.heap.size+1+1,8,none⟩) (.inl fun h=>h.1 rfl) (.int .i64 x.Nj));simp only[ga,gc] at y0 o0 c0 y1 o1 c1 y2 o2 c2 y3 o3 c3 y4 o4 c4 y5 o5 c5 y6 o6 c6 y7 o7 c7 y8 o8 c8;have h1:=ah.keep (S:=fun b=>w.heap.size≤b∧b<wo.heap.size∧b≠w.heap.size+1+1∧b≠w.heap.size+1+1+1) ((HQ.1.mono fun b Z=>Z.2.2.2).trans (a8.all.trans (d8.mono fun b Z=>⟨Z.2.2.1,Z.2.2.2⟩))) (ah.wide (fun b (Z:W4.heap.size≤b∧b<wo.heap.size)=>by omega) HO.2.2.1);have h2:=ah.keep (S:=fun b=>w.heap.size≤b∧b<wr.heap.size∧b≠w.heap.size+1+1∧b≠w.heap.size+1+1+1) (a8.all.trans (d8.mono fun b Z=>⟨Z.2.2.1,Z.2.2.2⟩)) (ah.wide (fun b (Z:wo.heap.size≤b∧b<wr.heap.size)=>by omega) HQ.2.2.1);have e8:=d8.size;have e9:=a8.size;have HZ:=J5 h1 h2 (am ((HQ.2.2.2.2.trans a8).all.trans (d8.mono fun b Z=>by constructor<;>(show b≠_)<;>omega))) e8 e9;have HA:=oH e4;clear h1 h2 d8 Y l j7 b7 a8 e8 e9 e4;skip;go_wp2_with fail;refine bodyPost_ret (v:=.agg #[.int .u8 x.kind,.int .u8 x.op,.int .i64 (-1),.int .i64 r,.int .i64 s,.slice E1 x.args.length d9,.slice E2 x.Nh.length e3,.int .i64 x.num,.int .i64 x.Nj]) (by simp[results,Tryz.f167,go_sem,c0,c1,c2,c3,c4,c5,c6,c7,c8]) rfl (.inl ⟨⟨H4.2.2.2.1.1,H4.2.2.2.1.2,HO.2.2.2,HQ.2.2.2.1,fun e7 g hg=>HA.out e7 g (by rw[←H4.2.2.2.2.1];exact hg)⟩,HZ.2.2.1,(-1),r,s,E1,_,d9,E2,_,e3,rfl,Ko ?_ H4.2.2.2.2.1 H4.2.2.2.2.2 ?_ ?_ HM.2.2.2.2.2.1 HM.2.2.2.2.2.2.1 ?_⟩);·rw[ap HD.out]
  ·exact ah.wide (fun b Z=>by have:=HZ.2.2.2.1;have:=HZ.2.2.2.2;omega) HZ.1
  ·exact ah.wide (fun b Z=>by have:=HZ.2.2.2.1;have:=HZ.2.2.2.2;omega) HZ.2.1
  unfold aV;omega
 rw[cI h6] at nr;have n7:=(HM.2.2.1.keep (HQ.2.2.2.2.trans a8) trivial).get (s:=x.dst) (by have:=HM.2.2.2.2.2.1.dst;unfold maxLen;omega);have j9:0≤aO (bh f) x.dst:=cm.2 (HM.2.2.2.2.2.2.2.resolve_left h6);have i2:=lR (bh f) x.dst;rw[Int.max_eq_left j9] at n7;obtain⟨n,hn⟩:=eR (aO (bh f) x.dst);rw[hn] at n7 i2;have HD:=J2 h6 hn;clear h6 hn j9;have l:=j7.far (p:=⟨w.heap.size+1+1+1,2,none⟩) (show w.heap.size+1+1≠w.heap.size+1+1+1 by omega) (.int .i64 n);have yz:=b7.set 2 (.int .i64 n);have y0:=yz.cell 0;have y1:=yz.cell 1;have y2:=yz.cell 2;have y3:=yz.cell 3;have y4:=yz.cell 4;have y5:=yz.cell 5;have y6:=yz.cell 6;have y7:=yz.cell 7;have y8:=yz.cell 8;have o0:=l.cell 0;have o1:=l.cell 1;have o2:=l.cell 2;have o3:=l.cell 3;have o4:=l.cell 4;have o5:=l.cell 5;have o6:=l.cell 6;have o7:=l.cell 7;have o8:=l.cell 8;have k0:=l.free 0;have k1:=l.free 1;have k2:=l.free 2;have k3:=l.free 3;have k4:=l.free 4;have k5:=l.free 5;have k6:=l.free 6;have k7:=l.free 7;have k8:=l.free 8;have Y:=(((((((((l.set 0 (.int .u8 x.kind)).set 1 (.int .u8 x.op)).set 2 (.int .i64 n)).set 3 (.int .i64 r)).set 4 (.int .i64 s)).set 5 (.slice E1 x.args.length d9)).set 6 (.slice E2 x.Nh.length e3)).set 7 (.int .i64 x.num)).set 8 (.int .i64 x.Nj));have c0:=Y.cell 0;have c1:=Y.cell 1;have c2:=Y.cell 2;have c3:=Y.cell 3;have c4:=Y.cell 4;have c5:=Y.cell 5;have c6:=Y.cell 6;have c7:=Y.cell 7;have c8:=Y.cell 8;have d8:=(((((((((((aa.refl (fun b=>b≠w.heap.size+1+1∧b≠w.heap.size+1+1+1) wc).setCell (p:=⟨w.heap.size+1+1+1,2,none⟩) (.inl fun h=>h.2 rfl) (.int .i64 n)).setCell (p:=⟨w.heap.size+1+1,0,none⟩) (.inl fun h=>h.1 rfl) (.int .u8 x.kind)).setCell (p:=⟨w.heap.size+1+1,1,none⟩) (.inl fun h=>h.1 rfl) (.int .u8 x.op)).setCell (p:=⟨w.heap.size+1+1,2,none⟩) (.inl fun h=>h.1 rfl) (.int .i64 n)).setCell (p:=⟨w.heap.size+1+1,3,none⟩) (.inl fun h=>h.1 rfl) (.int .i64 r)).setCell (p:=⟨w.heap.size+1+1,4,none⟩) (.inl fun h=>h.1 rfl) (.int .i64 s)).setCell (p:=⟨w.heap.size+1+1,5,none⟩) (.inl fun h=>h.1 rfl) (.slice E1 x.args.length d9)).setCell (p:=⟨w.heap.size+1+1,6,none⟩) (.inl fun h=>h.1 rfl) (.slice E2 x.Nh.length e3)).setCell (p:=⟨w.heap.size+1+1,7,none⟩) (.inl fun h=>h.1 rfl) (.int .i64 x.num)).setCell (p:=⟨w.heap.size+1+1,8,none⟩) (.inl fun h=>h.1 rfl) (.int .i64 x.Nj));simp only[ga,gc] at y0 o0 c0 y1 o1 c1 y2 o2 c2 y3 o3 c3 y4 o4 c4 y5 o5 c5 y6 o6 c6 y7 o7 c7 y8 o8 c8;have h1:=ah.keep (S:=fun b=>w.heap.size≤b∧b<wo.heap.size∧b≠w.heap.size+1+1∧b≠w.heap.size+1+1+1) ((HQ.1.mono fun b Z=>Z.2.2.2).trans (a8.all.trans (d8.mono fun b Z=>⟨Z.2.2.1,Z.2.2.2⟩))) (ah.wide (fun b (Z:W4.heap.size≤b∧b<wo.heap.size)=>by omega) HO.2.2.1);have h2:=ah.keep (S:=fun b=>w.heap.size≤b∧b<wr.heap.size∧b≠w.heap.size+1+1∧b≠w.heap.size+1+1+1) (a8.all.trans (d8.mono fun b Z=>⟨Z.2.2.1,Z.2.2.2⟩)) (ah.wide (fun b (Z:wo.heap.size≤b∧b<wr.heap.size)=>by omega) HQ.2.2.1);have e8:=d8.size;have e9:=a8.size;have HZ:=J5 h1 h2 (am ((HQ.2.2.2.2.trans a8).all.trans (d8.mono fun b Z=>by constructor<;>(show b≠_)<;>omega))) e8 e9;have HA:=oH e4;clear h1 h2 d8 Y l j7 b7 a8 e8 e9 e4;clear yz;go_wp2_with fail;refine bodyPost_ret (v:=.agg #[.int .u8 x.kind,.int .u8 x.op,.int .i64 n,.int .i64 r,.int .i64 s,.slice E1 x.args.length d9,.slice E2 x.Nh.length e3,.int .i64 x.num,.int .i64 x.Nj]) (by simp[results,Tryz.f167,go_sem,c0,c1,c2,c3,c4,c5,c6,c7,c8]) rfl (.inl ⟨⟨H4.2.2.2.1.1,H4.2.2.2.1.2,HO.2.2.2,HQ.2.2.2.1,fun e7 g hg=>HA.out e7 g (by rw[←H4.2.2.2.2.1];exact hg)⟩,HZ.2.2.1,n,r,s,E1,_,d9,E2,_,e3,rfl,Ko ?_ H4.2.2.2.2.1 H4.2.2.2.2.2 ?_ ?_ HM.2.2.2.2.2.1 HM.2.2.2.2.2.2.1 ?_⟩);·rw[ae HD.1,HD.2]
 ·exact ah.wide (fun b Z=>by have:=HZ.2.2.2.1;have:=HZ.2.2.2.2;omega) HZ.1
 ·exact ah.wide (fun b Z=>by have:=HZ.2.2.2.1;have:=HZ.2.2.2.2;omega) HZ.2.1
 unfold aV;omega
section
theorem dR.made {α:Type}{n:Nat}{e:TypeId}{E:cO α}{B:Nat}(w:World)(cur:Array Value)(cap:Nat)(j:B≤w.heap.size)(hm:cap≤maxLen)(l:cur.size=cap*n):
 dR n e E B (w.alloc (.cells cur e)) (.slice (some ⟨w.heap.size,0,none⟩) 0 cap) ([]:List α):=
 ⟨[],fun _=>False,World.ownsRow_made w cur cap j hm l,rfl,(fun _ h=>by cases h),fun _ h=>h.elim,fun i x h=>by simp at h⟩
def eT {α:Type}(E:bT α):cO α:=fun S w cs x=>∃v,cs=[v]∧E S w v x
theorem aS {α:Type}{E:bT α}(g:bT.Good E):cO.Good (eT E):=by
 constructor
 ·rintro S w j cs x k ⟨v,e,h⟩
  exact⟨v,e,g.keep k h⟩
 rintro S T w cs x k ⟨v,e,h⟩;exact⟨v,e,g.wide k h⟩
theorem jT {α:Type}{bw:Nat}{E:bT α}{S:Nat→Prop}{w:World}{v:Value}{l:List α}(h:rx 1 bw (eT E) S w v l):Sl bw E S w v l:=by obtain⟨a,cap,rfl,j,o,C,h⟩:=h;refine⟨a,cap,rfl,j,o,C,fun i x J=>?_⟩;obtain⟨b,off,cs,e,R,_,Y,u,rfl,Z⟩:=h i x J;exact⟨b,off,u,e,R,by have:=Y 0 u rfl;rwa [Nat.mul_one,dj] at this,Z⟩
theorem qz {l:List Nat}{x:Nat}(h:x∈l):x≤l.sum:=by
 induction l with
 |nil=>cases h
 |cons a l j=>
  rw[List.sum_cons];rcases fX.1 h with rfl|h;·omega
  have:=j h;omega
section
variable {p:aH} {q:dN} {f:cD} {b:eS} {x:cX}
theorem yr (j:fV q)(l:f∈q.Nf):gl f≤4096:=fR (qz (dr.2 ⟨f,l,rfl⟩)) j.2.2.2.2
theorem Fm (j:fV q)(l:f∈q.Nf)(o:b∈f.Ng):b.code.length≤4096:=fR (qz (dr.2 ⟨b,o,rfl⟩)) (yr j l)
theorem xu (j:fV q)(l:f∈q.Nf):(bh f).length≤5000:=by
 have o:=yr j l;have C:=(j.2.2.2.1 f l).2.2.1;have J:(sx f).length≤gl f:=by unfold sx gl;refine fR (List.length_filter_le _ _) ?_;rw[List.length_flatMap];simp
 unfold bh;rw[iQ];omega
theorem pr (j:fV q)(l:f∈q.Nf):(cn f).length≤64∧f.Ng.length≤64:=by have:=(j.2.2.2.1 f l).2.2.2.2.1;unfold cn;rw[ce];exact⟨this,this⟩
theorem KU (j:b∈f.Ng)(l:x∈b.code):x.dst=gR∨x.dst∈bh f:=by
 by_cases h:x.dst=gR;·exact .inl h
 right;refine eD.2 (.inr (List.mem_filter.2 ⟨List.mem_flatMap.2 ⟨b,j,dr.2 ⟨x,l,rfl⟩⟩,?_⟩));simpa using h
theorem Ir (j:fV q)(l:f∈q.Nf)(o:b∈f.Ng)(C:x∈b.code):x.args.length≤64∧x.Nh.length≤64:=by
 obtain⟨_,_,_,_,_,J,R⟩:=((j.2.2.2.1 f l).2.2.2.2.2 b o).2 x C;by_cases h:x.kind=3
 ·obtain⟨_,_,_,e,Y,Z⟩:=J h
  omega
 obtain⟨s,_,e,_,Y,_⟩:=R h;rw[e];exact⟨by omega,by simp⟩
theorem mf {α:Type}(f:α→Bool)(l:List α)(h:l.length≤1048576):aV (gJ f l):=by have:=kT f l;unfold aV;omega
theorem GP (j:dD p)(l:fV q)(o:f∈q.Nf):aV (dv p q f x)∧aV (dy f x):=by
 have R:=j.1;have Y:=j.2.1.1.2.1;have Z:=j.2.2.2.2.2.1.1;have h4:=j.2.2.2.2.2.2.1;have h5:=l.1;have h6:=l.2.1;have h7:=(pr l o).1;have C:(dz q).length≤1048576:=by unfold dz;rw[ce];omega
 have J:(fh q).length≤1048576:=by unfold fh;rw[ce];omega
 have z:aV 0:=by unfold aV;omega
 constructor;·(
 unfold dv;split;·exact mf _ _ C
 split;·exact mf _ _ J
 split;·exact mf _ _ (by omega)
 split;·exact mf _ _ (by omega)
 split;·exact mf _ _ (by omega)
 split;·exact mf _ _ (by omega)
 exact z)
 unfold dy;split;·exact mf _ _ (by omega)
 exact z
end
def we:cO cD:=fun S w cs f=>∃b1 b2,cs=[.map (some b1),.map (some b2)]∧S b1∧S b2∧wd w b1 b2 f
theorem nN:cO.Good we:=by
 constructor
 ·rintro S w Y cs x k ⟨o,C,e,j,l,J,R⟩
  exact⟨o,C,e,j,l,J.keep k j,R.keep k l⟩
 rintro S T w cs x k ⟨o,C,e,j,l,J⟩;exact⟨o,C,e,k _ j,k _ l,J⟩
theorem vq:(prog.info? 249).map (fun i=>(i.zero,i.size,i.bytes))=some (some (.agg #[.map none,.map none]),2,16):=by kernel_rfl
theorem Dp (n:Nat)(C:n≤1048576)(w:World):(Instr.makeSlice 247 (.int .i64 0) (.int .i64 n)).run prog w=.ok (.slice (some ⟨w.heap.size,0,none⟩) 0 n) (w.alloc (.cells (madeCells #[.map none,.map none] (n*2)) 249)):=by obtain⟨i,hi,j,l,o⟩:=info_parts vq;rw[run_make (P:=prog) w 247 249 i _ underlying247 hi j .i64 .i64 0 n (by omega) (by omega) (by rw[o];omega) (by omega),l,dP];rfl
end
end Go.Proofs.YtncdbjponknakaaGreatDoor
