/- Part 15 of the proof (its last part says what is proved). No condition. -/
import Derived.Test.YtccbbkopmlnkpaaGreatDoorK13
namespace Go.Proofs.YtccbbkopmlnkpaaGreatDoor
set_option maxRecDepth 100000
set_option maxHeartbeats 8000000
open Go.RowKit Go.Proofs.Tryz
theorem ln (l:List ByteArray)(s:ByteArray): -1≤aH l s∧aH l s<(l.length:Int)+1:=nN _ _
theorem BS {S:Nat→Prop}{w:World}{v:Value}{l:List Int}(h:bu S w v l):bu (fun b=>S b∧b<w.heap.size) w v l:=by obtain⟨a,cap,o,C,I,J,h⟩:=h;refine⟨a,cap,o,C,I,J,fun i x R=>?_⟩;obtain⟨b,off,c,e,Y,j,he⟩:=h i x R;exact⟨b,off,c,e,⟨Y,gx w _ j⟩,j,he⟩
theorem mO {n:Int}(h:aS n):(Lit.int .i64 n).wf=true:=by unfold aS at h;simp[Lit.wf,IntKind.min,IntKind.max,IntKind.signed,IntKind.bits];omega
theorem Kj {p:aI}{q:cf}{f:aR}{x:aB}{d r s:Int}{S:Nat→Prop}{w:World}{o a2:Option Addr}{C I J R:Nat}(hd:(if x.dst=dQ then-1 else aH (aO f) x.dst)=d)(hr:cK p q f x=r)(hs:cR f x=s)(h1:bu S w (.slice o C I) (x.args.map (aH (aO f))))(h2:bu S w (.slice a2 J R) (x.Nn.map (aH (bg f))))(j:qR x)(Y:aS (cK p q f x)∧aS (cR f x))(hD:aS d):
 Kw S w [.int .u8 x.kind,.int .u8 x.op,.int .i64 d,.int .i64 r,.int .i64 s,.slice o C I,.slice a2 J R,.int .i64 x.num,.int .i64 x.Np] (pg p q f x):=by
 subst hd hr hs;exact⟨_,_,rfl,h1,h2,j.kind,j.op,hD,Y.1,Y.2,j.num,j.Np⟩
def Kv (p:aI)(q:cf)(f:aR)(x:aB)(w:World)(e:Ending)(w':World):Prop:=
 qi (kM p q f x) (fun e w'=>aa All w w'∧∃(d r s:Int) (a1:Option Addr) (n1 c1:Nat) (a2:Option Addr) (n2 c2:Nat),e=.returned (.agg #[.int .u8 x.kind,.int .u8 x.op,.int .i64 d,.int .i64 r,.int .i64 s,.slice a1 n1 c1,.slice a2 n2 c2,.int .i64 x.num,.int .i64 x.Np])∧
  Kw (fun b=>w.heap.size≤b∧b<w'.heap.size) w' [.int .u8 x.kind,.int .u8 x.op,.int .i64 d,.int .i64 r,.int .i64 s,.slice a1 n1 c1,.slice a2 n2 c2,.int .i64 x.num,.int .i64 x.Np] (pg p q f x)) w e w'
theorem Li (S:Nat→Prop)(br:Nat)(p:aI)(q:cf)(f:aR)(x:aB)(b1 b2:Nat)(xa xf:Value)(w:World)(hr:se S w br p q)(l9:bN w b1 (bg f))(n0:bN w b2 (aO f))(n1:cC S w xa x.args)(n2:cC S w xf x.Nn)(hx:qR x)
 (hI:aS (cK p q f x)∧aS (cR f x)) (hd:x.dst=dQ∨x.dst∈aO f) (hz:x.args.length≤1048576∧x.Nn.length≤1048576) (hv:(aO f).length≤1000000000) (hb:(bg f).length≤1000000000):
 Calls prog 141 #[.pointer (some ⟨br,0,none⟩),.agg #[.map (some b1),.map (some b2)],.agg #[.int .u8 x.kind,.int .u8 x.op,.string x.dst,.string x.ref,.string x.No,xa,xf,.int .i64 x.num,.int .i64 x.Np]] w (Kv p q f x w):=by
 obtain⟨i3,n3,n4,n5,n6⟩:=info_parts FL;have I3:=J4 n3 n4 n5 n6;clear n3 n4 n5 n6;obtain⟨z1,z2⟩:=hz;have n7:=ap.la n1;have n8:=ap.la n2;obtain⟨ua,uc,rfl,u1,u2,u3,_⟩:=n1;obtain⟨va,vc,rfl,v1,v2,v3,_⟩:=n2;unfold maxLen at u2 v2;obtain⟨W2,e5⟩:=eQ ((((w.alloc (.cells #[.map (some b1),.map (some b2)] 167)).alloc (.cells #[.int .u8 x.kind,.int .u8 x.op,.string x.dst,.string x.ref,.string x.No,.slice ua x.args.length uc,.slice va x.Nn.length vc,.int .i64 x.num,.int .i64 x.Np] 185)).alloc (.cells #[.int .u8 0,.int .u8 0,.int .i64 0,.int .i64 0,.int .i64 0,.slice none 0 0,.slice none 0 0,.int .i64 0,.int .i64 0] 40)).alloc (.cells #[.int .u8 x.kind,.int .u8 x.op,.int .i64 (-1),.int .i64 0,.int .i64 0,.slice none 0 0,.slice none 0 0,.int .i64 x.num,.int .i64 x.Np] 40));have l3:W2.heap.size=w.heap.size+4:=by rw[e5];simp
 have j7:aa All w W2:=by rw[e5];exact(((kR.alloc _).alloc _).alloc _).alloc _
 have bS:al W2 w.heap.size 167 #[.map (some b1),.map (some b2)]:=by rw[e5];exact(((al.new _ _ _).alloc _).alloc _).alloc _
 have bX:al W2 (w.heap.size+1) 185 #[.int .u8 x.kind,.int .u8 x.op,.string x.dst,.string x.ref,.string x.No,.slice ua x.args.length uc,.slice va x.Nn.length vc,.int .i64 x.num,.int .i64 x.Np]:=by rw[e5];exact((ac (by simp)).alloc _).alloc _
 have bO:al W2 (w.heap.size+1+1) 40 #[.int .u8 0,.int .u8 0,.int .i64 0,.int .i64 0,.int .i64 0,.slice none 0 0,.slice none 0 0,.int .i64 0,.int .i64 0]:=by rw[e5];exact(ac (by simp)).alloc _
 have bY:al W2 (w.heap.size+1+1+1) 40 #[.int .u8 x.kind,.int .u8 x.op,.int .i64 (-1),.int .i64 0,.int .i64 0,.slice none 0 0,.slice none 0 0,.int .i64 x.num,.int .i64 x.Np]:=by rw[e5];exact ac (by simp)
 have X0:∀i,W2.cell? ⟨w.heap.size+1,i,none⟩=(#[.int .u8 x.kind,.int .u8 x.op,.string x.dst,.string x.ref,.string x.No,.slice ua x.args.length uc,.slice va x.Nn.length vc,.int .i64 x.num,.int .i64 x.Np]:Array Value)[i]?:=fun i=>bX.cell i;have g0:=bX.cell 0;have g1:=bX.cell 1;have g2:=bX.cell 2;have g3:=bX.cell 3;have g4:=bX.cell 4;have g5:=bX.cell 5;have g6:=bX.cell 6;have g7:=bX.cell 7;have g8:=bX.cell 8;have s0:=bS.cell 0;have s1:=bS.cell 1;simp only[gc] at g0 g1 g2 g3 g4 g5 g6 g7 g8 s0 s1;have HW:=J7 e5 l3 j7 bS bX bO bY;have HM:=J8 hr l9 n0 n7 n8 hx hI hd;clear e5 l3 j7 bS bX bO bY X0 hr l9 n0 n7 n8 hx hI hd;go_enter func141,ntmps141;go_upto_region 2 with fail;rw[←HW.1];go_wp2_with fail;refine(GN S br p q f x b1 b2 _ _ W2 (HM.1.keep HW.2.2.1) (HM.2.1.keep HW.2.2.1 trivial) (HM.2.2.2.1 _ HW.2.2.1) (HM.2.2.2.2.1 _ HW.2.2.1) HM.2.2.2.2.2.1).mono ?_;rintro e w3 (⟨i6,rfl,h9⟩|⟨i6,⟨an,nn,hn,ha,hi,rfl⟩,h9⟩)
 case inr=>have HS:=J5 i6 hn ha hi h9;clear i6 hn ha hi h9;go_wp2_with fail;exact⟨rfl,.inr ⟨fun h=>HS.1 ⟨h.1,h.2.1⟩,⟨an,nn,HS.2.1,HS.2.2.1,HS.2.2.2.1,rfl⟩,HW.2.2.1.trans HS.2.2.2.2⟩⟩
 clear g0 g1 g2 g3 g4 g5 g6 g7 g8 s0 s1;obtain⟨r,hr⟩:=eR (cK p q f x);obtain⟨s,hs⟩:=eR (cR f x);rw[hr,hs];have i1:=HW.2.2.2.2.2.2.kept h9 trivial;have y3:=i1.cell 3;have y4:=i1.cell 4;have f3:=i1.free 3;have f4:=i1.free 4;simp only[gc] at y3 y4;obtain⟨W4,j8⟩:=eQ ((w3.setCell ⟨w.heap.size+1+1+1,3,none⟩ (.int .i64 r)).setCell ⟨w.heap.size+1+1+1,4,none⟩ (.int .i64 s));have j9:aa (fun b=>b≠w.heap.size+1+1+1) W2 W4:=by rw[j8];exact(h9.all.setCell (.inl fun h=>h rfl) _).setCell (.inl fun h=>h rfl) _
 have b4:al W4 (w.heap.size+1+1+1) 40 #[.int .u8 x.kind,.int .u8 x.op,.int .i64 (-1),.int .i64 r,.int .i64 s,.slice none 0 0,.slice none 0 0,.int .i64 x.num,.int .i64 x.Np]:=by rw[j8];simpa using(i1.set 3 (.int .i64 r)).set 4 (.int .i64 s)
 have r5:=j9.size;have l3:=dY HW.2.1.symm;have n9:=HW.2.2.2.2.1.kept j9 (by show _≠_;omega);have x5:=n9.cell 5;simp only[gc] at x5;have H4:=J6 j8 j9 b4 i6 hr hs;clear j8 j9 b4 i6 hr hs n9 i1 h9;go_upto_region 3 with fail;rw[←H4.1];clear y3 y4 f3 f4;go_wp2_with fail;have o9:=oH (show aa All w W4 from aq (HW.2.2.1.all.trans (H4.2.1.mono fun b hb=>by show b≠_;omega)));have h7:=oH H4.2.1;go_loopg [33] x.args.length (fun g t wr=>∃(j:Nat) (v5:Value),j≤x.args.length∧g=x.args.length-j∧t=.int .i64 j∧aa (fun b=>b≠w.heap.size+1+1+1) W4 wr∧al wr (w.heap.size+1+1+1) 40 #[.int .u8 x.kind,.int .u8 x.op,.int .i64 (-1),.int .i64 r,.int .i64 s,v5,.slice none 0 0,.int .i64 x.num,.int .i64 x.Np]∧wr.ownsRow W4.heap.size 3 1 v5 j (aW ((x.args.map (aH (aO f))).take j))∧∀(i:Nat) a,i<j→x.args[i]? =some a→a∈aO f);·exact⟨0,_,by omega,by omega,rfl,kR,H4.2.2.1,⟨rfl,.inl ⟨rfl,rfl⟩⟩,fun i a h=>by omega⟩
 obtain⟨j,v5,hj,rfl,rfl,R,a1,J,b0⟩:=hrel;have p0:=R.size;have b8:aa All w wr:=aq ((o9.out).all.trans (R.mono fun b hb=>by show b≠_;omega));obtain⟨E1,d9,rfl⟩:=cd J;by_cases l4:j<x.args.length;·(
 obtain⟨a,ha⟩:=eG l4;obtain⟨bb,o,cc,rfl,q1,q2,rfl⟩:=de (HM.2.2.2.1 wr b8) ha;have l5:a.size≤140737488355328:=HM.2.2.2.2.2.1.args a (mG ha);have hq:∀wn,aa All wr wn→wn.cell? ⟨w.heap.size+1+1+1,5,none⟩=some (.slice E1 j d9)∧wn.cell? ⟨w.heap.size,1,none⟩=some (.map (some b2))∧wn.cell? ⟨w.heap.size+1,8,none⟩=some (.int .i64 x.Np):=fun wn I=>
  ⟨(a1.kept I trivial).cell 5,(((HW.2.2.2.1.kept h7.out (by show _≠_;omega)).kept R (by show _≠_;omega)).kept I trivial).cell 1,(((HW.2.2.2.2.1.kept h7.out (by show _≠_;omega)).kept R (by show _≠_;omega)).kept I trivial).cell 8⟩
 have HL:=oH (fun wn (I:aa All wr wn)=>li b2 (aO f) a x.Np wn (HM.2.2.1.keep (b8.trans I) trivial) l5 HM.2.2.2.2.2.1.Np);have HR:=J7 R a1 J b0 hq ha b8;have i7:=ln (aO f) a;obtain⟨n,hn⟩:=eR (aH (aO f) a);rw[hn] at HL i7;have h0:=oH hn;clear R a1 J b0 hq ha b8 hn;go_wp2_with fail;by_cases hf:0≤n;·(
 have HF:=oH hf;refine R1 9 wr [45] (fun _ v wn=>∃g,v=.slice (some ⟨g,0,none⟩) 1 1∧wr.heap.size≤g∧al wn g 3 #[.int .i64 n]) (fun i=>if i=7 then some (·=.int .i64 n) else if i=8 then some (fun v=>∃g,v=.slice (some ⟨g,0,none⟩) 1 1) else none) ?_;refine O0 ?_;refine O4 HR.2.2.2.2.1 ?_;refine O0 ?_;refine O4 HR.2.2.2.2.1 ?_;iterate 2 refine O0 ?_
 refine O4 HR.2.2.2.2.1 ?_;refine O5 (v:=.int .i64 n) (fun wn I hp=>⟨_,_,by(obtain⟨e0,e1,e2⟩:=HR.2.2.2.2.1 wn I;go_simp<;>with_reducible rfl),(HL.out wn I).mono fun e w' h=>?_⟩) ?_
 ·rcases h with ⟨_,h1,rfl⟩|⟨h1,_⟩
  ·exact⟨h1,I,fun _ _ _ h=>h⟩
  exact absurd HF.out h1
 refine O6 (fun wn I hp=>?_) (fun wn I hp=>?_) ?_
 ·go_simp
  exact⟨rfl,⟨_,rfl⟩,I.alloc _,fun t _ v ⟨g,e,h1,h2⟩=>⟨g,e,h1,h2.alloc _⟩,fun d hd hT=>⟨_,rfl,I.size,al.new _ _ _⟩⟩
 ·exact⟨.slice (some ⟨wn.heap.size,0,none⟩) 1 1,wn.alloc (.cells #[.int .i64 n] 3),⟨_,rfl⟩,I.alloc _,fun t _ v ⟨g,e,h1,h2⟩=>⟨g,e,h1,h2.alloc _⟩,fun d hd hT=>⟨_,rfl,I.size,al.new _ _ _⟩⟩
 rintro v ⟨g,rfl⟩;simp only[PS];refine aD fun wt b3 hF=>?_;obtain⟨g',e,q3,j0⟩:=hF 45 (by simp) _ rfl;iterate 3 injection e with e
 subst e;simp only[dK];have a6:=ay HR.2.2.1 b3 (fun _ _=>trivial);have b9:=HR.2.1.kept b3 trivial;have b5:=j0.cell 0;have p1:=b3.size;simp only[gc] at b5;have HT:=J3 b3 b9 b5;clear b3 b9 j0 hF hf;go_wp2_with (
  at_builtin;go_loud (
  refine cW _ rfl (.tmp 38) (.tmp 45) 38 rfl W4.heap.size 3 i3 _ 1 8 underlying38 I3.1 I3.2.1 I3.2.2.1 I3.2.2.2 rfl (by decide) _ _ _ rfl a6 (some ⟨g,0,none⟩) 1 1 [.int .i64 n] rfl rfl ?_ ?_ (by unfold maxLen;omega) (by omega) (by omega) ?_;·(
 intro _;exact⟨_,_,rfl,fun j u hu=>by
  rcases j with _|j;·rw[dU,HT.2.2];exact hu
  simp at hu⟩)
  ·intro u hu
   rw[ce.1 hu];rfl
  intro v2 w4 a7 h5 e6;obtain⟨C2,j1,rfl⟩:=cd a7;have b6:=HT.2.1.grown h5 (fun e=>by have:=(au a6 e.symm).1;omega);have y5:=b6.cell 5;have f5:=b6.free 5;simp only[gc] at y5;have H2:=J4 b6 a7 h5 e6;clear b6 a7 h5 e6))
 go_roundg (x.args.length-(j+1));·(
 refine⟨j+1,.slice C2 (j+1) j1,by omega,rfl,by go_num,(((HR.1.trans HT.1.all).grown H2.2.2.1 fun b hb=>.inr (au a6 hb).1).setCell (.inl fun h=>h rfl) _),?_,?_,?_⟩
 ·have:=H2.1.set 5 (.slice C2 (j+1) j1)
  simpa using this
 ·have e:aW ((x.args.map (aH (aO f))).take (j+1))=aW ((x.args.map (aH (aO f))).take j)++[.int .i64 n]:=by rw[dT,cy,HR.2.2.2.2.2.1,←h0.out];simp[aW]
  rw[e];exact ay H2.2.1 ((aa.refl (fun b=>b≠w.heap.size+1+1+1) _).setCell (.inl fun h=>h rfl) _) fun b hb=>by have:=(au H2.2.1 hb).1;show b≠_;omega
 intro i a' hi c9;by_cases e:i=j;·subst e;rw[HR.2.2.2.2.2.1] at c9;injection c9 with c9;subst c9;exact aY.1 (by rw[h0.out];exact HF.out)
 exact HR.2.2.2.1 i a' (by omega) c9)
 omega)
 have HF:=oH hf;have l6:=oH (show¬kM p q f x from fun h=>hf (by rw[←h0.out];exact aY.2 (h.2.2.1 a (mG HR.2.2.2.2.2.1))));refine aK 9 (aa All wr) [] (fun _ _ _=>True) (fun i=>if i=7 then some (·=.int .i64 0) else if i=8 then some (fun v=>∃g,v=.slice (some ⟨g,0,none⟩) 1 1) else none) (fun i=>decide (i=7)) (fun ch wn=>∃a n:Int,n≠0∧aS a∧aS n∧ch=[{v:=.iface 153 (.agg #[.int .i64 a,.int .i64 n]),recovered:=false}]∧aa All wr wn) (by kernel_rfl) (by kernel_rfl) (by kernel_rfl) (by kernel_rfl) kR.drew ?_ ?_
 ·rintro a ch wn ⟨an,nn,j2,j3,j4,rfl,j5⟩ j6
  exact⟨j6,.inr ⟨l6.out,⟨an,nn,j2,j3,j4,rfl⟩,HR.2.2.2.2.2.2.trans j5⟩⟩
 simp only[tK];clear hf;refine O0 ?_;refine O4 HR.2.2.2.2.1 ?_;refine O0 ?_;refine O4 HR.2.2.2.2.1 ?_;iterate 2 refine O0 ?_
 refine O4 HR.2.2.2.2.1 ?_;refine O7 (.int .i64 0) (fun wn I hp=>⟨_,_,by(obtain⟨e0,e1,e2⟩:=HR.2.2.2.2.1 wn I;go_simp<;>with_reducible rfl),((HL.out wn I).mono fun e w' h=>?_)⟩) ?_
 ·rcases h with ⟨h1,_⟩|⟨_,⟨an,nn,h1,h2,h3,rfl⟩,h4⟩
  ·exact absurd h1 HF.out
  exact⟨_,rfl,an,nn,h1,h2,h3,rfl,I.trans h4⟩
 refine O6 (fun wn I hp=>?_) (fun wn I hp=>?_) ?_
 ·go_simp
  exact⟨rfl,⟨_,rfl⟩,I.alloc _,fun _ _ _ h=>h,fun d hd hT=>by cases hT⟩
 ·exact⟨.slice (some ⟨wn.heap.size,0,none⟩) 1 1,wn.alloc (.cells #[.int .i64 0] 3),⟨_,rfl⟩,I.alloc _,fun _ _ _ h=>h,fun d hd hT=>by cases hT⟩
 intro v _;exact cZ)
 obtain rfl:j=x.args.length:=by omega
 rw[oz (by rw[aZ];omega)] at J;have d7:∀a∈x.args,a∈aO f:=fun a ha=>by obtain⟨i,hi⟩:=List.getElem?_of_mem ha;exact b0 i a (lS.1 hi).1 hi
 have hint:=BS (pL (S:=fun b=>W4.heap.size≤b) J (by rw[aZ]) (by rw[aZ];omega) (fun g hg=>(au J hg).1) fun y hy=>by obtain⟨a,_,rfl⟩:=dt.1 hy;have:=ln (aO f) a;exact mO (by unfold aS;omega));have p2:=(HW.2.2.2.2.1.kept h7.out (by show _≠_;omega)).kept R (by show _≠_;omega);have x6:=p2.cell 6;simp only[gc] at x6;obtain⟨wo,rfl⟩:=eQ wr;have HO:=J4 R a1 hint d7;have p3:=oH b8;have h8:=oH (h7.out.trans R);clear R a1 J b0 d7 hint b8 p2;go_wp2_with fail;go_loopg [52] x.Nn.length (fun g t wr=>∃(j:Nat) (v5:Value),j≤x.Nn.length∧g=x.Nn.length-j∧t=.int .i64 j∧aa (fun b=>b≠w.heap.size+1+1+1) wo wr∧al wr (w.heap.size+1+1+1) 40 #[.int .u8 x.kind,.int .u8 x.op,.int .i64 (-1),.int .i64 r,.int .i64 s,.slice E1 x.args.length d9,v5,.int .i64 x.num,.int .i64 x.Np]∧wr.ownsRow wo.heap.size 3 1 v5 j (aW ((x.Nn.map (aH (bg f))).take j))∧∀(i:Nat) a,i<j→x.Nn[i]? =some a→a∈bg f);·exact⟨0,_,by omega,by omega,rfl,kR,HO.2.1,⟨rfl,.inl ⟨rfl,rfl⟩⟩,fun i a h=>by omega⟩
 obtain⟨j,v5,hj,rfl,rfl,R,a1,J,b0⟩:=hrel;have p0:=R.size;have b8:aa All w wr:=aq ((p3.out).all.trans (R.mono fun b hb=>by show b≠_;omega));obtain⟨E2,e3,rfl⟩:=cd J;by_cases l4:j<x.Nn.length;·(
 obtain⟨a,ha⟩:=eG l4;obtain⟨bb,o,cc,rfl,q1,q2,rfl⟩:=de (HM.2.2.2.2.1 wr b8) ha;have l5:a.size≤140737488355328:=HM.2.2.2.2.2.1.Nn a (mG ha);have hq:∀wn,aa All wr wn→wn.cell? ⟨w.heap.size+1+1+1,6,none⟩=some (.slice E2 j e3)∧wn.cell? ⟨w.heap.size,0,none⟩=some (.map (some b1))∧wn.cell? ⟨w.heap.size+1,8,none⟩=some (.int .i64 x.Np):=fun wn I=>
  ⟨(a1.kept I trivial).cell 6,(((HW.2.2.2.1.kept h8.out (by show _≠_;omega)).kept R (by show _≠_;omega)).kept I trivial).cell 0,(((HW.2.2.2.2.1.kept h8.out (by show _≠_;omega)).kept R (by show _≠_;omega)).kept I trivial).cell 8⟩
 have HL:=oH (fun wn (I:aa All wr wn)=>li b1 (bg f) a x.Np wn (HM.2.1.keep (b8.trans I) trivial) l5 HM.2.2.2.2.2.1.Np);have HR:=J7 R a1 J b0 hq ha b8;have i7:=ln (bg f) a;obtain⟨n,hn⟩:=eR (aH (bg f) a);rw[hn] at HL i7;have h0:=oH hn;clear R a1 J b0 hq ha b8 hn;go_wp2_with fail;by_cases hf:0≤n;·(
 have HF:=oH hf;refine R1 9 wr [64] (fun _ v wn=>∃g,v=.slice (some ⟨g,0,none⟩) 1 1∧wr.heap.size≤g∧al wn g 3 #[.int .i64 n]) (fun i=>if i=7 then some (·=.int .i64 n) else if i=8 then some (fun v=>∃g,v=.slice (some ⟨g,0,none⟩) 1 1) else none) ?_;refine O0 ?_;refine O4 HR.2.2.2.2.1 ?_;refine O0 ?_;refine O4 HR.2.2.2.2.1 ?_;iterate 2 refine O0 ?_
 refine O4 HR.2.2.2.2.1 ?_;refine O5 (v:=.int .i64 n) (fun wn I hp=>⟨_,_,by(obtain⟨e0,e1,e2⟩:=HR.2.2.2.2.1 wn I;go_simp<;>with_reducible rfl),(HL.out wn I).mono fun e w' h=>?_⟩) ?_
 ·rcases h with ⟨_,h1,rfl⟩|⟨h1,_⟩
  ·exact⟨h1,I,fun _ _ _ h=>h⟩
  exact absurd HF.out h1
 refine O6 (fun wn I hp=>?_) (fun wn I hp=>?_) ?_
 ·go_simp
  exact⟨rfl,⟨_,rfl⟩,I.alloc _,fun t _ v ⟨g,e,h1,h2⟩=>⟨g,e,h1,h2.alloc _⟩,fun d hd hT=>⟨_,rfl,I.size,al.new _ _ _⟩⟩
 ·exact⟨.slice (some ⟨wn.heap.size,0,none⟩) 1 1,wn.alloc (.cells #[.int .i64 n] 3),⟨_,rfl⟩,I.alloc _,fun t _ v ⟨g,e,h1,h2⟩=>⟨g,e,h1,h2.alloc _⟩,fun d hd hT=>⟨_,rfl,I.size,al.new _ _ _⟩⟩
 rintro v ⟨g,rfl⟩;simp only[PS];refine aD fun wt b3 hF=>?_;obtain⟨g',e,q3,j0⟩:=hF 64 (by simp) _ rfl;iterate 3 injection e with e
 subst e;simp only[dK];have a6:=ay HR.2.2.1 b3 (fun _ _=>trivial);have b9:=HR.2.1.kept b3 trivial;have b5:=j0.cell 0;have p1:=b3.size;simp only[gc] at b5;have HT:=J3 b3 b9 b5;clear b3 b9 j0 hF hf;go_wp2_with (
  at_builtin;go_loud (
  refine cW _ rfl (.tmp 57) (.tmp 64) 38 rfl wo.heap.size 3 i3 _ 1 8 underlying38 I3.1 I3.2.1 I3.2.2.1 I3.2.2.2 rfl (by decide) _ _ _ rfl a6 (some ⟨g,0,none⟩) 1 1 [.int .i64 n] rfl rfl ?_ ?_ (by unfold maxLen;omega) (by omega) (by omega) ?_;·(
 intro _;exact⟨_,_,rfl,fun j u hu=>by
  rcases j with _|j;·rw[dU,HT.2.2];exact hu
  simp at hu⟩)
  ·intro u hu
   rw[ce.1 hu];rfl
  intro v2 w4 a7 h5 e6;obtain⟨C2,j1,rfl⟩:=cd a7;have b6:=HT.2.1.grown h5 (fun e=>by have:=(au a6 e.symm).1;omega);have y5:=b6.cell 6;have f5:=b6.free 6;simp only[gc] at y5;have H2:=J4 b6 a7 h5 e6;clear b6 a7 h5 e6))
 go_roundg (x.Nn.length-(j+1));·(
 refine⟨j+1,.slice C2 (j+1) j1,by omega,rfl,by go_num,(((HR.1.trans HT.1.all).grown H2.2.2.1 fun b hb=>.inr (au a6 hb).1).setCell (.inl fun h=>h rfl) _),?_,?_,?_⟩
 ·have:=H2.1.set 6 (.slice C2 (j+1) j1)
  simpa using this
 ·have e:aW ((x.Nn.map (aH (bg f))).take (j+1))=aW ((x.Nn.map (aH (bg f))).take j)++[.int .i64 n]:=by rw[dT,cy,HR.2.2.2.2.2.1,←h0.out];simp[aW]
  rw[e];exact ay H2.2.1 ((aa.refl (fun b=>b≠w.heap.size+1+1+1) _).setCell (.inl fun h=>h rfl) _) fun b hb=>by have:=(au H2.2.1 hb).1;show b≠_;omega
 intro i a' hi c9;by_cases e:i=j;·subst e;rw[HR.2.2.2.2.2.1] at c9;injection c9 with c9;subst c9;exact aY.1 (by rw[h0.out];exact HF.out)
 exact HR.2.2.2.1 i a' (by omega) c9)
 omega)
 have HF:=oH hf;have l6:=oH (show¬kM p q f x from fun h=>hf (by rw[←h0.out];exact aY.2 (h.2.2.2.1 a (mG HR.2.2.2.2.2.1))));refine aK 9 (aa All wr) [] (fun _ _ _=>True) (fun i=>if i=7 then some (·=.int .i64 0) else if i=8 then some (fun v=>∃g,v=.slice (some ⟨g,0,none⟩) 1 1) else none) (fun i=>decide (i=7)) (fun ch wn=>∃a n:Int,n≠0∧aS a∧aS n∧ch=[{v:=.iface 153 (.agg #[.int .i64 a,.int .i64 n]),recovered:=false}]∧aa All wr wn) (by kernel_rfl) (by kernel_rfl) (by kernel_rfl) (by kernel_rfl) kR.drew ?_ ?_
 ·rintro a ch wn ⟨an,nn,j2,j3,j4,rfl,j5⟩ j6
  exact⟨j6,.inr ⟨l6.out,⟨an,nn,j2,j3,j4,rfl⟩,HR.2.2.2.2.2.2.trans j5⟩⟩
 simp only[tK];clear hf;refine O0 ?_;refine O4 HR.2.2.2.2.1 ?_;refine O0 ?_;refine O4 HR.2.2.2.2.1 ?_;iterate 2 refine O0 ?_
 refine O4 HR.2.2.2.2.1 ?_;refine O7 (.int .i64 0) (fun wn I hp=>⟨_,_,by(obtain⟨e0,e1,e2⟩:=HR.2.2.2.2.1 wn I;go_simp<;>with_reducible rfl),((HL.out wn I).mono fun e w' h=>?_)⟩) ?_
 ·rcases h with ⟨h1,_⟩|⟨_,⟨an,nn,h1,h2,h3,rfl⟩,h4⟩
  ·exact absurd h1 HF.out
  exact⟨_,rfl,an,nn,h1,h2,h3,rfl,I.trans h4⟩
 refine O6 (fun wn I hp=>?_) (fun wn I hp=>?_) ?_
 ·go_simp
  exact⟨rfl,⟨_,rfl⟩,I.alloc _,fun _ _ _ h=>h,fun d hd hT=>by cases hT⟩
 ·exact⟨.slice (some ⟨wn.heap.size,0,none⟩) 1 1,wn.alloc (.cells #[.int .i64 0] 3),⟨_,rfl⟩,I.alloc _,fun _ _ _ h=>h,fun d hd hT=>by cases hT⟩
 intro v _;exact cZ)
 obtain rfl:j=x.Nn.length:=by omega
 rw[oz (by rw[aZ];omega)] at J;have d7:∀a∈x.Nn,a∈bg f:=fun a ha=>by obtain⟨i,hi⟩:=List.getElem?_of_mem ha;exact b0 i a (lS.1 hi).1 hi
 have hint:=BS (pL (S:=fun b=>wo.heap.size≤b) J (by rw[aZ]) (by rw[aZ];omega) (fun g hg=>(au J hg).1) fun y hy=>by obtain⟨a,_,rfl⟩:=dt.1 hy;have:=ln (bg f) a;exact mO (by unfold aS;omega));have HQ:=J5 R a1 hint d7 b8;have l7:=HW.2.2.2.2.1.kept (h8.out.trans R) (by show _≠_;omega);have x0:=l7.cell 0;simp only[gc] at x0;have HX:=oH l7;have p4:=oH (h8.out.trans R);clear R a1 J b0 d7 hint b8 l7;clear x6;go_upto_if 70 with fail;go_cut [] (fun wx=>aa All wr wx∧(x.kind=7→∀g,q.Nl[r.toNat]? =some g→x.args.length=g.params.length))
 case first=>(
 by_cases e7:x.kind=7;·(
 have t7:=yK x.kind 7 (by omega);have l8:r=aH (ee q) x.ref:=by rw[←H4.2.2.2.2.1];unfold cK;simp[e7]
 have q4:0≤r:=by rw[←H4.2.2.2.2.1];exact H4.2.2.2.1.1
 have q5:r.toNat<q.Nl.length:=by obtain⟨k,I,j7⟩:=yI (aY.1 (by rw[←l8];exact q4));have:=(lS.1 j7).1;unfold ee at this;rw[aZ] at this;rw[l8,I];simpa using this
 have r6:r<(q.Nl.length:Int):=by omega
 obtain⟨g,hg⟩:=eG q5;obtain⟨r7,vu,vi,vo,pa,pf,ba,r8,R1,R2,⟨r9,s3,k9,q6,R3⟩,R4,R5⟩:=HM.1.keep HQ.2.2.2.2;iterate 2 injection k9 with k9
 simp only[List.cons.injEq,and_true] at k9;obtain⟨rfl,rfl⟩:=k9;obtain⟨fA,fc,rfl,s4,s5,s6,_⟩:=id R3;obtain⟨gb,go,s7,rfl,s8,r4,p5,gp,gv,rfl,q7,q8,_⟩:=bh R3 hg;obtain⟨q9,r0,rfl,_⟩:=q7;have l1:=p5 1 _ rfl;have p6:∀wn,aa All wr wn→wn.cell? ⟨br,6,none⟩=some (.slice (some ⟨gb,go,none⟩) q.Nl.length fc)∧wn.cell? ⟨gb,go+r.toNat*4+1,none⟩=some (.slice q9 g.params.length r0)∧wn.cell? ⟨w.heap.size+1+1+1,3,none⟩=some (.int .i64 r)∧wn.cell? ⟨w.heap.size+1,5,none⟩=some (.slice ua x.args.length uc)∧wn.cell? ⟨w.heap.size+1,8,none⟩=some (.int .i64 x.Np):=fun wn I=>
  ⟨I.cell trivial (R1.cell 6),I.cell trivial l1,(HQ.2.1.kept I trivial).cell 3,(HX.out.kept I trivial).cell 5,(HX.out.kept I trivial).cell 8⟩
 have HY:=J3 p6 hg e7;have r3:=oH HM.2.2.2.2.2.1.Np;clear p6 R1 R2 q6 R3 R4 R5 p5 l1 q8 hg l8 e7;go_upto_region 14 with fail;by_cases hn:x.args.length=g.params.length
 ·have tn:((x.args.length:Int)==(g.params.length:Int))=true:=by rw[cX];omega
  have HN:=oH hn;clear hn;refine R0 18 wr (fun i=>if i=17 then some (·=.tuple #[]) else none) ?_;refine O0 ?_;refine O4 HY.1 ?_;iterate 5 refine O0 ?_
  refine O4 HY.1 ?_;refine O0 ?_;refine O4 HY.1 ?_;iterate 2 refine O0 ?_
  refine O4 HY.1 ?_;iterate 3 refine O0 ?_
  refine O4 HY.1 ?_;refine O5 (v:=.tuple #[]) (fun wn I hp=>⟨_,_,by(go_simp<;>with_reducible rfl),(dl x.Np 13 wn).mono fun e w' h=>⟨h.1,h.2▸I,fun _ h=>by cases h⟩⟩) ?_;refine aD fun wt b3 hF=>?_;have HT:=oH b3;clear b3 hF;simp only[dK];go_wp2_with fail;go_meet;exact⟨HT.out,fun _ g' p7=>by rw[HY.2.1] at p7;cases p7;exact HN.out⟩
 have tn:((x.args.length:Int)==(g.params.length:Int))=false:=by rw[bE];omega
 have HN:=oH (show¬kM p q f x from fun h=>hn (h.2.2.2.2 HY.2.2 g (by rw[H4.2.2.2.2.1];exact HY.2.1)));clear hn;refine aK 18 (aa All wr) [] (fun _ _ _=>True) (fun i=>if i=17 then some (·=.tuple #[]) else none) (fun i=>decide (i=17)) (fun ch wn=>∃a n:Int,n≠0∧aS a∧aS n∧ch=[{v:=.iface 153 (.agg #[.int .i64 a,.int .i64 n]),recovered:=false}]∧aa All wr wn) (by kernel_rfl) (by kernel_rfl) (by kernel_rfl) (by kernel_rfl) kR.drew ?_ ?_
 ·rintro a ch wn ⟨an,nn,j2,j3,j4,rfl,j5⟩ j6
  exact⟨j6,.inr ⟨HN.out,⟨an,nn,j2,j3,j4,rfl⟩,HQ.2.2.2.2.trans j5⟩⟩
 simp only[tK];refine O0 ?_;refine O4 HY.1 ?_;iterate 5 refine O0 ?_
 refine O4 HY.1 ?_;refine O0 ?_;refine O4 HY.1 ?_;iterate 2 refine O0 ?_
 refine O4 HY.1 ?_;iterate 3 refine O0 ?_
 refine O4 HY.1 ?_;refine O7 (.tuple #[]) (fun wn I hp=>⟨_,_,by(go_simp<;>with_reducible rfl),(eP x.Np 13 wn).mono fun e w' h=>⟨_,h.1,x.Np,13,by decide,r3.out,by unfold aS;omega,rfl,h.2▸I⟩⟩) ?_;exact cZ)
 have t7:=nK x.kind 7 (by omega);have HN:=oH e7;clear e7;go_wp2_with fail;go_meet;exact⟨kR,fun h=>absurd h HN.out⟩)
 obtain⟨a8,e4⟩:=hcut;have b7:=HQ.2.1.kept a8 trivial;have p8:=HX.out.kept a8 trivial;have l0:=(HW.2.2.2.2.2.1.kept p4.out (by show _≠_;omega)).kept a8 trivial;have p9:=(HW.2.2.2.1.kept p4.out (by show _≠_;omega)).kept a8 trivial;have x2:=p8.cell 2;have s1:=p9.cell 1;have fy:=b7.free 2;have yy:=b7.cell 2;have nr:=jj x.dst;simp only[gc] at x2 s1 yy;clear p8 p9;by_cases h6:x.dst=dQ
 ·rw[be h6] at nr;have HD:=oH h6;clear h6;have C:=l0;have y0:=b7.cell 0;have y1:=b7.cell 1;have y2:=b7.cell 2;have y3:=b7.cell 3;have y4:=b7.cell 4;have y5:=b7.cell 5;have y6:=b7.cell 6;have y7:=b7.cell 7;have y8:=b7.cell 8;have o0:=C.cell 0;have o1:=C.cell 1;have o2:=C.cell 2;have o3:=C.cell 3;have o4:=C.cell 4;have o5:=C.cell 5;have o6:=C.cell 6;have o7:=C.cell 7;have o8:=C.cell 8;have k0:=C.free 0;have k1:=C.free 1;have k2:=C.free 2;have k3:=C.free 3;have k4:=C.free 4;have k5:=C.free 5;have k6:=C.free 6;have k7:=C.free 7;have k8:=C.free 8;have Y:=(((((((((C.set 0 (.int .u8 x.kind)).set 1 (.int .u8 x.op)).set 2 (.int .i64 (-1))).set 3 (.int .i64 r)).set 4 (.int .i64 s)).set 5 (.slice E1 x.args.length d9)).set 6 (.slice E2 x.Nn.length e3)).set 7 (.int .i64 x.num)).set 8 (.int .i64 x.Np));have c0:=Y.cell 0;have c1:=Y.cell 1;have c2:=Y.cell 2;have c3:=Y.cell 3;have c4:=Y.cell 4;have c5:=Y.cell 5;have c6:=Y.cell 6;have c7:=Y.cell 7;have c8:=Y.cell 8;have d8:=((((((((((aa.refl (fun b=>b≠w.heap.size+1+1∧b≠w.heap.size+1+1+1) wc).setCell (p:=⟨w.heap.size+1+1,0,none⟩) (.inl fun h=>h.1 rfl) (.int .u8 x.kind)).setCell (p:=⟨w.heap.size+1+1,1,none⟩) (.inl fun h=>h.1 rfl) (.int .u8 x.op)).setCell (p:=⟨w.heap.size+1+1,2,none⟩) (.inl fun h=>h.1 rfl) (.int .i64 (-1))).setCell (p:=⟨w.heap.size+1+1,3,none⟩) (.inl fun h=>h.1 rfl) (.int .i64 r)).setCell (p:=⟨w.heap.size+1+1,4,none⟩) (.inl fun h=>h.1 rfl) (.int .i64 s)).setCell (p:=⟨w.heap.size+1+1,5,none⟩) (.inl fun h=>h.1 rfl) (.slice E1 x.args.length d9)).setCell (p:=⟨w.heap.size+1+1,6,none⟩) (.inl fun h=>h.1 rfl) (.slice E2 x.Nn.length e3)).setCell (p:=⟨w.heap.size+1+1,7,none⟩) (.inl fun h=>h.1 rfl) (.int .i64 x.num)).setCell (p:=⟨w.heap.size+1+1,8,none⟩) (.inl fun h=>h.1 rfl) (.int .i64 x.Np));simp only[ga,gc] at y0 o0 c0 y1 o1 c1 y2 o2 c2 y3 o3 c3 y4 o4 c4 y5 o5 c5 y6 o6 c6 y7 o7 c7 y8 o8 c8;have h1:=ae.keep (S:=fun b=>w.heap.size≤b∧b<wo.heap.size∧b≠w.heap.size+1+1∧b≠w.heap.size+1+1+1) ((HQ.1.mono fun b hb=>hb.2.2.2).trans (a8.all.trans (d8.mono fun b hb=>⟨hb.2.2.1,hb.2.2.2⟩))) (ae.wide (fun b (hb:W4.heap.size≤b∧b<wo.heap.size)=>by omega) HO.2.2.1);have h2:=ae.keep (S:=fun b=>w.heap.size≤b∧b<wr.heap.size∧b≠w.heap.size+1+1∧b≠w.heap.size+1+1+1) (a8.all.trans (d8.mono fun b hb=>⟨hb.2.2.1,hb.2.2.2⟩)) (ae.wide (fun b (hb:wo.heap.size≤b∧b<wr.heap.size)=>by omega) HQ.2.2.1);have e8:=d8.size;have e9:=a8.size;have HZ:=J5 h1 h2 (aq ((HQ.2.2.2.2.trans a8).all.trans (d8.mono fun b hb=>by constructor<;>(show b≠_)<;>omega))) e8 e9;have HA:=oH e4;clear h1 h2 d8 Y C l0 b7 a8 e8 e9 e4;skip;go_wp2_with fail;refine bodyPost_ret (v:=.agg #[.int .u8 x.kind,.int .u8 x.op,.int .i64 (-1),.int .i64 r,.int .i64 s,.slice E1 x.args.length d9,.slice E2 x.Nn.length e3,.int .i64 x.num,.int .i64 x.Np]) (by simp[results,Tryz.f141,go_sem,c0,c1,c2,c3,c4,c5,c6,c7,c8]) rfl (.inl ⟨⟨H4.2.2.2.1.1,H4.2.2.2.1.2,HO.2.2.2,HQ.2.2.2.1,fun e7 g hg=>HA.out e7 g (by rw[←H4.2.2.2.2.1];exact hg)⟩,HZ.2.2.1,(-1),r,s,E1,_,d9,E2,_,e3,rfl,Kj ?_ H4.2.2.2.2.1 H4.2.2.2.2.2 ?_ ?_ HM.2.2.2.2.2.1 HM.2.2.2.2.2.2.1 ?_⟩);·rw[am HD.out]
  ·exact ae.wide (fun b hb=>by have:=HZ.2.2.2.1;have:=HZ.2.2.2.2;omega) HZ.1
  ·exact ae.wide (fun b hb=>by have:=HZ.2.2.2.1;have:=HZ.2.2.2.2;omega) HZ.2.1
  unfold aS;omega
 rw[cN h6] at nr;have q0:=(HM.2.2.1.keep (HQ.2.2.2.2.trans a8) trivial).get (s:=x.dst) (by have:=HM.2.2.2.2.2.1.dst;unfold maxLen;omega);have l2:0≤aH (aO f) x.dst:=aY.2 (HM.2.2.2.2.2.2.2.resolve_left h6);have i7:=ln (aO f) x.dst;rw[Int.max_eq_left l2] at q0;obtain⟨n,hn⟩:=eR (aH (aO f) x.dst);rw[hn] at q0 i7;have HD:=J2 h6 hn;clear h6 hn l2;have C:=l0.far (p:=⟨w.heap.size+1+1+1,2,none⟩) (show w.heap.size+1+1≠w.heap.size+1+1+1 by omega) (.int .i64 n);have yz:=b7.set 2 (.int .i64 n);have y0:=yz.cell 0;have y1:=yz.cell 1;have y2:=yz.cell 2;have y3:=yz.cell 3;have y4:=yz.cell 4;have y5:=yz.cell 5;have y6:=yz.cell 6;have y7:=yz.cell 7;have y8:=yz.cell 8;have o0:=C.cell 0;have o1:=C.cell 1;have o2:=C.cell 2;have o3:=C.cell 3;have o4:=C.cell 4;have o5:=C.cell 5;have o6:=C.cell 6;have o7:=C.cell 7;have o8:=C.cell 8;have k0:=C.free 0;have k1:=C.free 1;have k2:=C.free 2;have k3:=C.free 3;have k4:=C.free 4;have k5:=C.free 5;have k6:=C.free 6;have k7:=C.free 7;have k8:=C.free 8;have Y:=(((((((((C.set 0 (.int .u8 x.kind)).set 1 (.int .u8 x.op)).set 2 (.int .i64 n)).set 3 (.int .i64 r)).set 4 (.int .i64 s)).set 5 (.slice E1 x.args.length d9)).set 6 (.slice E2 x.Nn.length e3)).set 7 (.int .i64 x.num)).set 8 (.int .i64 x.Np));have c0:=Y.cell 0;have c1:=Y.cell 1;have c2:=Y.cell 2;have c3:=Y.cell 3;have c4:=Y.cell 4;have c5:=Y.cell 5;have c6:=Y.cell 6;have c7:=Y.cell 7;have c8:=Y.cell 8;have d8:=(((((((((((aa.refl (fun b=>b≠w.heap.size+1+1∧b≠w.heap.size+1+1+1) wc).setCell (p:=⟨w.heap.size+1+1+1,2,none⟩) (.inl fun h=>h.2 rfl) (.int .i64 n)).setCell (p:=⟨w.heap.size+1+1,0,none⟩) (.inl fun h=>h.1 rfl) (.int .u8 x.kind)).setCell (p:=⟨w.heap.size+1+1,1,none⟩) (.inl fun h=>h.1 rfl) (.int .u8 x.op)).setCell (p:=⟨w.heap.size+1+1,2,none⟩) (.inl fun h=>h.1 rfl) (.int .i64 n)).setCell (p:=⟨w.heap.size+1+1,3,none⟩) (.inl fun h=>h.1 rfl) (.int .i64 r)).setCell (p:=⟨w.heap.size+1+1,4,none⟩) (.inl fun h=>h.1 rfl) (.int .i64 s)).setCell (p:=⟨w.heap.size+1+1,5,none⟩) (.inl fun h=>h.1 rfl) (.slice E1 x.args.length d9)).setCell (p:=⟨w.heap.size+1+1,6,none⟩) (.inl fun h=>h.1 rfl) (.slice E2 x.Nn.length e3)).setCell (p:=⟨w.heap.size+1+1,7,none⟩) (.inl fun h=>h.1 rfl) (.int .i64 x.num)).setCell (p:=⟨w.heap.size+1+1,8,none⟩) (.inl fun h=>h.1 rfl) (.int .i64 x.Np));simp only[ga,gc] at y0 o0 c0 y1 o1 c1 y2 o2 c2 y3 o3 c3 y4 o4 c4 y5 o5 c5 y6 o6 c6 y7 o7 c7 y8 o8 c8;have h1:=ae.keep (S:=fun b=>w.heap.size≤b∧b<wo.heap.size∧b≠w.heap.size+1+1∧b≠w.heap.size+1+1+1) ((HQ.1.mono fun b hb=>hb.2.2.2).trans (a8.all.trans (d8.mono fun b hb=>⟨hb.2.2.1,hb.2.2.2⟩))) (ae.wide (fun b (hb:W4.heap.size≤b∧b<wo.heap.size)=>by omega) HO.2.2.1);have h2:=ae.keep (S:=fun b=>w.heap.size≤b∧b<wr.heap.size∧b≠w.heap.size+1+1∧b≠w.heap.size+1+1+1) (a8.all.trans (d8.mono fun b hb=>⟨hb.2.2.1,hb.2.2.2⟩)) (ae.wide (fun b (hb:wo.heap.size≤b∧b<wr.heap.size)=>by omega) HQ.2.2.1);have e8:=d8.size;have e9:=a8.size;have HZ:=J5 h1 h2 (aq ((HQ.2.2.2.2.trans a8).all.trans (d8.mono fun b hb=>by constructor<;>(show b≠_)<;>omega))) e8 e9;have HA:=oH e4;clear h1 h2 d8 Y C l0 b7 a8 e8 e9 e4;clear yz;go_wp2_with fail;refine bodyPost_ret (v:=.agg #[.int .u8 x.kind,.int .u8 x.op,.int .i64 n,.int .i64 r,.int .i64 s,.slice E1 x.args.length d9,.slice E2 x.Nn.length e3,.int .i64 x.num,.int .i64 x.Np]) (by simp[results,Tryz.f141,go_sem,c0,c1,c2,c3,c4,c5,c6,c7,c8]) rfl (.inl ⟨⟨H4.2.2.2.1.1,H4.2.2.2.1.2,HO.2.2.2,HQ.2.2.2.1,fun e7 g hg=>HA.out e7 g (by rw[←H4.2.2.2.2.1];exact hg)⟩,HZ.2.2.1,n,r,s,E1,_,d9,E2,_,e3,rfl,Kj ?_ H4.2.2.2.2.1 H4.2.2.2.2.2 ?_ ?_ HM.2.2.2.2.2.1 HM.2.2.2.2.2.2.1 ?_⟩);·rw[ah HD.1,HD.2]
 ·exact ae.wide (fun b hb=>by have:=HZ.2.2.2.1;have:=HZ.2.2.2.2;omega) HZ.1
 ·exact ae.wide (fun b hb=>by have:=HZ.2.2.2.1;have:=HZ.2.2.2.2;omega) HZ.2.1
 unfold aS;omega
section
theorem cq.made {α:Type}{n:Nat}{e:TypeId}{E:aT α}{B:Nat}(w:World)(cur:Array Value)(cap:Nat)(j:B≤w.heap.size)(hm:cap≤maxLen)(o:cur.size=cap*n):
 cq n e E B (w.alloc (.cells cur e)) (.slice (some ⟨w.heap.size,0,none⟩) 0 cap) ([]:List α):=
 ⟨[],fun _=>False,World.ownsRow_made w cur cap j hm o,rfl,(fun _ h=>by cases h),fun _ h=>h.elim,fun i x h=>by simp at h⟩
def io {α:Type}(E:cM α):aT α:=fun S w cs x=>∃v,cs=[v]∧E S w v x
theorem fg {α:Type}{E:cM α}(g:cM.Good E):aT.Good (io E):=by
 constructor
 ·rintro S w j cs x k ⟨v,e,h⟩
  exact⟨v,e,g.keep k h⟩
 rintro S T w cs x k ⟨v,e,h⟩;exact⟨v,e,g.wide k h⟩
theorem wY {α:Type}{bw:Nat}{E:cM α}{S:Nat→Prop}{w:World}{v:Value}{l:List α}(h:qT 1 bw (io E) S w v l):Sl bw E S w v l:=by obtain⟨a,cap,rfl,j,o,C,h⟩:=h;refine⟨a,cap,rfl,j,o,C,fun i x I=>?_⟩;obtain⟨b,off,cs,e,J,_,R,u,rfl,Y⟩:=h i x I;exact⟨b,off,u,e,J,by have:=R 0 u rfl;rwa [Nat.mul_one,cJ] at this,Y⟩
theorem sJ {l:List Nat}{x:Nat}(h:x∈l):x≤l.sum:=by
 induction l with
 |nil=>cases h
 |cons a l j=>
  rw[List.sum_cons];rcases fV.1 h with rfl|h;·omega
  have:=j h;omega
section
variable {p:aI} {q:cf} {f:aR} {b:bM} {x:aB}
theorem yh (j:dr q)(o:f∈q.Nl):fe f≤4096:=dA (sJ (dt.2 ⟨f,o,rfl⟩)) j.2.2.2.2
theorem Fl (j:dr q)(o:f∈q.Nl)(C:b∈f.Nm):b.code.length≤4096:=dA (sJ (dt.2 ⟨b,C,rfl⟩)) (yh j o)
theorem xh (j:dr q)(o:f∈q.Nl):(aO f).length≤5000:=by
 have C:=yh j o;have I:=(j.2.2.2.1 f o).2.2.1;have J:(sx f).length≤fe f:=by unfold sx fe;refine dA (List.length_filter_le _ _) ?_;rw[List.length_flatMap];simp
 unfold aO;rw[eV];omega
theorem pu (j:dr q)(o:f∈q.Nl):(bg f).length≤64∧f.Nm.length≤64:=by have:=(j.2.2.2.1 f o).2.2.2.2.1;unfold bg;rw[aZ];exact⟨this,this⟩
theorem KK (j:b∈f.Nm)(o:x∈b.code):x.dst=dQ∨x.dst∈aO f:=by
 by_cases h:x.dst=dQ;·exact .inl h
 right;refine dV.2 (.inr (List.mem_filter.2 ⟨List.mem_flatMap.2 ⟨b,j,dt.2 ⟨x,o,rfl⟩⟩,?_⟩));simpa using h
theorem It (j:dr q)(o:f∈q.Nl)(C:b∈f.Nm)(I:x∈b.code):x.args.length≤64∧x.Nn.length≤64:=by
 obtain⟨_,_,_,_,_,J,R⟩:=((j.2.2.2.1 f o).2.2.2.2.2 b C).2 x I;by_cases h:x.kind=3
 ·obtain⟨_,_,_,e,Y,h6⟩:=J h
  omega
 obtain⟨s,_,e,_,Y,_⟩:=R h;rw[e];exact⟨by omega,by simp⟩
theorem lI {α:Type}(f:α→Bool)(l:List α)(h:l.length≤1048576):aS (gt f l):=by have:=nN f l;unfold aS;omega
theorem GO (j:dZ p)(o:dr q)(C:f∈q.Nl):aS (cK p q f x)∧aS (cR f x):=by
 have R:=j.1;have Y:=j.2.1.1.2.1;have h3:=j.2.2.2.2.2.1.1;have h4:=j.2.2.2.2.2.2.1;have h5:=o.1;have h6:=o.2.1;have h7:=(pu o C).1;have I:(cS q).length≤1048576:=by unfold cS;rw[aZ];omega
 have J:(ee q).length≤1048576:=by unfold ee;rw[aZ];omega
 have z:aS 0:=by unfold aS;omega
 constructor;·(
 unfold cK;split;·exact lI _ _ I
 split;·exact lI _ _ J
 split;·exact lI _ _ (by omega)
 split;·exact lI _ _ (by omega)
 split;·exact lI _ _ (by omega)
 split;·exact lI _ _ (by omega)
 exact z)
 unfold cR;split;·exact lI _ _ (by omega)
 exact z
end
def wd:aT aR:=fun S w cs f=>∃b1 b2,cs=[.map (some b1),.map (some b2)]∧S b1∧S b2∧vZ w b1 b2 f
theorem nH:aT.Good wd:=by
 constructor
 ·rintro S w Y cs x k ⟨C,I,e,j,o,J,R⟩
  exact⟨C,I,e,j,o,J.keep k j,R.keep k o⟩
 rintro S T w cs x k ⟨C,I,e,j,o,J⟩;exact⟨C,I,e,k _ j,k _ o,J⟩
theorem vd:(prog.info? 167).map (fun i=>(i.zero,i.size,i.bytes))=some (some (.agg #[.map none,.map none]),2,16):=by kernel_rfl
theorem Dn (n:Nat)(I:n≤1048576)(w:World):(Instr.makeSlice 165 (.int .i64 0) (.int .i64 n)).run prog w=.ok (.slice (some ⟨w.heap.size,0,none⟩) 0 n) (w.alloc (.cells (madeCells #[.map none,.map none] (n*2)) 167)):=by obtain⟨i,hi,j,o,C⟩:=info_parts vd;rw[run_make (P:=prog) w 165 167 i _ underlying165 hi j .i64 .i64 0 n (by omega) (by omega) (by rw[C];omega) (by omega),o,fD];rfl
end
theorem sE:(prog.info? 3).map (fun i=>(i.zero,i.size,i.bytes))=some (some (.int .i64 0),1,8):=by kernel_rfl
theorem Db:(prog.info? 38).map (fun i=>(i.zero,i.size,i.bytes))=some (some (.slice none 0 0),1,24):=by kernel_rfl
def Ku (b:av)(w:World)(e:Ending)(w':World):Prop:=∃u,e=.returned (.tuple #[u,.bool true])∧Rows (fun g=>w.heap.size≤g∧g<w'.heap.size) w' u (aM b)∧aa All w w'
section
open Classical in
noncomputable def tA (b:av)(i:Nat)(x:bI):Int:=if iZ b x i then(if∀(m:Nat) v f,x.args[m]? =some v→x.Nn[m]? =some f→ju b v f.toNat then 0 else 19) else 18
open Classical in
theorem JA {b:av}{i k:Nat}{x:bI}(h:x.kind=3):uj b i k x=tA b i x:=by unfold uj tA;rw[am h]
theorem JE {b:av}{i:Nat}{x:bI}(h:¬iZ b x i):tA b i x=18:=by unfold tA;rw[ah h]
theorem JF {b:av}{i:Nat}{x:bI}(h:iZ b x i){m:Nat}{v f:Int}(j:x.args[m]? =some v)(o:x.Nn[m]? =some f)(C:¬ju b v f.toNat):tA b i x=19:=by unfold tA;rw[am h,ah fun h'=>C (h' m v f j o)]
theorem Ll {b:av}{i:Nat}{x:bI}(h:iZ b x i)(j:∀(m:Nat) v f,x.args[m]? =some v→x.Nn[m]? =some f→ju b v f.toNat):tA b i x=0:=by unfold tA;rw[am h,am j]
end
end Go.Proofs.YtccbbkopmlnkpaaGreatDoor
