/- Part 14 of the proof (its last part says what is proved). No condition. -/
import Derived.Test.YtccbbkopmlnkpaaGreatDoorK12
namespace Go.Proofs.YtccbbkopmlnkpaaGreatDoor
set_option maxRecDepth 100000
set_option maxHeartbeats 8000000
open Go.RowKit Go.Proofs.Tryz
def se (S:Nat→Prop)(w:World)(br:Nat)(p:aI)(q:cf):Prop:=∃va1 vu vi vo pa pf ba bfn,al w br 158 #[va1,vu,vi,vo,.int .i64 p.Nj,pa,pf,.map (some ba),.map (some bfn)]∧gR S w (.agg #[va1,vu,vi,vo,.int .i64 p.Nj]) p∧xw S w (.agg #[pa,pf]) q∧
 bN w ba (cS q)∧bN w bfn (ee q)
theorem se.keep {S:Nat→Prop}{w C:World}{I:Nat}{p:aI}{q:cf}(h:se S w I p q)(k:aa All w C):se S C I p q:=by obtain⟨j,J,R,Y,pa,pf,ba,o,h1,h2,h3,h4,h5⟩:=h;exact⟨j,J,R,Y,pa,pf,ba,o,h1.kept k trivial,bG.keep k.all h2,lf.keep k.all h3,h4.keep k trivial,h5.keep k trivial⟩
def MG (p:aI)(q:cf)(f:aR)(x:aB)(w:World)(e:Ending)(w':World):Prop:=
 qi (0≤cK p q f x∧0≤cR f x) (fun e w'=>e=.returned (.tuple #[.int .i64 (cK p q f x),.int .i64 (cR f x)])∧aa All w w') w e w'
theorem GN (S:Nat→Prop)(br:Nat)(p:aI)(q:cf)(f:aR)(x:aB)(b1 b2:Nat)(xa xf:Value)(w:World)(R:se S w br p q)(c5:bN w b1 (bg f))(c8:cC S w xa x.args)(c9:cC S w xf x.Nn)(hx:qR x):
 Calls prog 200 #[.pointer (some ⟨br,0,none⟩),.agg #[.map (some b1),.map (some b2)],.agg #[.int .u8 x.kind,.int .u8 x.op,.string x.dst,.string x.ref,.string x.No,xa,xf,.int .i64 x.num,.int .i64 x.Np]] w (MG p q f x w):=by
 obtain⟨ua,uc,rfl,_⟩:=c8;obtain⟨va,vc,rfl,_⟩:=c9;obtain⟨h8,vu,vi,vo,pa,pf,ba,c6,Y,h2,h3,h4,h5⟩:=R;have d7:=h2;obtain⟨P1,P2,P3,P4,c4,d8,d9,h0,h6,h7⟩:=d7;iterate 2 injection c4 with c4
 simp only[List.cons.injEq,and_true] at c4;obtain⟨rfl,rfl,rfl,rfl⟩:=c4;obtain⟨a1,n1,rfl,_⟩:=d8;obtain⟨a2,n2,rfl,_⟩:=d9;obtain⟨a3,n3,rfl,_⟩:=h0;obtain⟨a4,n4,rfl,_⟩:=h6;obtain⟨W1,b9⟩:=eQ ((w.alloc (.cells #[.map (some b1),.map (some b2)] 167)).alloc (.cells #[.int .u8 x.kind,.int .u8 x.op,.string x.dst,.string x.ref,.string x.No,.slice ua x.args.length uc,.slice va x.Nn.length vc,.int .i64 x.num,.int .i64 x.Np] 185));have b7:aa All w W1:=by rw[b9];exact(kR.alloc _).alloc _
 have bS:al W1 w.heap.size 167 #[.map (some b1),.map (some b2)]:=by rw[b9];exact(al.new _ _ _).alloc _
 have bX:al W1 (w.heap.size+1) 185 #[.int .u8 x.kind,.int .u8 x.op,.string x.dst,.string x.ref,.string x.No,.slice ua x.args.length uc,.slice va x.Nn.length vc,.int .i64 x.num,.int .i64 x.Np]:=by rw[b9];exact ac (by simp)
 have bR:=Y.kept b7 trivial;have x0:=bX.cell 0;simp only[gc] at x0;have I:=oH (show∀wn,aa All W1 wn→wn.cell? ⟨br,0,none⟩=some (.slice a1 p.Ng.length n1)∧wn.cell? ⟨br,1,none⟩=some (.slice a2 p.up.length n2)∧wn.cell? ⟨br,2,none⟩=some (.slice a3 p.Ni.length n3)∧wn.cell? ⟨br,3,none⟩=some (.slice a4 p.Nh.length n4)∧wn.cell? ⟨br,4,none⟩=some (.int .i64 p.Nj)∧wn.cell? ⟨br,7,none⟩=some (.map (some ba))∧wn.cell? ⟨br,8,none⟩=some (.map (some c6))∧wn.cell? ⟨w.heap.size+1,3,none⟩=some (.string x.ref)∧wn.cell? ⟨w.heap.size+1,4,none⟩=some (.string x.No)∧wn.cell? ⟨w.heap.size+1,8,none⟩=some (.int .i64 x.Np)∧wn.cell? ⟨w.heap.size,0,none⟩=some (.map (some b1)) from fun wn j=>⟨(bR.kept j trivial).cell 0,(bR.kept j trivial).cell 1,(bR.kept j trivial).cell 2,(bR.kept j trivial).cell 3,(bR.kept j trivial).cell 4,(bR.kept j trivial).cell 7,(bR.kept j trivial).cell 8,(bX.kept j trivial).cell 3,(bX.kept j trivial).cell 4,(bX.kept j trivial).cell 8,(bS.kept j trivial).cell 0⟩);have HW:=J3 b9 b7 hx
 have HC:=J2 (fun wn (j:aa All W1 wn)=>li ba (cS q) x.ref x.Np wn ((h4.keep b7 trivial).keep j trivial) hx.ref hx.Np) (And.intro (fun wn (j:aa All W1 wn)=>li c6 (ee q) x.ref x.Np wn ((h5.keep b7 trivial).keep j trivial) hx.ref hx.Np)
  (And.intro (fun wn (j:aa All W1 wn)=>li b1 (bg f) x.ref x.Np wn ((c5.keep b7 trivial).keep j trivial) hx.ref hx.Np) (fun wn (j:aa All W1 wn)=>li b1 (bg f) x.No x.Np wn ((c5.keep b7 trivial).keep j trivial) hx.No hx.Np)))
 have c0:=oH (fun wn (j:aa All W1 wn)=>bG.keep (b7.trans j).all h2);clear Y h2 h3 h4 h5 b9 b7 bS bX bR hx c5 h7;go_enter func200,ntmps200;go_upto_region 1 with fail;rw[←HW.1];by_cases e4:x.kind=4;·(
 have t4:=yK x.kind 4 (by omega);have o:=J2 (show cK p q f x=aH (cS q) x.ref by unfold cK;simp[e4]) (show cR f x=0 by unfold cR;simp[e4]);clear e4;go_upto_region 5 with fail;obtain⟨r,R⟩:=eR (aH (cS q) x.ref);by_cases hf:0≤r;·(
 have C:=J3 (show 0≤cK p q f x∧0≤cR f x by rw[o.1,o.2,R];omega) (o.1.trans R) o.2;have HL:=oH (fun wn (j:aa All W1 wn)=>(HC.1 wn j));rw[R] at HL;have HF:=oH hf;clear hf R;refine R0 10 W1 (fun i=>if i=8 then some (·=.int .i64 r) else none) ?_;iterate 3 refine O0 ?_
 refine O4 I.out ?_;refine O0 ?_;refine O4 I.out ?_;refine O0 ?_;refine O4 I.out ?_;refine O5 (v:=.int .i64 r) (fun wn j hp=>⟨_,_,by(obtain⟨e0,e1,e2,e3,e4,e5,e6,e7,e8,e9,a6⟩:=I.out wn j;go_simp<;>with_reducible rfl),((HL.out wn j).mono fun e w' h=>?_)⟩) ?_
 ·rcases h with ⟨_,Y,rfl⟩|⟨Y,_⟩
  ·exact⟨Y,j,fun _ h=>by cases h⟩
  exact absurd HF.out Y
 refine O0 ?_;refine aD fun wt J hF=>?_;have b3:=oH J;clear J hF;simp only[dK];go_wp2_with fail;go_ret2;exact .inl ⟨C.1,by rw[C.2.1,C.2.2]<;>rfl,HW.2.1.trans b3.out⟩)
 have b4:=oH (show¬(0≤cK p q f x∧0≤cR f x) by rw[o.1,R];omega);have HL:=oH (fun wn (j:aa All W1 wn)=>(HC.1 wn j));rw[R] at HL;have HF:=oH hf;clear hf R;refine aK 10 (aa All W1) [] (fun _ _ _=>True) (fun i=>if i=8 then some (·=.int .i64 0) else none) (fun i=>decide (i=8)) (fun ch wn=>∃a n:Int,n≠0∧aS a∧aS n∧ch=[{v:=.iface 153 (.agg #[.int .i64 a,.int .i64 n]),recovered:=false}]∧aa All W1 wn) (by kernel_rfl) (by kernel_rfl) (by kernel_rfl) (by kernel_rfl) kR.drew ?_ ?_
 ·rintro a ch wn ⟨an,nn,a7,a8,b0,rfl,b5⟩ b6
  exact⟨b6,.inr ⟨b4.out,⟨an,nn,a7,a8,b0,rfl⟩,HW.2.1.trans b5⟩⟩
 simp only[tK];iterate 3 refine O0 ?_
 refine O4 I.out ?_;refine O0 ?_;refine O4 I.out ?_;refine O0 ?_;refine O4 I.out ?_;refine O7 (.int .i64 0) (fun wn j hp=>⟨_,_,by(obtain⟨e0,e1,e2,e3,e4,e5,e6,e7,e8,e9,a6⟩:=I.out wn j;go_simp<;>with_reducible rfl),((HL.out wn j).mono fun e w' h=>?_)⟩) ?_
 ·rcases h with ⟨Y,_⟩|⟨_,⟨an,nn,Y,h2,h3,rfl⟩,h4⟩
  ·exact absurd Y HF.out
  exact⟨_,rfl,an,nn,Y,h2,h3,rfl,j.trans h4⟩
 refine O0 ?_;exact cZ)
 skip;by_cases e5:x.kind=5;·(
 have t4:=nK x.kind 4 (by omega);have t5:=yK x.kind 5 (by omega);have o:=J2 (show cK p q f x=aH (cS q) x.ref by unfold cK;simp[e5]) (show cR f x=0 by unfold cR;simp[e5]);clear e5;go_upto_region 5 with fail;obtain⟨r,R⟩:=eR (aH (cS q) x.ref);by_cases hf:0≤r;·(
 have C:=J3 (show 0≤cK p q f x∧0≤cR f x by rw[o.1,o.2,R];omega) (o.1.trans R) o.2;have HL:=oH (fun wn (j:aa All W1 wn)=>(HC.1 wn j));rw[R] at HL;have HF:=oH hf;clear hf R;refine R0 10 W1 (fun i=>if i=8 then some (·=.int .i64 r) else none) ?_;iterate 3 refine O0 ?_
 refine O4 I.out ?_;refine O0 ?_;refine O4 I.out ?_;refine O0 ?_;refine O4 I.out ?_;refine O5 (v:=.int .i64 r) (fun wn j hp=>⟨_,_,by(obtain⟨e0,e1,e2,e3,e4,e5,e6,e7,e8,e9,a6⟩:=I.out wn j;go_simp<;>with_reducible rfl),((HL.out wn j).mono fun e w' h=>?_)⟩) ?_
 ·rcases h with ⟨_,Y,rfl⟩|⟨Y,_⟩
  ·exact⟨Y,j,fun _ h=>by cases h⟩
  exact absurd HF.out Y
 refine O0 ?_;refine aD fun wt J hF=>?_;have b3:=oH J;clear J hF;simp only[dK];go_wp2_with fail;go_ret2;exact .inl ⟨C.1,by rw[C.2.1,C.2.2]<;>rfl,HW.2.1.trans b3.out⟩)
 have b4:=oH (show¬(0≤cK p q f x∧0≤cR f x) by rw[o.1,R];omega);have HL:=oH (fun wn (j:aa All W1 wn)=>(HC.1 wn j));rw[R] at HL;have HF:=oH hf;clear hf R;refine aK 10 (aa All W1) [] (fun _ _ _=>True) (fun i=>if i=8 then some (·=.int .i64 0) else none) (fun i=>decide (i=8)) (fun ch wn=>∃a n:Int,n≠0∧aS a∧aS n∧ch=[{v:=.iface 153 (.agg #[.int .i64 a,.int .i64 n]),recovered:=false}]∧aa All W1 wn) (by kernel_rfl) (by kernel_rfl) (by kernel_rfl) (by kernel_rfl) kR.drew ?_ ?_
 ·rintro a ch wn ⟨an,nn,a7,a8,b0,rfl,b5⟩ b6
  exact⟨b6,.inr ⟨b4.out,⟨an,nn,a7,a8,b0,rfl⟩,HW.2.1.trans b5⟩⟩
 simp only[tK];iterate 3 refine O0 ?_
 refine O4 I.out ?_;refine O0 ?_;refine O4 I.out ?_;refine O0 ?_;refine O4 I.out ?_;refine O7 (.int .i64 0) (fun wn j hp=>⟨_,_,by(obtain⟨e0,e1,e2,e3,e4,e5,e6,e7,e8,e9,a6⟩:=I.out wn j;go_simp<;>with_reducible rfl),((HL.out wn j).mono fun e w' h=>?_)⟩) ?_
 ·rcases h with ⟨Y,_⟩|⟨_,⟨an,nn,Y,h2,h3,rfl⟩,h4⟩
  ·exact absurd Y HF.out
  exact⟨_,rfl,an,nn,Y,h2,h3,rfl,j.trans h4⟩
 refine O0 ?_;exact cZ)
 skip;by_cases e6:x.kind=6;·(
 have t4:=nK x.kind 4 (by omega);have t5:=nK x.kind 5 (by omega);have t6:=yK x.kind 6 (by omega);have o:=J2 (show cK p q f x=aH (cS q) x.ref by unfold cK;simp[e6]) (show cR f x=0 by unfold cR;simp[e6]);clear e6;go_upto_region 5 with fail;obtain⟨r,R⟩:=eR (aH (cS q) x.ref);by_cases hf:0≤r;·(
 have C:=J3 (show 0≤cK p q f x∧0≤cR f x by rw[o.1,o.2,R];omega) (o.1.trans R) o.2;have HL:=oH (fun wn (j:aa All W1 wn)=>(HC.1 wn j));rw[R] at HL;have HF:=oH hf;clear hf R;refine R0 10 W1 (fun i=>if i=8 then some (·=.int .i64 r) else none) ?_;iterate 3 refine O0 ?_
 refine O4 I.out ?_;refine O0 ?_;refine O4 I.out ?_;refine O0 ?_;refine O4 I.out ?_;refine O5 (v:=.int .i64 r) (fun wn j hp=>⟨_,_,by(obtain⟨e0,e1,e2,e3,e4,e5,e6,e7,e8,e9,a6⟩:=I.out wn j;go_simp<;>with_reducible rfl),((HL.out wn j).mono fun e w' h=>?_)⟩) ?_
 ·rcases h with ⟨_,Y,rfl⟩|⟨Y,_⟩
  ·exact⟨Y,j,fun _ h=>by cases h⟩
  exact absurd HF.out Y
 refine O0 ?_;refine aD fun wt J hF=>?_;have b3:=oH J;clear J hF;simp only[dK];go_wp2_with fail;go_ret2;exact .inl ⟨C.1,by rw[C.2.1,C.2.2]<;>rfl,HW.2.1.trans b3.out⟩)
 have b4:=oH (show¬(0≤cK p q f x∧0≤cR f x) by rw[o.1,R];omega);have HL:=oH (fun wn (j:aa All W1 wn)=>(HC.1 wn j));rw[R] at HL;have HF:=oH hf;clear hf R;refine aK 10 (aa All W1) [] (fun _ _ _=>True) (fun i=>if i=8 then some (·=.int .i64 0) else none) (fun i=>decide (i=8)) (fun ch wn=>∃a n:Int,n≠0∧aS a∧aS n∧ch=[{v:=.iface 153 (.agg #[.int .i64 a,.int .i64 n]),recovered:=false}]∧aa All W1 wn) (by kernel_rfl) (by kernel_rfl) (by kernel_rfl) (by kernel_rfl) kR.drew ?_ ?_
 ·rintro a ch wn ⟨an,nn,a7,a8,b0,rfl,b5⟩ b6
  exact⟨b6,.inr ⟨b4.out,⟨an,nn,a7,a8,b0,rfl⟩,HW.2.1.trans b5⟩⟩
 simp only[tK];iterate 3 refine O0 ?_
 refine O4 I.out ?_;refine O0 ?_;refine O4 I.out ?_;refine O0 ?_;refine O4 I.out ?_;refine O7 (.int .i64 0) (fun wn j hp=>⟨_,_,by(obtain⟨e0,e1,e2,e3,e4,e5,e6,e7,e8,e9,a6⟩:=I.out wn j;go_simp<;>with_reducible rfl),((HL.out wn j).mono fun e w' h=>?_)⟩) ?_
 ·rcases h with ⟨Y,_⟩|⟨_,⟨an,nn,Y,h2,h3,rfl⟩,h4⟩
  ·exact absurd Y HF.out
  exact⟨_,rfl,an,nn,Y,h2,h3,rfl,j.trans h4⟩
 refine O0 ?_;exact cZ)
 skip;by_cases e7:x.kind=7;·(
 have t4:=nK x.kind 4 (by omega);have t5:=nK x.kind 5 (by omega);have t6:=nK x.kind 6 (by omega);have t7:=yK x.kind 7 (by omega);have o:=J2 (show cK p q f x=aH (ee q) x.ref by unfold cK;simp[e7]) (show cR f x=0 by unfold cR;simp[e7]);clear e7;go_upto_region 7 with fail;obtain⟨r,R⟩:=eR (aH (ee q) x.ref);by_cases hf:0≤r;·(
 have C:=J3 (show 0≤cK p q f x∧0≤cR f x by rw[o.1,o.2,R];omega) (o.1.trans R) o.2;have HL:=oH (fun wn (j:aa All W1 wn)=>(HC.2.1 wn j));rw[R] at HL;have HF:=oH hf;clear hf R;refine R0 10 W1 (fun i=>if i=8 then some (·=.int .i64 r) else none) ?_;iterate 3 refine O0 ?_
 refine O4 I.out ?_;refine O0 ?_;refine O4 I.out ?_;refine O0 ?_;refine O4 I.out ?_;refine O5 (v:=.int .i64 r) (fun wn j hp=>⟨_,_,by(obtain⟨e0,e1,e2,e3,e4,e5,e6,e7,e8,e9,a6⟩:=I.out wn j;go_simp<;>with_reducible rfl),((HL.out wn j).mono fun e w' h=>?_)⟩) ?_
 ·rcases h with ⟨_,Y,rfl⟩|⟨Y,_⟩
  ·exact⟨Y,j,fun _ h=>by cases h⟩
  exact absurd HF.out Y
 refine O0 ?_;refine aD fun wt J hF=>?_;have b3:=oH J;clear J hF;simp only[dK];go_wp2_with fail;go_ret2;exact .inl ⟨C.1,by rw[C.2.1,C.2.2]<;>rfl,HW.2.1.trans b3.out⟩)
 have b4:=oH (show¬(0≤cK p q f x∧0≤cR f x) by rw[o.1,R];omega);have HL:=oH (fun wn (j:aa All W1 wn)=>(HC.2.1 wn j));rw[R] at HL;have HF:=oH hf;clear hf R;refine aK 10 (aa All W1) [] (fun _ _ _=>True) (fun i=>if i=8 then some (·=.int .i64 0) else none) (fun i=>decide (i=8)) (fun ch wn=>∃a n:Int,n≠0∧aS a∧aS n∧ch=[{v:=.iface 153 (.agg #[.int .i64 a,.int .i64 n]),recovered:=false}]∧aa All W1 wn) (by kernel_rfl) (by kernel_rfl) (by kernel_rfl) (by kernel_rfl) kR.drew ?_ ?_
 ·rintro a ch wn ⟨an,nn,a7,a8,b0,rfl,b5⟩ b6
  exact⟨b6,.inr ⟨b4.out,⟨an,nn,a7,a8,b0,rfl⟩,HW.2.1.trans b5⟩⟩
 simp only[tK];iterate 3 refine O0 ?_
 refine O4 I.out ?_;refine O0 ?_;refine O4 I.out ?_;refine O0 ?_;refine O4 I.out ?_;refine O7 (.int .i64 0) (fun wn j hp=>⟨_,_,by(obtain⟨e0,e1,e2,e3,e4,e5,e6,e7,e8,e9,a6⟩:=I.out wn j;go_simp<;>with_reducible rfl),((HL.out wn j).mono fun e w' h=>?_)⟩) ?_
 ·rcases h with ⟨Y,_⟩|⟨_,⟨an,nn,Y,h2,h3,rfl⟩,h4⟩
  ·exact absurd Y HF.out
  exact⟨_,rfl,an,nn,Y,h2,h3,rfl,j.trans h4⟩
 refine O0 ?_;exact cZ)
 skip;by_cases e8:x.kind=8;·(
 have t4:=nK x.kind 4 (by omega);have t5:=nK x.kind 5 (by omega);have t6:=nK x.kind 6 (by omega);have t7:=nK x.kind 7 (by omega);have t8:=yK x.kind 8 (by omega);have o:=J2 (show cK p q f x=gA p.Ni x.ref by unfold cK;simp[e8]) (show cR f x=0 by unfold cR;simp[e8]);clear e8;go_upto_region 9 with fail;obtain⟨r,R⟩:=eR (gA p.Ni x.ref);have HL:=oH (fun wn (j:aa All W1 wn)=>Dd S _ p x.ref wn (c0.out wn j));rw[R] at HL;by_cases hf:0≤r
 ·rw[gM,Int.max_eq_left hf,be hf] at HL;have C:=J3 (show 0≤cK p q f x∧0≤cR f x by rw[o.1,o.2,R];omega) (o.1.trans R) o.2;clear hf R;refine R0 12 W1 (fun i=>if i=6 then some (·=.tuple #[.int .i64 r,.bool true]) else none) ?_;iterate 3 refine O0 ?_
  refine O4 I.out ?_;refine O0 ?_;refine O4 I.out ?_;refine O5 (v:=.tuple #[.int .i64 r,.bool true]) (fun wn j hp=>⟨_,_,by(obtain⟨e0,e1,e2,e3,e4,e5,e6,e7,e8,e9,a6⟩:=I.out wn j;go_simp<;>with_reducible rfl),((HL.out wn j).mono fun e w' h=>?_)⟩) ?_;·exact⟨h.1,j.trans h.2,fun _ h=>by cases h⟩
  iterate 5 refine O0 ?_
  refine aD fun wt J hF=>?_;have b3:=oH J;have e9:=(I.out wt J).2.2.2.2.2.2.2.2.2.1;clear J hF;simp only[dK];go_wp2_with (go_at_call 85;refine(nP _ _ _).mono ?_;rintro e w4 ⟨rfl,rfl⟩);go_ret2;exact .inl ⟨C.1,by rw[C.2.1,C.2.2]<;>rfl,HW.2.1.trans b3.out⟩
 rw[gM,Int.max_eq_right (by omega),cN hf] at HL;have b4:=oH (show¬(0≤cK p q f x∧0≤cR f x) by rw[o.1,R];omega);clear hf R;refine R0 12 W1 (fun i=>if i=6 then some (·=.tuple #[.int .i64 0,.bool false]) else none) ?_;iterate 3 refine O0 ?_
 refine O4 I.out ?_;refine O0 ?_;refine O4 I.out ?_;refine O5 (v:=.tuple #[.int .i64 0,.bool false]) (fun wn j hp=>⟨_,_,by(obtain⟨e0,e1,e2,e3,e4,e5,e6,e7,e8,e9,a6⟩:=I.out wn j;go_simp<;>with_reducible rfl),((HL.out wn j).mono fun e w' h=>?_)⟩) ?_;·exact⟨h.1,j.trans h.2,fun _ h=>by cases h⟩
 iterate 5 refine O0 ?_
 refine aD fun wt J hF=>?_;have b3:=oH J;have e9:=(I.out wt J).2.2.2.2.2.2.2.2.2.1;clear J hF;simp only[dK];have c1:=oH HW.2.2.Np;go_wp2_with fail;refine(pM _ _ _ c1.out).mono ?_;rintro e w4 ⟨⟨an,nn,a7,a8,b0,rfl⟩,rfl⟩;have HS:=J3 a7 a8 b0;clear a7 a8 b0;go_wp2_with fail;exact⟨rfl,.inr ⟨b4.out,⟨an,nn,HS.1,HS.2.1,HS.2.2,rfl⟩,HW.2.1.trans b3.out⟩⟩)
 skip;by_cases e9:x.kind=9;·(
 have t4:=nK x.kind 4 (by omega);have t5:=nK x.kind 5 (by omega);have t6:=nK x.kind 6 (by omega);have t7:=nK x.kind 7 (by omega);have t8:=nK x.kind 8 (by omega);have t9:=yK x.kind 9 (by omega);have o:=J2 (show cK p q f x=gA p.Nh x.ref by unfold cK;simp[e9]) (show cR f x=0 by unfold cR;simp[e9]);clear e9;go_upto_region 12 with fail;obtain⟨r,R⟩:=eR (gA p.Nh x.ref);have HL:=oH (fun wn (j:aa All W1 wn)=>An S _ p x.ref wn (c0.out wn j));rw[R] at HL;by_cases hf:0≤r
 ·rw[gM,Int.max_eq_left hf,be hf] at HL;have C:=J3 (show 0≤cK p q f x∧0≤cR f x by rw[o.1,o.2,R];omega) (o.1.trans R) o.2;clear hf R;refine R0 12 W1 (fun i=>if i=6 then some (·=.tuple #[.int .i64 r,.bool true]) else none) ?_;iterate 3 refine O0 ?_
  refine O4 I.out ?_;refine O0 ?_;refine O4 I.out ?_;refine O5 (v:=.tuple #[.int .i64 r,.bool true]) (fun wn j hp=>⟨_,_,by(obtain⟨e0,e1,e2,e3,e4,e5,e6,e7,e8,e9,a6⟩:=I.out wn j;go_simp<;>with_reducible rfl),((HL.out wn j).mono fun e w' h=>?_)⟩) ?_;·exact⟨h.1,j.trans h.2,fun _ h=>by cases h⟩
  iterate 5 refine O0 ?_
  refine aD fun wt J hF=>?_;have b3:=oH J;have e9:=(I.out wt J).2.2.2.2.2.2.2.2.2.1;clear J hF;simp only[dK];go_wp2_with (go_at_call 85;refine(nP _ _ _).mono ?_;rintro e w4 ⟨rfl,rfl⟩);go_ret2;exact .inl ⟨C.1,by rw[C.2.1,C.2.2]<;>rfl,HW.2.1.trans b3.out⟩
 rw[gM,Int.max_eq_right (by omega),cN hf] at HL;have b4:=oH (show¬(0≤cK p q f x∧0≤cR f x) by rw[o.1,R];omega);clear hf R;refine R0 12 W1 (fun i=>if i=6 then some (·=.tuple #[.int .i64 0,.bool false]) else none) ?_;iterate 3 refine O0 ?_
 refine O4 I.out ?_;refine O0 ?_;refine O4 I.out ?_;refine O5 (v:=.tuple #[.int .i64 0,.bool false]) (fun wn j hp=>⟨_,_,by(obtain⟨e0,e1,e2,e3,e4,e5,e6,e7,e8,e9,a6⟩:=I.out wn j;go_simp<;>with_reducible rfl),((HL.out wn j).mono fun e w' h=>?_)⟩) ?_;·exact⟨h.1,j.trans h.2,fun _ h=>by cases h⟩
 iterate 5 refine O0 ?_
 refine aD fun wt J hF=>?_;have b3:=oH J;have e9:=(I.out wt J).2.2.2.2.2.2.2.2.2.1;clear J hF;simp only[dK];have c1:=oH HW.2.2.Np;go_wp2_with fail;refine(pM _ _ _ c1.out).mono ?_;rintro e w4 ⟨⟨an,nn,a7,a8,b0,rfl⟩,rfl⟩;have HS:=J3 a7 a8 b0;clear a7 a8 b0;go_wp2_with fail;exact⟨rfl,.inr ⟨b4.out,⟨an,nn,HS.1,HS.2.1,HS.2.2,rfl⟩,HW.2.1.trans b3.out⟩⟩)
 skip;by_cases a6:x.kind=10;·(
 have t4:=nK x.kind 4 (by omega);have t5:=nK x.kind 5 (by omega);have t6:=nK x.kind 6 (by omega);have t7:=nK x.kind 7 (by omega);have t8:=nK x.kind 8 (by omega);have t9:=nK x.kind 9 (by omega);have t10:=yK x.kind 10 (by omega);have o:=J2 (show cK p q f x=cH p x.ref by unfold cK;simp[a6]) (show cR f x=0 by unfold cR;simp[a6]);clear a6;go_upto_region 15 with fail;obtain⟨r,R⟩:=eR (cH p x.ref);have HL:=oH (fun wn (j:aa All W1 wn)=>gi S _ p x.ref wn (c0.out wn j));rw[R] at HL;by_cases hf:0≤r
 ·rw[gM,Int.max_eq_left hf,be hf] at HL;have C:=J3 (show 0≤cK p q f x∧0≤cR f x by rw[o.1,o.2,R];omega) (o.1.trans R) o.2;clear hf R;refine R0 12 W1 (fun i=>if i=6 then some (·=.tuple #[.int .i64 r,.bool true]) else none) ?_;iterate 3 refine O0 ?_
  refine O4 I.out ?_;refine O0 ?_;refine O4 I.out ?_;refine O5 (v:=.tuple #[.int .i64 r,.bool true]) (fun wn j hp=>⟨_,_,by(obtain⟨e0,e1,e2,e3,e4,e5,e6,e7,e8,e9,a6⟩:=I.out wn j;go_simp<;>with_reducible rfl),((HL.out wn j).mono fun e w' h=>?_)⟩) ?_;·exact⟨h.1,j.trans h.2,fun _ h=>by cases h⟩
  iterate 5 refine O0 ?_
  refine aD fun wt J hF=>?_;have b3:=oH J;have e9:=(I.out wt J).2.2.2.2.2.2.2.2.2.1;clear J hF;simp only[dK];go_wp2_with (go_at_call 85;refine(nP _ _ _).mono ?_;rintro e w4 ⟨rfl,rfl⟩);go_ret2;exact .inl ⟨C.1,by rw[C.2.1,C.2.2]<;>rfl,HW.2.1.trans b3.out⟩
 rw[gM,Int.max_eq_right (by omega),cN hf] at HL;have b4:=oH (show¬(0≤cK p q f x∧0≤cR f x) by rw[o.1,R];omega);clear hf R;refine R0 12 W1 (fun i=>if i=6 then some (·=.tuple #[.int .i64 0,.bool false]) else none) ?_;iterate 3 refine O0 ?_
 refine O4 I.out ?_;refine O0 ?_;refine O4 I.out ?_;refine O5 (v:=.tuple #[.int .i64 0,.bool false]) (fun wn j hp=>⟨_,_,by(obtain⟨e0,e1,e2,e3,e4,e5,e6,e7,e8,e9,a6⟩:=I.out wn j;go_simp<;>with_reducible rfl),((HL.out wn j).mono fun e w' h=>?_)⟩) ?_;·exact⟨h.1,j.trans h.2,fun _ h=>by cases h⟩
 iterate 5 refine O0 ?_
 refine aD fun wt J hF=>?_;have b3:=oH J;have e9:=(I.out wt J).2.2.2.2.2.2.2.2.2.1;clear J hF;simp only[dK];have c1:=oH HW.2.2.Np;go_wp2_with fail;refine(pM _ _ _ c1.out).mono ?_;rintro e w4 ⟨⟨an,nn,a7,a8,b0,rfl⟩,rfl⟩;have HS:=J3 a7 a8 b0;clear a7 a8 b0;go_wp2_with fail;exact⟨rfl,.inr ⟨b4.out,⟨an,nn,HS.1,HS.2.1,HS.2.2,rfl⟩,HW.2.1.trans b3.out⟩⟩)
 skip;by_cases c2:x.kind=11
 ·have t4:=nK x.kind 4 (by omega);have t5:=nK x.kind 5 (by omega);have t6:=nK x.kind 6 (by omega);have t7:=nK x.kind 7 (by omega);have t8:=nK x.kind 8 (by omega);have t9:=nK x.kind 9 (by omega);have t10:=nK x.kind 10 (by omega);have t11:=yK x.kind 11 (by omega);have o:=J2 (show cK p q f x=aH (bg f) x.ref by unfold cK;simp[c2]) (show cR f x=0 by unfold cR;simp[c2]);clear c2;go_upto_region 18 with fail;obtain⟨e0,e1,e2,e3,e4,e5,e6,e7,e8,e9,a6⟩:=I.out W1 kR;go_wp2_with fail;refine(HC.2.2.1 _ kR).mono ?_;rintro e w4 (⟨hf,rfl,rfl⟩|⟨hf,⟨an,nn,a7,a8,b0,rfl⟩,c7⟩);·have HF:=oH hf;clear hf;obtain⟨r,R⟩:=eR (aH (bg f) x.ref);rw[R];have HR:=oH R;clear R;go_wp2_with fail;go_ret2;exact .inl ⟨⟨by rw[o.1];exact HF.out,by rw[o.2];omega⟩,by rw[o.1,o.2,HR.out]<;>rfl,HW.2.1⟩
  have HS:=J5 a7 a8 b0 hf c7;clear a7 a8 b0 hf c7;go_wp2_with fail;exact⟨rfl,.inr ⟨fun h=>by have Y:=h.1;rw[o.1] at Y;have h2:=HS.2.2.2.1;omega,⟨an,nn,HS.1,HS.2.1,HS.2.2.1,rfl⟩,HW.2.1.trans HS.2.2.2.2⟩⟩
 skip;by_cases b8:x.kind=12;·(
 have t4:=nK x.kind 4 (by omega);have t5:=nK x.kind 5 (by omega);have t6:=nK x.kind 6 (by omega);have t7:=nK x.kind 7 (by omega);have t8:=nK x.kind 8 (by omega);have t9:=nK x.kind 9 (by omega);have t10:=nK x.kind 10 (by omega);have t11:=nK x.kind 11 (by omega);have t12:=yK x.kind 12 (by omega);have o:=J2 (show cK p q f x=aH (bg f) x.ref by unfold cK;simp[b8]) (show cR f x=aH (bg f) x.No by unfold cR;simp[b8]);clear b8;go_upto_region 20 with fail;obtain⟨r,R⟩:=eR (aH (bg f) x.ref);obtain⟨s,hs⟩:=eR (aH (bg f) x.No);have HL:=oH HC.2.2.1;have c3:=oH HC.2.2.2;rw[R] at HL;rw[hs] at c3;by_cases hf:0≤r;·(
 by_cases hg:0≤s;·(
 have HF:=J2 hf hg;have C:=J3 (show 0≤cK p q f x∧0≤cR f x by rw[o.1,o.2,R,hs];omega) (o.1.trans R) (o.2.trans hs);clear hf hg R hs;refine R0 16 W1 (fun i=>if i=13 then some (·=.int .i64 s) else if i=6 then some (·=.int .i64 r) else none) ?_;refine O0 ?_;refine O4 I.out ?_;refine O0 ?_;refine O4 I.out ?_;refine O0 ?_;refine O4 I.out ?_;refine O5 (v:=.int .i64 r) (fun wn j hp=>⟨_,_,by(obtain⟨e0,e1,e2,e3,e4,e5,e6,e7,e8,e9,a6⟩:=I.out wn j;go_simp<;>with_reducible rfl),((HL.out wn j).mono fun e w' h=>?_)⟩) ?_
 ·rcases h with ⟨_,Y,rfl⟩|⟨Y,_⟩
  ·exact⟨Y,j,fun _ h=>by cases h⟩
  exact absurd HF.1 Y
 refine O0 ?_;refine O4 I.out ?_;refine O0 ?_;refine O4 I.out ?_;refine O0 ?_;refine O4 I.out ?_;refine O5 (v:=.int .i64 s) (fun wn j hp=>⟨_,_,by(obtain⟨e0,e1,e2,e3,e4,e5,e6,e7,e8,e9,a6⟩:=I.out wn j;go_simp<;>with_reducible rfl),((c3.out wn j).mono fun e w' h=>?_)⟩) ?_
 ·rcases h with ⟨_,Y,rfl⟩|⟨Y,_⟩
  ·exact⟨Y,j,fun _ h=>by cases h⟩
  exact absurd HF.2 Y
 iterate 2 refine O0 ?_
 refine aD fun wt J hF=>?_;have b3:=oH J;clear J hF;simp only[dK];go_wp2_with fail;go_ret2;exact .inl ⟨C.1,by rw[C.2.1,C.2.2]<;>rfl,HW.2.1.trans b3.out⟩)
 have HF:=J2 hf hg;have b4:=oH (show¬(0≤cK p q f x∧0≤cR f x) by rw[o.1,o.2,R,hs];omega);clear hf hg R hs;refine aK 16 (aa All W1) [] (fun _ _ _=>True) (fun i=>if i=13 then some (·=.int .i64 0) else if i=6 then some (·=.int .i64 r) else none) (fun i=>decide (i=13)) (fun ch wn=>∃a n:Int,n≠0∧aS a∧aS n∧ch=[{v:=.iface 153 (.agg #[.int .i64 a,.int .i64 n]),recovered:=false}]∧aa All W1 wn) (by kernel_rfl) (by kernel_rfl) (by kernel_rfl) (by kernel_rfl) kR.drew ?_ ?_
 ·rintro a ch wn ⟨an,nn,a7,a8,b0,rfl,b5⟩ b6
  exact⟨b6,.inr ⟨b4.out,⟨an,nn,a7,a8,b0,rfl⟩,HW.2.1.trans b5⟩⟩
 simp only[tK];refine O0 ?_;refine O4 I.out ?_;refine O0 ?_;refine O4 I.out ?_;refine O0 ?_;refine O4 I.out ?_;refine O5 (v:=.int .i64 r) (fun wn j hp=>⟨_,_,by(obtain⟨e0,e1,e2,e3,e4,e5,e6,e7,e8,e9,a6⟩:=I.out wn j;go_simp<;>with_reducible rfl),((HL.out wn j).mono fun e w' h=>?_)⟩) ?_
 ·rcases h with ⟨_,Y,rfl⟩|⟨Y,_⟩
  ·exact⟨Y,j,fun _ h=>by cases h⟩
  exact absurd HF.1 Y
 refine O0 ?_;refine O4 I.out ?_;refine O0 ?_;refine O4 I.out ?_;refine O0 ?_;refine O4 I.out ?_;refine O7 (.int .i64 0) (fun wn j hp=>⟨_,_,by(obtain⟨e0,e1,e2,e3,e4,e5,e6,e7,e8,e9,a6⟩:=I.out wn j;go_simp<;>with_reducible rfl),((c3.out wn j).mono fun e w' h=>?_)⟩) ?_
 ·rcases h with ⟨Y,_⟩|⟨_,⟨an,nn,Y,h2,h3,rfl⟩,h4⟩
  ·exact absurd Y HF.2
  exact⟨_,rfl,an,nn,Y,h2,h3,rfl,j.trans h4⟩
 iterate 2 refine O0 ?_
 exact cZ)
 by_cases hg:0≤s;·(
 have HF:=J2 hf hg;have b4:=oH (show¬(0≤cK p q f x∧0≤cR f x) by rw[o.1,o.2,R,hs];omega);clear hf hg R hs;refine aK 16 (aa All W1) [] (fun _ _ _=>True) (fun i=>if i=13 then some (·=.int .i64 s) else if i=6 then some (·=.int .i64 0) else none) (fun i=>decide (i=6)) (fun ch wn=>∃a n:Int,n≠0∧aS a∧aS n∧ch=[{v:=.iface 153 (.agg #[.int .i64 a,.int .i64 n]),recovered:=false}]∧aa All W1 wn) (by kernel_rfl) (by kernel_rfl) (by kernel_rfl) (by kernel_rfl) kR.drew ?_ ?_
 ·rintro a ch wn ⟨an,nn,a7,a8,b0,rfl,b5⟩ b6
  exact⟨b6,.inr ⟨b4.out,⟨an,nn,a7,a8,b0,rfl⟩,HW.2.1.trans b5⟩⟩
 simp only[tK];refine O0 ?_;refine O4 I.out ?_;refine O0 ?_;refine O4 I.out ?_;refine O0 ?_;refine O4 I.out ?_;refine O7 (.int .i64 0) (fun wn j hp=>⟨_,_,by(obtain⟨e0,e1,e2,e3,e4,e5,e6,e7,e8,e9,a6⟩:=I.out wn j;go_simp<;>with_reducible rfl),((HL.out wn j).mono fun e w' h=>?_)⟩) ?_
 ·rcases h with ⟨Y,_⟩|⟨_,⟨an,nn,Y,h2,h3,rfl⟩,h4⟩
  ·exact absurd Y HF.1
  exact⟨_,rfl,an,nn,Y,h2,h3,rfl,j.trans h4⟩
 refine O0 ?_;refine O4 I.out ?_;refine O0 ?_;refine O4 I.out ?_;refine O0 ?_;refine O4 I.out ?_;refine O5 (v:=.int .i64 s) (fun wn j hp=>⟨_,_,by(obtain⟨e0,e1,e2,e3,e4,e5,e6,e7,e8,e9,a6⟩:=I.out wn j;go_simp<;>with_reducible rfl),((c3.out wn j).mono fun e w' h=>?_)⟩) ?_
 ·rcases h with ⟨_,Y,rfl⟩|⟨Y,_⟩
  ·exact⟨Y,j,fun _ h=>by cases h⟩
  exact absurd HF.2 Y
 iterate 2 refine O0 ?_
 exact cZ)
 have HF:=J2 hf hg;have b4:=oH (show¬(0≤cK p q f x∧0≤cR f x) by rw[o.1,o.2,R,hs];omega);clear hf hg R hs;refine aK 16 (aa All W1) [] (fun _ _ _=>True) (fun i=>if i=13 then some (·=.int .i64 0) else if i=6 then some (·=.int .i64 0) else none) (fun i=>decide (i=6∨i=13)) (fun ch wn=>∃a n:Int,n≠0∧aS a∧aS n∧ch=[{v:=.iface 153 (.agg #[.int .i64 a,.int .i64 n]),recovered:=false}]∧aa All W1 wn) (by kernel_rfl) (by kernel_rfl) (by kernel_rfl) (by kernel_rfl) kR.drew ?_ ?_
 ·rintro a ch wn ⟨an,nn,a7,a8,b0,rfl,b5⟩ b6
  exact⟨b6,.inr ⟨b4.out,⟨an,nn,a7,a8,b0,rfl⟩,HW.2.1.trans b5⟩⟩
 simp only[tK];refine O0 ?_;refine O4 I.out ?_;refine O0 ?_;refine O4 I.out ?_;refine O0 ?_;refine O4 I.out ?_;refine O7 (.int .i64 0) (fun wn j hp=>⟨_,_,by(obtain⟨e0,e1,e2,e3,e4,e5,e6,e7,e8,e9,a6⟩:=I.out wn j;go_simp<;>with_reducible rfl),((HL.out wn j).mono fun e w' h=>?_)⟩) ?_
 ·rcases h with ⟨Y,_⟩|⟨_,⟨an,nn,Y,h2,h3,rfl⟩,h4⟩
  ·exact absurd Y HF.1
  exact⟨_,rfl,an,nn,Y,h2,h3,rfl,j.trans h4⟩
 refine O0 ?_;refine O4 I.out ?_;refine O0 ?_;refine O4 I.out ?_;refine O0 ?_;refine O4 I.out ?_;refine O7 (.int .i64 0) (fun wn j hp=>⟨_,_,by(obtain⟨e0,e1,e2,e3,e4,e5,e6,e7,e8,e9,a6⟩:=I.out wn j;go_simp<;>with_reducible rfl),((c3.out wn j).mono fun e w' h=>?_)⟩) ?_
 ·rcases h with ⟨Y,_⟩|⟨_,⟨an,nn,Y,h2,h3,rfl⟩,h4⟩
  ·exact absurd Y HF.2
  exact⟨_,rfl,an,nn,Y,h2,h3,rfl,j.trans h4⟩
 iterate 2 refine O0 ?_
 exact cZ)
 skip;have t4:=nK x.kind 4 (by omega);have t5:=nK x.kind 5 (by omega);have t6:=nK x.kind 6 (by omega);have t7:=nK x.kind 7 (by omega);have t8:=nK x.kind 8 (by omega);have t9:=nK x.kind 9 (by omega);have t10:=nK x.kind 10 (by omega);have t11:=nK x.kind 11 (by omega);have t12:=nK x.kind 12 (by omega);have o:=J2 (show cK p q f x=0 by unfold cK;simp[e4,e5,e6,e7,e8,e9,a6,c2,b8]) (show cR f x=0 by unfold cR;simp[b8]);clear e4 e5 e6 e7 e8 e9 a6 c2 b8;go_wp2_with fail;go_ret2;exact .inl ⟨by rw[o.1,o.2];omega,by rw[o.1,o.2]<;>rfl,HW.2.1⟩
end Go.Proofs.YtccbbkopmlnkpaaGreatDoor
