/- Part 10 of the proof of CallsShallow (its last part says what is proved). No condition. -/
import Derived.Test.YtncdbjponknakaaGreatDoorK8
namespace Go.Proofs.YtncdbjponknakaaGreatDoor
set_option maxRecDepth 100000
set_option maxHeartbeats 8000000
open Go.RowKit Go.Proofs.Tryz
section
section
variable {P:Program} {ops:Array Oper} {S:World→Prop} {T:List Tmp} {F:Tmp→Value→World→Prop} {L:Nat→Option (Value→Prop)} {D:Nat→Bool} {X:List PanicEntry→World→Prop} {Q:Act→Prop} {o:Oper} {rest:List Oper} {k:Nat} {dead:Bool} {a:Act}
theorem O3 {v:Value}{l:Act}(h:∀w,S w→ij ops T F o a w→(execOp a.eval o).run P w=.ok (.value v) w)(C:oC P ops S T F L D X Q rest (k+1) dead l)(hw:Region.wanted o (yielded ops a.tmps)=true:=by rfl)(J:L k=none:=by rfl)(j:D k=false:=by rfl)(R:∀d,o.dst=some d→d∉T:=by intro d j;first|(intro Y;cases Y;done)|(cases j;decide))(Z:a.put o.dst v=l:=by conv=>lhs;simp only[PS]):oC P ops S T F L D X Q (o::rest) k dead a:=xy hw J j R h (by rw[Z];exact C)
theorem O0 {v:Value}{l:Act}(C:oC P ops S T F L D X Q rest (k+1) dead l)(h:∀w,S w→ij ops T F o a w→(execOp a.eval o).run P w=.ok (.value v) w:=by intro wn C J;go_simp;with_reducible rfl)(hw:Region.wanted o (yielded ops a.tmps)=true:=by rfl)(R:L k=none:=by rfl)(j:D k=false:=by rfl)(Y:∀d,o.dst=some d→d∉T:=by intro d j;first|(intro Z;cases Z;done)|(cases j;decide))(J:a.put o.dst v=l:=by conv=>lhs;simp only[PS]):oC P ops S T F L D X Q (o::rest) k dead a:=xy hw R j Y h (by rw[J];exact C)
theorem O4 {v:Value}{R:Act}{C:World→Prop}(f:∀w,S w→C w)(Y:oC P ops S T F L D X Q rest (k+1) dead R)(h:∀w,S w→C w→ij ops T F o a w→(execOp a.eval o).run P w=.ok (.value v) w:=by intro wn Y l j;(try dsimp only at l);(repeat obtain⟨_,l⟩:=l);go_simp;with_reducible rfl)(hw:Region.wanted o (yielded ops a.tmps)=true:=by rfl)(hl:L k=none:=by rfl)(J:D k=false:=by rfl)(ht:∀d,o.dst=some d→d∉T:=by intro d J;first|(intro hT;cases hT;done)|(cases J;decide))(j:a.put o.dst v=R:=by conv=>lhs;simp only[PS]):oC P ops S T F L D X Q (o::rest) k dead a:=xy hw hl J ht (fun w Z j=>h w Z (f w Z) j) (by rw[j];exact Y)
theorem O2 {l:Act}(C:oC P ops S T F L D X Q rest (k+1) dead l)(hw:Region.wanted o (yielded ops a.tmps)=false:=by rfl)(j:D k=false:=by rfl)(J:∀d,o.dst=some d→d∉T:=by intro d j;first|(intro R;cases R;done)|(cases j;decide))(Y:a.put o.dst undef=l:=by conv=>lhs;simp only[PS]):oC P ops S T F L D X Q (o::rest) k dead a:=Ib hw j J (by rw[Y];exact C)
theorem O6 {V:Value→Prop}(h:∀w,S w→ij ops T F o a w→xG P S T F X false V o w ((execOp a.eval o).run P w))(j:∀w,S w→ij ops T F o a w→∃u l,V u∧om S T F o w l u)(C:∀v,V v→oC P ops S T F L D X Q rest (k+1) dead (a.put o.dst v))(hw:Region.wanted o (yielded ops a.tmps)=true:=by rfl)(J:L k=some V:=by rfl)(R:D k=false:=by rfl):oC P ops S T F L D X Q (o::rest) k dead a:=Ey hw J R h j C
theorem O5 {v:Value}{l:Act}(h:∀w,S w→ij ops T F o a w→∃f args,(execOp a.eval o).run P w=.ok (.enter f args) w∧Calls P f args w fun e C=>e=.returned v∧S C∧∀t∈T,∀v,F t v w→F t v C)(J:oC P ops S T F L D X Q rest (k+1) dead l)(hw:Region.wanted o (yielded ops a.tmps)=true:=by rfl)(R:L k=some (·=v):=by rfl)(j:D k=false:=by rfl)(Y:∀d,o.dst=some d→d∉T:=by intro d j;first|(intro Z;cases Z;done)|(cases j;decide))(hp:a.put o.dst v=l:=by conv=>lhs;simp only[PS]):oC P ops S T F L D X Q (o::rest) k dead a:=tW hw R j Y h (by rw[hp];exact J)
theorem O7 (v:Value){l:Act}(h:∀w,S w→ij ops T F o a w→∃f args,(execOp a.eval o).run P w=.ok (.enter f args) w∧Calls P f args w fun e J=>∃C,e=.panicked C∧X C J)(R:oC P ops S T F L D X Q rest (k+1) true l)(hw:Region.wanted o (yielded ops a.tmps)=true:=by rfl)(Y:L k=some (·=v):=by rfl)(j:D k=true:=by rfl)(Z:∀d,o.dst=some d→d∉T:=by intro d j;first|(intro hT;cases hT;done)|(cases j;decide))(hp:a.put o.dst v=l:=by conv=>lhs;simp only[PS]):oC P ops S T F L D X Q (o::rest) k dead a:=Ic v hw Y j Z h (by rw[hp];exact R)
theorem R1 {id:Nat}{Q':Exit→Act→World→Prop}{a:Act}{w:World}{l J:List Oper}(n:Nat)(W:World)(T:List Tmp)(F:Tmp→Value→World→Prop)(L:Nat→Option (Value→Prop))(h:oC P l.toArray (aa All W) T F L (fun _=>false) (fun _ _=>False) (fun R=>∀j,aa All W j→(∀t∈T,∀v,R.tmps[t]? =some v→F t v j)→wpList P l.toArray Q' (l.drop n) R j) J 0 false a)(hm:P.follows .mixedOrders=true:=by kernel_rfl)(Y:yZ .any l.toArray n=true:=by kernel_rfl)(Z:ns .any l.toArray T=true:=by kernel_rfl)(C:pM l.toArray T n=true:=by kernel_rfl)(hS:aa All W w.drew:=by exact(aa.refl _ _).drew)(ht:l.take n=J:=by conv=>lhs;simp only[tK]):(Code.region id l.toArray true).wp P Q' a w:=bq n (aa All W) T F L (fun _=>false) (fun _ _=>False) hm Y Z C hS (fun _ _ _ h=>False.elim h) (by rw[ht];exact h)
theorem R0 {id:Nat}{Q':Exit→Act→World→Prop}{a:Act}{w:World}{l C:List Oper}(n:Nat)(W:World)(L:Nat→Option (Value→Prop))(h:oC P l.toArray (aa All W) [] (fun _ _ _=>True) L (fun _=>false) (fun _ _=>False) (fun J=>∀R,aa All W R→(∀t∈([]:List Tmp),∀v,J.tmps[t]? =some v→True)→wpList P l.toArray Q' (l.drop n) J R) C 0 false a)(hm:P.follows .mixedOrders=true:=by kernel_rfl)(Y:yZ .any l.toArray n=true:=by kernel_rfl)(Z:ns .any l.toArray []=true:=by kernel_rfl)(j:pM l.toArray [] n=true:=by kernel_rfl)(hS:aa All W w.drew:=by exact(aa.refl _ _).drew)(ht:l.take n=C:=by conv=>lhs;simp only[tK]):(Code.region id l.toArray true).wp P Q' a w:=R1 n W [] (fun _ _ _=>True) L h hm Y Z j hS ht
end
end
def rV (S:Nat→Prop)(w:World)(br:Nat)(p:aH)(q:dN):Prop:=∃va1 vu vi vo pa pf ba bfn,al w br 241 #[va1,vu,vi,vo,.int .i64 p.Nc,pa,pf,.map (some ba),.map (some bfn)]∧dJ S w (.agg #[va1,vu,vi,vo,.int .i64 p.Nc]) p∧BF S w (.agg #[pa,pf]) q∧
 cK w ba (dz q)∧cK w bfn (fh q)
theorem rV.keep {S:Nat→Prop}{w o:World}{C:Nat}{p:aH}{q:dN}(h:rV S w C p q)(k:aa All w o):rV S o C p q:=by obtain⟨j,J,R,Y,Z,pf,ba,l,h1,h2,h3,h4,h5⟩:=h;exact⟨j,J,R,Y,Z,pf,ba,l,h1.kept k trivial,cB.keep k.all h2,sI.keep k.all h3,h4.keep k trivial,h5.keep k trivial⟩
def ML (p:aH)(q:dN)(f:cD)(x:cX)(w:World)(e:Ending)(w':World):Prop:=
 ql (0≤dv p q f x∧0≤dy f x) (fun e w'=>e=.returned (.tuple #[.int .i64 (dv p q f x),.int .i64 (dy f x)])∧aa All w w') w e w'
theorem GO (S:Nat→Prop)(br:Nat)(p:aH)(q:dN)(f:cD)(x:cX)(b1 b2:Nat)(xa xf:Value)(w:World)(R:rV S w br p q)(c4:cK w b1 (cn f))(c7:gB S w xa x.args)(c8:gB S w xf x.Nh)(hx:uB x):
 Calls prog 184 #[.pointer (some ⟨br,0,none⟩),.agg #[.map (some b1),.map (some b2)],.agg #[.int .u8 x.kind,.int .u8 x.op,.string x.dst,.string x.ref,.string x.Ni,xa,xf,.int .i64 x.num,.int .i64 x.Nj]] w (ML p q f x w):=by
 obtain⟨ua,uc,rfl,_⟩:=c7;obtain⟨va,vc,rfl,_⟩:=c8;obtain⟨h7,vu,vi,vo,pa,pf,ba,c5,Y,h2,h3,h4,h5⟩:=R;have c9:=h2;obtain⟨P1,P2,P3,P4,c3,d7,d8,d9,h0,h6⟩:=c9;iterate 2 injection c3 with c3
 simp only[List.cons.injEq,and_true] at c3;obtain⟨rfl,rfl,rfl,rfl⟩:=c3;obtain⟨a1,n1,rfl,_⟩:=d7;obtain⟨a2,n2,rfl,_⟩:=d8;obtain⟨a3,n3,rfl,_⟩:=d9;obtain⟨a4,n4,rfl,_⟩:=h0;obtain⟨W1,b8⟩:=eQ ((w.alloc (.cells #[.map (some b1),.map (some b2)] 249)).alloc (.cells #[.int .u8 x.kind,.int .u8 x.op,.string x.dst,.string x.ref,.string x.Ni,.slice ua x.args.length uc,.slice va x.Nh.length vc,.int .i64 x.num,.int .i64 x.Nj] 231));have b6:aa All w W1:=by rw[b8];exact(kR.alloc _).alloc _
 have bS:al W1 w.heap.size 249 #[.map (some b1),.map (some b2)]:=by rw[b8];exact(al.new _ _ _).alloc _
 have bX:al W1 (w.heap.size+1) 231 #[.int .u8 x.kind,.int .u8 x.op,.string x.dst,.string x.ref,.string x.Ni,.slice ua x.args.length uc,.slice va x.Nh.length vc,.int .i64 x.num,.int .i64 x.Nj]:=by rw[b8];exact ac (by simp)
 have bR:=Y.kept b6 trivial;have x0:=bX.cell 0;simp only[gc] at x0;have C:=oH (show∀wn,aa All W1 wn→wn.cell? ⟨br,0,none⟩=some (.slice a1 p.MZ.length n1)∧wn.cell? ⟨br,1,none⟩=some (.slice a2 p.up.length n2)∧wn.cell? ⟨br,2,none⟩=some (.slice a3 p.Nb.length n3)∧wn.cell? ⟨br,3,none⟩=some (.slice a4 p.Na.length n4)∧wn.cell? ⟨br,4,none⟩=some (.int .i64 p.Nc)∧wn.cell? ⟨br,7,none⟩=some (.map (some ba))∧wn.cell? ⟨br,8,none⟩=some (.map (some c5))∧wn.cell? ⟨w.heap.size+1,3,none⟩=some (.string x.ref)∧wn.cell? ⟨w.heap.size+1,4,none⟩=some (.string x.Ni)∧wn.cell? ⟨w.heap.size+1,8,none⟩=some (.int .i64 x.Nj)∧wn.cell? ⟨w.heap.size,0,none⟩=some (.map (some b1)) from fun wn j=>⟨(bR.kept j trivial).cell 0,(bR.kept j trivial).cell 1,(bR.kept j trivial).cell 2,(bR.kept j trivial).cell 3,(bR.kept j trivial).cell 4,(bR.kept j trivial).cell 7,(bR.kept j trivial).cell 8,(bX.kept j trivial).cell 3,(bX.kept j trivial).cell 4,(bX.kept j trivial).cell 8,(bS.kept j trivial).cell 0⟩);have HW:=J3 b8 b6 hx
 have HC:=J2 (fun wn (j:aa All W1 wn)=>lQ ba (dz q) x.ref x.Nj wn ((h4.keep b6 trivial).keep j trivial) hx.ref hx.Nj) (And.intro (fun wn (j:aa All W1 wn)=>lQ c5 (fh q) x.ref x.Nj wn ((h5.keep b6 trivial).keep j trivial) hx.ref hx.Nj)
  (And.intro (fun wn (j:aa All W1 wn)=>lQ b1 (cn f) x.ref x.Nj wn ((c4.keep b6 trivial).keep j trivial) hx.ref hx.Nj) (fun wn (j:aa All W1 wn)=>lQ b1 (cn f) x.Ni x.Nj wn ((c4.keep b6 trivial).keep j trivial) hx.Ni hx.Nj)))
 have b9:=oH (fun wn (j:aa All W1 wn)=>cB.keep (b6.trans j).all h2);clear Y h2 h3 h4 h5 b8 b6 bS bX bR hx c4 h6;go_enter func184,ntmps184;go_upto_region 1 with fail;rw[←HW.1];by_cases e4:x.kind=4;·(
 have t4:=yK x.kind 4 (by omega);have l:=J2 (show dv p q f x=aO (dz q) x.ref by unfold dv;simp[e4]) (show dy f x=0 by unfold dy;simp[e4]);clear e4;go_upto_region 5 with fail;obtain⟨r,R⟩:=eR (aO (dz q) x.ref);by_cases hf:0≤r;·(
 have o:=J3 (show 0≤dv p q f x∧0≤dy f x by rw[l.1,l.2,R];omega) (l.1.trans R) l.2;have HL:=oH (fun wn (j:aa All W1 wn)=>(HC.1 wn j));rw[R] at HL;have HF:=oH hf;clear hf R;refine R0 10 W1 (fun i=>if i=8 then some (·=.int .i64 r) else none) ?_;iterate 3 refine O0 ?_
 refine O4 C.out ?_;refine O0 ?_;refine O4 C.out ?_;refine O0 ?_;refine O4 C.out ?_;refine O5 (v:=.int .i64 r) (fun wn j hp=>⟨_,_,by(obtain⟨e0,e1,e2,e3,e4,e5,e6,e7,e8,e9,Z⟩:=C.out wn j;go_simp<;>with_reducible rfl),((HL.out wn j).mono fun e w' h=>?_)⟩) ?_
 ·rcases h with ⟨_,Y,rfl⟩|⟨Y,_⟩
  ·exact⟨Y,j,fun _ h=>by cases h⟩
  exact absurd HF.out Y
 refine O0 ?_;refine aG fun wt J hF=>?_;have b0:=oH J;clear J hF;simp only[dK];go_wp2_with fail;go_ret2;exact .inl ⟨o.1,by rw[o.2.1,o.2.2]<;>rfl,HW.2.1.trans b0.out⟩)
 have b3:=oH (show¬(0≤dv p q f x∧0≤dy f x) by rw[l.1,R];omega);have HL:=oH (fun wn (j:aa All W1 wn)=>(HC.1 wn j));rw[R] at HL;have HF:=oH hf;clear hf R;refine bq 10 (aa All W1) [] (fun _ _ _=>True) (fun i=>if i=8 then some (·=.int .i64 0) else none) (fun i=>decide (i=8)) (fun ch wn=>∃a n:Int,n≠0∧aV a∧aV n∧ch=[{v:=.iface 236 (.agg #[.int .i64 a,.int .i64 n]),recovered:=false}]∧aa All W1 wn) (by kernel_rfl) (by kernel_rfl) (by kernel_rfl) (by kernel_rfl) kR.drew ?_ ?_
 ·rintro a ch wn ⟨an,nn,a6,a7,a8,rfl,b4⟩ b5
  exact⟨b5,.inr ⟨b3.out,⟨an,nn,a6,a7,a8,rfl⟩,HW.2.1.trans b4⟩⟩
 simp only[tK];iterate 3 refine O0 ?_
 refine O4 C.out ?_;refine O0 ?_;refine O4 C.out ?_;refine O0 ?_;refine O4 C.out ?_;refine O7 (.int .i64 0) (fun wn j hp=>⟨_,_,by(obtain⟨e0,e1,e2,e3,e4,e5,e6,e7,e8,e9,Z⟩:=C.out wn j;go_simp<;>with_reducible rfl),((HL.out wn j).mono fun e w' h=>?_)⟩) ?_
 ·rcases h with ⟨Y,_⟩|⟨_,⟨an,nn,Y,h2,h3,rfl⟩,h4⟩
  ·exact absurd Y HF.out
  exact⟨_,rfl,an,nn,Y,h2,h3,rfl,j.trans h4⟩
 refine O0 ?_;exact dG)
 skip;by_cases e5:x.kind=5;·(
 have t4:=nK x.kind 4 (by omega);have t5:=yK x.kind 5 (by omega);have l:=J2 (show dv p q f x=aO (dz q) x.ref by unfold dv;simp[e5]) (show dy f x=0 by unfold dy;simp[e5]);clear e5;go_upto_region 5 with fail;obtain⟨r,R⟩:=eR (aO (dz q) x.ref);by_cases hf:0≤r;·(
 have o:=J3 (show 0≤dv p q f x∧0≤dy f x by rw[l.1,l.2,R];omega) (l.1.trans R) l.2;have HL:=oH (fun wn (j:aa All W1 wn)=>(HC.1 wn j));rw[R] at HL;have HF:=oH hf;clear hf R;refine R0 10 W1 (fun i=>if i=8 then some (·=.int .i64 r) else none) ?_;iterate 3 refine O0 ?_
 refine O4 C.out ?_;refine O0 ?_;refine O4 C.out ?_;refine O0 ?_;refine O4 C.out ?_;refine O5 (v:=.int .i64 r) (fun wn j hp=>⟨_,_,by(obtain⟨e0,e1,e2,e3,e4,e5,e6,e7,e8,e9,Z⟩:=C.out wn j;go_simp<;>with_reducible rfl),((HL.out wn j).mono fun e w' h=>?_)⟩) ?_
 ·rcases h with ⟨_,Y,rfl⟩|⟨Y,_⟩
  ·exact⟨Y,j,fun _ h=>by cases h⟩
  exact absurd HF.out Y
 refine O0 ?_;refine aG fun wt J hF=>?_;have b0:=oH J;clear J hF;simp only[dK];go_wp2_with fail;go_ret2;exact .inl ⟨o.1,by rw[o.2.1,o.2.2]<;>rfl,HW.2.1.trans b0.out⟩)
 have b3:=oH (show¬(0≤dv p q f x∧0≤dy f x) by rw[l.1,R];omega);have HL:=oH (fun wn (j:aa All W1 wn)=>(HC.1 wn j));rw[R] at HL;have HF:=oH hf;clear hf R;refine bq 10 (aa All W1) [] (fun _ _ _=>True) (fun i=>if i=8 then some (·=.int .i64 0) else none) (fun i=>decide (i=8)) (fun ch wn=>∃a n:Int,n≠0∧aV a∧aV n∧ch=[{v:=.iface 236 (.agg #[.int .i64 a,.int .i64 n]),recovered:=false}]∧aa All W1 wn) (by kernel_rfl) (by kernel_rfl) (by kernel_rfl) (by kernel_rfl) kR.drew ?_ ?_
 ·rintro a ch wn ⟨an,nn,a6,a7,a8,rfl,b4⟩ b5
  exact⟨b5,.inr ⟨b3.out,⟨an,nn,a6,a7,a8,rfl⟩,HW.2.1.trans b4⟩⟩
 simp only[tK];iterate 3 refine O0 ?_
 refine O4 C.out ?_;refine O0 ?_;refine O4 C.out ?_;refine O0 ?_;refine O4 C.out ?_;refine O7 (.int .i64 0) (fun wn j hp=>⟨_,_,by(obtain⟨e0,e1,e2,e3,e4,e5,e6,e7,e8,e9,Z⟩:=C.out wn j;go_simp<;>with_reducible rfl),((HL.out wn j).mono fun e w' h=>?_)⟩) ?_
 ·rcases h with ⟨Y,_⟩|⟨_,⟨an,nn,Y,h2,h3,rfl⟩,h4⟩
  ·exact absurd Y HF.out
  exact⟨_,rfl,an,nn,Y,h2,h3,rfl,j.trans h4⟩
 refine O0 ?_;exact dG)
 skip;by_cases e6:x.kind=6;·(
 have t4:=nK x.kind 4 (by omega);have t5:=nK x.kind 5 (by omega);have t6:=yK x.kind 6 (by omega);have l:=J2 (show dv p q f x=aO (dz q) x.ref by unfold dv;simp[e6]) (show dy f x=0 by unfold dy;simp[e6]);clear e6;go_upto_region 5 with fail;obtain⟨r,R⟩:=eR (aO (dz q) x.ref);by_cases hf:0≤r;·(
 have o:=J3 (show 0≤dv p q f x∧0≤dy f x by rw[l.1,l.2,R];omega) (l.1.trans R) l.2;have HL:=oH (fun wn (j:aa All W1 wn)=>(HC.1 wn j));rw[R] at HL;have HF:=oH hf;clear hf R;refine R0 10 W1 (fun i=>if i=8 then some (·=.int .i64 r) else none) ?_;iterate 3 refine O0 ?_
 refine O4 C.out ?_;refine O0 ?_;refine O4 C.out ?_;refine O0 ?_;refine O4 C.out ?_;refine O5 (v:=.int .i64 r) (fun wn j hp=>⟨_,_,by(obtain⟨e0,e1,e2,e3,e4,e5,e6,e7,e8,e9,Z⟩:=C.out wn j;go_simp<;>with_reducible rfl),((HL.out wn j).mono fun e w' h=>?_)⟩) ?_
 ·rcases h with ⟨_,Y,rfl⟩|⟨Y,_⟩
  ·exact⟨Y,j,fun _ h=>by cases h⟩
  exact absurd HF.out Y
 refine O0 ?_;refine aG fun wt J hF=>?_;have b0:=oH J;clear J hF;simp only[dK];go_wp2_with fail;go_ret2;exact .inl ⟨o.1,by rw[o.2.1,o.2.2]<;>rfl,HW.2.1.trans b0.out⟩)
 have b3:=oH (show¬(0≤dv p q f x∧0≤dy f x) by rw[l.1,R];omega);have HL:=oH (fun wn (j:aa All W1 wn)=>(HC.1 wn j));rw[R] at HL;have HF:=oH hf;clear hf R;refine bq 10 (aa All W1) [] (fun _ _ _=>True) (fun i=>if i=8 then some (·=.int .i64 0) else none) (fun i=>decide (i=8)) (fun ch wn=>∃a n:Int,n≠0∧aV a∧aV n∧ch=[{v:=.iface 236 (.agg #[.int .i64 a,.int .i64 n]),recovered:=false}]∧aa All W1 wn) (by kernel_rfl) (by kernel_rfl) (by kernel_rfl) (by kernel_rfl) kR.drew ?_ ?_
 ·rintro a ch wn ⟨an,nn,a6,a7,a8,rfl,b4⟩ b5
  exact⟨b5,.inr ⟨b3.out,⟨an,nn,a6,a7,a8,rfl⟩,HW.2.1.trans b4⟩⟩
 simp only[tK];iterate 3 refine O0 ?_
 refine O4 C.out ?_;refine O0 ?_;refine O4 C.out ?_;refine O0 ?_;refine O4 C.out ?_;refine O7 (.int .i64 0) (fun wn j hp=>⟨_,_,by(obtain⟨e0,e1,e2,e3,e4,e5,e6,e7,e8,e9,Z⟩:=C.out wn j;go_simp<;>with_reducible rfl),((HL.out wn j).mono fun e w' h=>?_)⟩) ?_
 ·rcases h with ⟨Y,_⟩|⟨_,⟨an,nn,Y,h2,h3,rfl⟩,h4⟩
  ·exact absurd Y HF.out
  exact⟨_,rfl,an,nn,Y,h2,h3,rfl,j.trans h4⟩
 refine O0 ?_;exact dG)
 skip;by_cases e7:x.kind=7;·(
 have t4:=nK x.kind 4 (by omega);have t5:=nK x.kind 5 (by omega);have t6:=nK x.kind 6 (by omega);have t7:=yK x.kind 7 (by omega);have l:=J2 (show dv p q f x=aO (fh q) x.ref by unfold dv;simp[e7]) (show dy f x=0 by unfold dy;simp[e7]);clear e7;go_upto_region 7 with fail;obtain⟨r,R⟩:=eR (aO (fh q) x.ref);by_cases hf:0≤r;·(
 have o:=J3 (show 0≤dv p q f x∧0≤dy f x by rw[l.1,l.2,R];omega) (l.1.trans R) l.2;have HL:=oH (fun wn (j:aa All W1 wn)=>(HC.2.1 wn j));rw[R] at HL;have HF:=oH hf;clear hf R;refine R0 10 W1 (fun i=>if i=8 then some (·=.int .i64 r) else none) ?_;iterate 3 refine O0 ?_
 refine O4 C.out ?_;refine O0 ?_;refine O4 C.out ?_;refine O0 ?_;refine O4 C.out ?_;refine O5 (v:=.int .i64 r) (fun wn j hp=>⟨_,_,by(obtain⟨e0,e1,e2,e3,e4,e5,e6,e7,e8,e9,Z⟩:=C.out wn j;go_simp<;>with_reducible rfl),((HL.out wn j).mono fun e w' h=>?_)⟩) ?_
 ·rcases h with ⟨_,Y,rfl⟩|⟨Y,_⟩
  ·exact⟨Y,j,fun _ h=>by cases h⟩
  exact absurd HF.out Y
 refine O0 ?_;refine aG fun wt J hF=>?_;have b0:=oH J;clear J hF;simp only[dK];go_wp2_with fail;go_ret2;exact .inl ⟨o.1,by rw[o.2.1,o.2.2]<;>rfl,HW.2.1.trans b0.out⟩)
 have b3:=oH (show¬(0≤dv p q f x∧0≤dy f x) by rw[l.1,R];omega);have HL:=oH (fun wn (j:aa All W1 wn)=>(HC.2.1 wn j));rw[R] at HL;have HF:=oH hf;clear hf R;refine bq 10 (aa All W1) [] (fun _ _ _=>True) (fun i=>if i=8 then some (·=.int .i64 0) else none) (fun i=>decide (i=8)) (fun ch wn=>∃a n:Int,n≠0∧aV a∧aV n∧ch=[{v:=.iface 236 (.agg #[.int .i64 a,.int .i64 n]),recovered:=false}]∧aa All W1 wn) (by kernel_rfl) (by kernel_rfl) (by kernel_rfl) (by kernel_rfl) kR.drew ?_ ?_
 ·rintro a ch wn ⟨an,nn,a6,a7,a8,rfl,b4⟩ b5
  exact⟨b5,.inr ⟨b3.out,⟨an,nn,a6,a7,a8,rfl⟩,HW.2.1.trans b4⟩⟩
 simp only[tK];iterate 3 refine O0 ?_
 refine O4 C.out ?_;refine O0 ?_;refine O4 C.out ?_;refine O0 ?_;refine O4 C.out ?_;refine O7 (.int .i64 0) (fun wn j hp=>⟨_,_,by(obtain⟨e0,e1,e2,e3,e4,e5,e6,e7,e8,e9,Z⟩:=C.out wn j;go_simp<;>with_reducible rfl),((HL.out wn j).mono fun e w' h=>?_)⟩) ?_
 ·rcases h with ⟨Y,_⟩|⟨_,⟨an,nn,Y,h2,h3,rfl⟩,h4⟩
  ·exact absurd Y HF.out
  exact⟨_,rfl,an,nn,Y,h2,h3,rfl,j.trans h4⟩
 refine O0 ?_;exact dG)
 skip;by_cases e8:x.kind=8;·(
 have t4:=nK x.kind 4 (by omega);have t5:=nK x.kind 5 (by omega);have t6:=nK x.kind 6 (by omega);have t7:=nK x.kind 7 (by omega);have t8:=yK x.kind 8 (by omega);have l:=J2 (show dv p q f x=fD p.Nb x.ref by unfold dv;simp[e8]) (show dy f x=0 by unfold dy;simp[e8]);clear e8;go_upto_region 9 with fail;obtain⟨r,R⟩:=eR (fD p.Nb x.ref);have HL:=oH (fun wn (j:aa All W1 wn)=>Dh S _ p x.ref wn (b9.out wn j));rw[R] at HL;by_cases hf:0≤r
 ·rw[lH,Int.max_eq_left hf,bL hf] at HL;have o:=J3 (show 0≤dv p q f x∧0≤dy f x by rw[l.1,l.2,R];omega) (l.1.trans R) l.2;clear hf R;refine R0 12 W1 (fun i=>if i=6 then some (·=.tuple #[.int .i64 r,.bool true]) else none) ?_;iterate 3 refine O0 ?_
  refine O4 C.out ?_;refine O0 ?_;refine O4 C.out ?_;refine O5 (v:=.tuple #[.int .i64 r,.bool true]) (fun wn j hp=>⟨_,_,by(obtain⟨e0,e1,e2,e3,e4,e5,e6,e7,e8,e9,Z⟩:=C.out wn j;go_simp<;>with_reducible rfl),((HL.out wn j).mono fun e w' h=>?_)⟩) ?_;·exact⟨h.1,j.trans h.2,fun _ h=>by cases h⟩
  iterate 5 refine O0 ?_
  refine aG fun wt J hF=>?_;have b0:=oH J;have e9:=(C.out wt J).2.2.2.2.2.2.2.2.2.1;clear J hF;simp only[dK];go_wp2_with (go_at_call 138;refine(nQ _ _ _).mono ?_;rintro e w4 ⟨rfl,rfl⟩);go_ret2;exact .inl ⟨o.1,by rw[o.2.1,o.2.2]<;>rfl,HW.2.1.trans b0.out⟩
 rw[lH,Int.max_eq_right (by omega),cI hf] at HL;have b3:=oH (show¬(0≤dv p q f x∧0≤dy f x) by rw[l.1,R];omega);clear hf R;refine R0 12 W1 (fun i=>if i=6 then some (·=.tuple #[.int .i64 0,.bool false]) else none) ?_;iterate 3 refine O0 ?_
 refine O4 C.out ?_;refine O0 ?_;refine O4 C.out ?_;refine O5 (v:=.tuple #[.int .i64 0,.bool false]) (fun wn j hp=>⟨_,_,by(obtain⟨e0,e1,e2,e3,e4,e5,e6,e7,e8,e9,Z⟩:=C.out wn j;go_simp<;>with_reducible rfl),((HL.out wn j).mono fun e w' h=>?_)⟩) ?_;·exact⟨h.1,j.trans h.2,fun _ h=>by cases h⟩
 iterate 5 refine O0 ?_
 refine aG fun wt J hF=>?_;have b0:=oH J;have e9:=(C.out wt J).2.2.2.2.2.2.2.2.2.1;clear J hF;simp only[dK];have c0:=oH HW.2.2.Nj;go_wp2_with fail;refine(pK _ _ _ c0.out).mono ?_;rintro e w4 ⟨⟨an,nn,a6,a7,a8,rfl⟩,rfl⟩;have HS:=J3 a6 a7 a8;clear a6 a7 a8;go_wp2_with fail;exact⟨rfl,.inr ⟨b3.out,⟨an,nn,HS.1,HS.2.1,HS.2.2,rfl⟩,HW.2.1.trans b0.out⟩⟩)
 skip;by_cases e9:x.kind=9;·(
 have t4:=nK x.kind 4 (by omega);have t5:=nK x.kind 5 (by omega);have t6:=nK x.kind 6 (by omega);have t7:=nK x.kind 7 (by omega);have t8:=nK x.kind 8 (by omega);have t9:=yK x.kind 9 (by omega);have l:=J2 (show dv p q f x=fD p.Na x.ref by unfold dv;simp[e9]) (show dy f x=0 by unfold dy;simp[e9]);clear e9;go_upto_region 12 with fail;obtain⟨r,R⟩:=eR (fD p.Na x.ref);have HL:=oH (fun wn (j:aa All W1 wn)=>AJ S _ p x.ref wn (b9.out wn j));rw[R] at HL;by_cases hf:0≤r
 ·rw[lH,Int.max_eq_left hf,bL hf] at HL;have o:=J3 (show 0≤dv p q f x∧0≤dy f x by rw[l.1,l.2,R];omega) (l.1.trans R) l.2;clear hf R;refine R0 12 W1 (fun i=>if i=6 then some (·=.tuple #[.int .i64 r,.bool true]) else none) ?_;iterate 3 refine O0 ?_
  refine O4 C.out ?_;refine O0 ?_;refine O4 C.out ?_;refine O5 (v:=.tuple #[.int .i64 r,.bool true]) (fun wn j hp=>⟨_,_,by(obtain⟨e0,e1,e2,e3,e4,e5,e6,e7,e8,e9,Z⟩:=C.out wn j;go_simp<;>with_reducible rfl),((HL.out wn j).mono fun e w' h=>?_)⟩) ?_;·exact⟨h.1,j.trans h.2,fun _ h=>by cases h⟩
  iterate 5 refine O0 ?_
  refine aG fun wt J hF=>?_;have b0:=oH J;have e9:=(C.out wt J).2.2.2.2.2.2.2.2.2.1;clear J hF;simp only[dK];go_wp2_with (go_at_call 138;refine(nQ _ _ _).mono ?_;rintro e w4 ⟨rfl,rfl⟩);go_ret2;exact .inl ⟨o.1,by rw[o.2.1,o.2.2]<;>rfl,HW.2.1.trans b0.out⟩
 rw[lH,Int.max_eq_right (by omega),cI hf] at HL;have b3:=oH (show¬(0≤dv p q f x∧0≤dy f x) by rw[l.1,R];omega);clear hf R;refine R0 12 W1 (fun i=>if i=6 then some (·=.tuple #[.int .i64 0,.bool false]) else none) ?_;iterate 3 refine O0 ?_
 refine O4 C.out ?_;refine O0 ?_;refine O4 C.out ?_;refine O5 (v:=.tuple #[.int .i64 0,.bool false]) (fun wn j hp=>⟨_,_,by(obtain⟨e0,e1,e2,e3,e4,e5,e6,e7,e8,e9,Z⟩:=C.out wn j;go_simp<;>with_reducible rfl),((HL.out wn j).mono fun e w' h=>?_)⟩) ?_;·exact⟨h.1,j.trans h.2,fun _ h=>by cases h⟩
 iterate 5 refine O0 ?_
 refine aG fun wt J hF=>?_;have b0:=oH J;have e9:=(C.out wt J).2.2.2.2.2.2.2.2.2.1;clear J hF;simp only[dK];have c0:=oH HW.2.2.Nj;go_wp2_with fail;refine(pK _ _ _ c0.out).mono ?_;rintro e w4 ⟨⟨an,nn,a6,a7,a8,rfl⟩,rfl⟩;have HS:=J3 a6 a7 a8;clear a6 a7 a8;go_wp2_with fail;exact⟨rfl,.inr ⟨b3.out,⟨an,nn,HS.1,HS.2.1,HS.2.2,rfl⟩,HW.2.1.trans b0.out⟩⟩)
 skip;by_cases Z:x.kind=10;·(
 have t4:=nK x.kind 4 (by omega);have t5:=nK x.kind 5 (by omega);have t6:=nK x.kind 6 (by omega);have t7:=nK x.kind 7 (by omega);have t8:=nK x.kind 8 (by omega);have t9:=nK x.kind 9 (by omega);have t10:=yK x.kind 10 (by omega);have l:=J2 (show dv p q f x=eZ p x.ref by unfold dv;simp[Z]) (show dy f x=0 by unfold dy;simp[Z]);clear Z;go_upto_region 15 with fail;obtain⟨r,R⟩:=eR (eZ p x.ref);have HL:=oH (fun wn (j:aa All W1 wn)=>qB S _ p x.ref wn (b9.out wn j));rw[R] at HL;by_cases hf:0≤r
 ·rw[lH,Int.max_eq_left hf,bL hf] at HL;have o:=J3 (show 0≤dv p q f x∧0≤dy f x by rw[l.1,l.2,R];omega) (l.1.trans R) l.2;clear hf R;refine R0 12 W1 (fun i=>if i=6 then some (·=.tuple #[.int .i64 r,.bool true]) else none) ?_;iterate 3 refine O0 ?_
  refine O4 C.out ?_;refine O0 ?_;refine O4 C.out ?_;refine O5 (v:=.tuple #[.int .i64 r,.bool true]) (fun wn j hp=>⟨_,_,by(obtain⟨e0,e1,e2,e3,e4,e5,e6,e7,e8,e9,Z⟩:=C.out wn j;go_simp<;>with_reducible rfl),((HL.out wn j).mono fun e w' h=>?_)⟩) ?_;·exact⟨h.1,j.trans h.2,fun _ h=>by cases h⟩
  iterate 5 refine O0 ?_
  refine aG fun wt J hF=>?_;have b0:=oH J;have e9:=(C.out wt J).2.2.2.2.2.2.2.2.2.1;clear J hF;simp only[dK];go_wp2_with (go_at_call 138;refine(nQ _ _ _).mono ?_;rintro e w4 ⟨rfl,rfl⟩);go_ret2;exact .inl ⟨o.1,by rw[o.2.1,o.2.2]<;>rfl,HW.2.1.trans b0.out⟩
 rw[lH,Int.max_eq_right (by omega),cI hf] at HL;have b3:=oH (show¬(0≤dv p q f x∧0≤dy f x) by rw[l.1,R];omega);clear hf R;refine R0 12 W1 (fun i=>if i=6 then some (·=.tuple #[.int .i64 0,.bool false]) else none) ?_;iterate 3 refine O0 ?_
 refine O4 C.out ?_;refine O0 ?_;refine O4 C.out ?_;refine O5 (v:=.tuple #[.int .i64 0,.bool false]) (fun wn j hp=>⟨_,_,by(obtain⟨e0,e1,e2,e3,e4,e5,e6,e7,e8,e9,Z⟩:=C.out wn j;go_simp<;>with_reducible rfl),((HL.out wn j).mono fun e w' h=>?_)⟩) ?_;·exact⟨h.1,j.trans h.2,fun _ h=>by cases h⟩
 iterate 5 refine O0 ?_
 refine aG fun wt J hF=>?_;have b0:=oH J;have e9:=(C.out wt J).2.2.2.2.2.2.2.2.2.1;clear J hF;simp only[dK];have c0:=oH HW.2.2.Nj;go_wp2_with fail;refine(pK _ _ _ c0.out).mono ?_;rintro e w4 ⟨⟨an,nn,a6,a7,a8,rfl⟩,rfl⟩;have HS:=J3 a6 a7 a8;clear a6 a7 a8;go_wp2_with fail;exact⟨rfl,.inr ⟨b3.out,⟨an,nn,HS.1,HS.2.1,HS.2.2,rfl⟩,HW.2.1.trans b0.out⟩⟩)
 skip;by_cases c1:x.kind=11
 ·have t4:=nK x.kind 4 (by omega);have t5:=nK x.kind 5 (by omega);have t6:=nK x.kind 6 (by omega);have t7:=nK x.kind 7 (by omega);have t8:=nK x.kind 8 (by omega);have t9:=nK x.kind 9 (by omega);have t10:=nK x.kind 10 (by omega);have t11:=yK x.kind 11 (by omega);have l:=J2 (show dv p q f x=aO (cn f) x.ref by unfold dv;simp[c1]) (show dy f x=0 by unfold dy;simp[c1]);clear c1;go_upto_region 18 with fail;obtain⟨e0,e1,e2,e3,e4,e5,e6,e7,e8,e9,Z⟩:=C.out W1 kR;go_wp2_with fail;refine(HC.2.2.1 _ kR).mono ?_;rintro e w4 (⟨hf,rfl,rfl⟩|⟨hf,⟨an,nn,a6,a7,a8,rfl⟩,c6⟩);·have HF:=oH hf;clear hf;obtain⟨r,R⟩:=eR (aO (cn f) x.ref);rw[R];have HR:=oH R;clear R;go_wp2_with fail;go_ret2;exact .inl ⟨⟨by rw[l.1];exact HF.out,by rw[l.2];omega⟩,by rw[l.1,l.2,HR.out]<;>rfl,HW.2.1⟩
  have HS:=J5 a6 a7 a8 hf c6;clear a6 a7 a8 hf c6;go_wp2_with fail;exact⟨rfl,.inr ⟨fun h=>by have Y:=h.1;rw[l.1] at Y;have h2:=HS.2.2.2.1;omega,⟨an,nn,HS.1,HS.2.1,HS.2.2.1,rfl⟩,HW.2.1.trans HS.2.2.2.2⟩⟩
 skip;by_cases b7:x.kind=12;·(
 have t4:=nK x.kind 4 (by omega);have t5:=nK x.kind 5 (by omega);have t6:=nK x.kind 6 (by omega);have t7:=nK x.kind 7 (by omega);have t8:=nK x.kind 8 (by omega);have t9:=nK x.kind 9 (by omega);have t10:=nK x.kind 10 (by omega);have t11:=nK x.kind 11 (by omega);have t12:=yK x.kind 12 (by omega);have l:=J2 (show dv p q f x=aO (cn f) x.ref by unfold dv;simp[b7]) (show dy f x=aO (cn f) x.Ni by unfold dy;simp[b7]);clear b7;go_upto_region 20 with fail;obtain⟨r,R⟩:=eR (aO (cn f) x.ref);obtain⟨s,hs⟩:=eR (aO (cn f) x.Ni);have HL:=oH HC.2.2.1;have c2:=oH HC.2.2.2;rw[R] at HL;rw[hs] at c2;by_cases hf:0≤r;·(
 by_cases hg:0≤s;·(
 have HF:=J2 hf hg;have o:=J3 (show 0≤dv p q f x∧0≤dy f x by rw[l.1,l.2,R,hs];omega) (l.1.trans R) (l.2.trans hs);clear hf hg R hs;refine R0 16 W1 (fun i=>if i=13 then some (·=.int .i64 s) else if i=6 then some (·=.int .i64 r) else none) ?_;refine O0 ?_;refine O4 C.out ?_;refine O0 ?_;refine O4 C.out ?_;refine O0 ?_;refine O4 C.out ?_;refine O5 (v:=.int .i64 r) (fun wn j hp=>⟨_,_,by(obtain⟨e0,e1,e2,e3,e4,e5,e6,e7,e8,e9,Z⟩:=C.out wn j;go_simp<;>with_reducible rfl),((HL.out wn j).mono fun e w' h=>?_)⟩) ?_
 ·rcases h with ⟨_,Y,rfl⟩|⟨Y,_⟩
  ·exact⟨Y,j,fun _ h=>by cases h⟩
  exact absurd HF.1 Y
 refine O0 ?_;refine O4 C.out ?_;refine O0 ?_;refine O4 C.out ?_;refine O0 ?_;refine O4 C.out ?_;refine O5 (v:=.int .i64 s) (fun wn j hp=>⟨_,_,by(obtain⟨e0,e1,e2,e3,e4,e5,e6,e7,e8,e9,Z⟩:=C.out wn j;go_simp<;>with_reducible rfl),((c2.out wn j).mono fun e w' h=>?_)⟩) ?_
 ·rcases h with ⟨_,Y,rfl⟩|⟨Y,_⟩
  ·exact⟨Y,j,fun _ h=>by cases h⟩
  exact absurd HF.2 Y
 iterate 2 refine O0 ?_
 refine aG fun wt J hF=>?_;have b0:=oH J;clear J hF;simp only[dK];go_wp2_with fail;go_ret2;exact .inl ⟨o.1,by rw[o.2.1,o.2.2]<;>rfl,HW.2.1.trans b0.out⟩)
 have HF:=J2 hf hg;have b3:=oH (show¬(0≤dv p q f x∧0≤dy f x) by rw[l.1,l.2,R,hs];omega);clear hf hg R hs;refine bq 16 (aa All W1) [] (fun _ _ _=>True) (fun i=>if i=13 then some (·=.int .i64 0) else if i=6 then some (·=.int .i64 r) else none) (fun i=>decide (i=13)) (fun ch wn=>∃a n:Int,n≠0∧aV a∧aV n∧ch=[{v:=.iface 236 (.agg #[.int .i64 a,.int .i64 n]),recovered:=false}]∧aa All W1 wn) (by kernel_rfl) (by kernel_rfl) (by kernel_rfl) (by kernel_rfl) kR.drew ?_ ?_
 ·rintro a ch wn ⟨an,nn,a6,a7,a8,rfl,b4⟩ b5
  exact⟨b5,.inr ⟨b3.out,⟨an,nn,a6,a7,a8,rfl⟩,HW.2.1.trans b4⟩⟩
 simp only[tK];refine O0 ?_;refine O4 C.out ?_;refine O0 ?_;refine O4 C.out ?_;refine O0 ?_;refine O4 C.out ?_;refine O5 (v:=.int .i64 r) (fun wn j hp=>⟨_,_,by(obtain⟨e0,e1,e2,e3,e4,e5,e6,e7,e8,e9,Z⟩:=C.out wn j;go_simp<;>with_reducible rfl),((HL.out wn j).mono fun e w' h=>?_)⟩) ?_
 ·rcases h with ⟨_,Y,rfl⟩|⟨Y,_⟩
  ·exact⟨Y,j,fun _ h=>by cases h⟩
  exact absurd HF.1 Y
 refine O0 ?_;refine O4 C.out ?_;refine O0 ?_;refine O4 C.out ?_;refine O0 ?_;refine O4 C.out ?_;refine O7 (.int .i64 0) (fun wn j hp=>⟨_,_,by(obtain⟨e0,e1,e2,e3,e4,e5,e6,e7,e8,e9,Z⟩:=C.out wn j;go_simp<;>with_reducible rfl),((c2.out wn j).mono fun e w' h=>?_)⟩) ?_
 ·rcases h with ⟨Y,_⟩|⟨_,⟨an,nn,Y,h2,h3,rfl⟩,h4⟩
  ·exact absurd Y HF.2
  exact⟨_,rfl,an,nn,Y,h2,h3,rfl,j.trans h4⟩
 iterate 2 refine O0 ?_
 exact dG)
 by_cases hg:0≤s;·(
 have HF:=J2 hf hg;have b3:=oH (show¬(0≤dv p q f x∧0≤dy f x) by rw[l.1,l.2,R,hs];omega);clear hf hg R hs;refine bq 16 (aa All W1) [] (fun _ _ _=>True) (fun i=>if i=13 then some (·=.int .i64 s) else if i=6 then some (·=.int .i64 0) else none) (fun i=>decide (i=6)) (fun ch wn=>∃a n:Int,n≠0∧aV a∧aV n∧ch=[{v:=.iface 236 (.agg #[.int .i64 a,.int .i64 n]),recovered:=false}]∧aa All W1 wn) (by kernel_rfl) (by kernel_rfl) (by kernel_rfl) (by kernel_rfl) kR.drew ?_ ?_
 ·rintro a ch wn ⟨an,nn,a6,a7,a8,rfl,b4⟩ b5
  exact⟨b5,.inr ⟨b3.out,⟨an,nn,a6,a7,a8,rfl⟩,HW.2.1.trans b4⟩⟩
 simp only[tK];refine O0 ?_;refine O4 C.out ?_;refine O0 ?_;refine O4 C.out ?_;refine O0 ?_;refine O4 C.out ?_;refine O7 (.int .i64 0) (fun wn j hp=>⟨_,_,by(obtain⟨e0,e1,e2,e3,e4,e5,e6,e7,e8,e9,Z⟩:=C.out wn j;go_simp<;>with_reducible rfl),((HL.out wn j).mono fun e w' h=>?_)⟩) ?_
 ·rcases h with ⟨Y,_⟩|⟨_,⟨an,nn,Y,h2,h3,rfl⟩,h4⟩
  ·exact absurd Y HF.1
  exact⟨_,rfl,an,nn,Y,h2,h3,rfl,j.trans h4⟩
 refine O0 ?_;refine O4 C.out ?_;refine O0 ?_;refine O4 C.out ?_;refine O0 ?_;refine O4 C.out ?_;refine O5 (v:=.int .i64 s) (fun wn j hp=>⟨_,_,by(obtain⟨e0,e1,e2,e3,e4,e5,e6,e7,e8,e9,Z⟩:=C.out wn j;go_simp<;>with_reducible rfl),((c2.out wn j).mono fun e w' h=>?_)⟩) ?_
 ·rcases h with ⟨_,Y,rfl⟩|⟨Y,_⟩
  ·exact⟨Y,j,fun _ h=>by cases h⟩
  exact absurd HF.2 Y
 iterate 2 refine O0 ?_
 exact dG)
 have HF:=J2 hf hg;have b3:=oH (show¬(0≤dv p q f x∧0≤dy f x) by rw[l.1,l.2,R,hs];omega);clear hf hg R hs;refine bq 16 (aa All W1) [] (fun _ _ _=>True) (fun i=>if i=13 then some (·=.int .i64 0) else if i=6 then some (·=.int .i64 0) else none) (fun i=>decide (i=6∨i=13)) (fun ch wn=>∃a n:Int,n≠0∧aV a∧aV n∧ch=[{v:=.iface 236 (.agg #[.int .i64 a,.int .i64 n]),recovered:=false}]∧aa All W1 wn) (by kernel_rfl) (by kernel_rfl) (by kernel_rfl) (by kernel_rfl) kR.drew ?_ ?_
 ·rintro a ch wn ⟨an,nn,a6,a7,a8,rfl,b4⟩ b5
  exact⟨b5,.inr ⟨b3.out,⟨an,nn,a6,a7,a8,rfl⟩,HW.2.1.trans b4⟩⟩
 simp only[tK];refine O0 ?_;refine O4 C.out ?_;refine O0 ?_;refine O4 C.out ?_;refine O0 ?_;refine O4 C.out ?_;refine O7 (.int .i64 0) (fun wn j hp=>⟨_,_,by(obtain⟨e0,e1,e2,e3,e4,e5,e6,e7,e8,e9,Z⟩:=C.out wn j;go_simp<;>with_reducible rfl),((HL.out wn j).mono fun e w' h=>?_)⟩) ?_
 ·rcases h with ⟨Y,_⟩|⟨_,⟨an,nn,Y,h2,h3,rfl⟩,h4⟩
  ·exact absurd Y HF.1
  exact⟨_,rfl,an,nn,Y,h2,h3,rfl,j.trans h4⟩
 refine O0 ?_;refine O4 C.out ?_;refine O0 ?_;refine O4 C.out ?_;refine O0 ?_;refine O4 C.out ?_;refine O7 (.int .i64 0) (fun wn j hp=>⟨_,_,by(obtain⟨e0,e1,e2,e3,e4,e5,e6,e7,e8,e9,Z⟩:=C.out wn j;go_simp<;>with_reducible rfl),((c2.out wn j).mono fun e w' h=>?_)⟩) ?_
 ·rcases h with ⟨Y,_⟩|⟨_,⟨an,nn,Y,h2,h3,rfl⟩,h4⟩
  ·exact absurd Y HF.2
  exact⟨_,rfl,an,nn,Y,h2,h3,rfl,j.trans h4⟩
 iterate 2 refine O0 ?_
 exact dG)
 skip;have t4:=nK x.kind 4 (by omega);have t5:=nK x.kind 5 (by omega);have t6:=nK x.kind 6 (by omega);have t7:=nK x.kind 7 (by omega);have t8:=nK x.kind 8 (by omega);have t9:=nK x.kind 9 (by omega);have t10:=nK x.kind 10 (by omega);have t11:=nK x.kind 11 (by omega);have t12:=nK x.kind 12 (by omega);have l:=J2 (show dv p q f x=0 by unfold dv;simp[e4,e5,e6,e7,e8,e9,Z,c1,b7]) (show dy f x=0 by unfold dy;simp[b7]);clear e4 e5 e6 e7 e8 e9 Z c1 b7;go_wp2_with fail;go_ret2;exact .inl ⟨by rw[l.1,l.2];omega,by rw[l.1,l.2]<;>rfl,HW.2.1⟩
end Go.Proofs.YtncdbjponknakaaGreatDoor
