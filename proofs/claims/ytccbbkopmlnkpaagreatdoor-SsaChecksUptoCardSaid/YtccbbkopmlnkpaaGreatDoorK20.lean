/- Part 21 of the proof (its last part says what is proved). No condition. -/
import Derived.ProofKit
import Derived.OpenShut
import Derived.Test.YtccbbkopmlnkpaaGreatDoorK19
namespace Go.Proofs.YtccbbkopmlnkpaaGreatDoor
set_option maxRecDepth 100000
set_option maxHeartbeats 8000000
open Go.RowKit Go.Proofs.Tryz
section
open Go.RowKit Go.Shelf
attribute [local go_sem] Oper.semAt_some
theorem Bp (S:Nat→Prop)(R:Option Addr)(d1:Nat)(b:aw)(k Y:Nat)(w:World)(hb:bW S w (.slice R b.Ng.length d1) b.Ng)(j:al w Y 35 #[.int .i64 b.params,.int .i64 b.vars,.slice R b.Ng.length d1])(hG:gY b)(hk:k<b.Ng.length):
 Calls prog 33 #[.int .i64 k,.pointer (some ⟨Y,0,none⟩)] w fun e w'=>e=.returned (.int .i64 (fQ b k))∧w=w':=by
 obtain⟨l,I⟩:=eG hk;have h1:=(hG.some_ l (mG I)).1;obtain⟨x,J⟩:∃x,l[0]? =some x:=⟨_,lG (by omega)⟩;have hp:=yQ I J;obtain⟨rb,ro,rv,rfl,_,a1,o⟩:=bn hb I;obtain⟨LA,lc,rfl,l1,l2,l3,_⟩:=id o;obtain⟨xb,xo,a6,rfl,_,_,C,xa,xf,rfl,_⟩:=aZ o J;have z8:=C 8 _ rfl;rw[Nat.zero_mul,dj] at z8;have b2:=j.cl 2;have HP:=oH hp;unfold maxLen at l2;clear hb j hG I J hp o C;go_enter func33,ntmps33;go_wp2;go_ret;exact⟨by rw[HP.out];rfl,rfl⟩
theorem sK {S:Nat→Prop}{w:World}{v:Value}{l:List Int}{g:Nat}{t:TypeId}{p:Option Addr}(C:al w g t #[.pointer p])(h:aK S w v l):aK (fun k=>S k∧k≠g) w v l:=by obtain⟨a,cap,I,J,R,Y,h⟩:=h;refine⟨a,cap,I,J,R,Y,fun i x hx=>?_⟩;obtain⟨b,off,c,e,hs,j,rfl,hw⟩:=h i x hx;refine⟨b,off,_,e,⟨hs,fun o=>?_⟩,j,rfl,hw⟩;subst o;rw[C.cell] at j;generalize off+i=m at j;rcases m with _|n<;>simp at j
theorem AZ {S:Nat→Prop}{w:World}{v:Value}{l:List (List Int)}{g:Nat}{t:TypeId}{p:Option Addr}(C:al w g t #[.pointer p])(h:Rows S w v l):Rows (fun k=>S k∧k≠g) w v l:=by obtain⟨a,cap,J,R,Y,h3,h⟩:=h;refine⟨a,cap,J,R,Y,h3,fun i x hx=>?_⟩;obtain⟨b,off,c,e,hs,j,I⟩:=h i x hx;refine⟨b,off,c,e,⟨hs,fun o=>?_⟩,j,sK C I⟩;subst o;obtain⟨_,_,rfl,_⟩:=I;rw[C.cell] at j;generalize off+i=m at j;rcases m with _|n<;>simp at j
theorem xL {S:Nat→Prop}{w:World}{v:Value}{l:List (Int×Int)}(h:ev S w v l):ev (fun k=>k<w.heap.size) w v l:=by obtain⟨a,cap,o,C,I,J,h⟩:=h;refine⟨a,cap,o,C,I,J,fun i x R=>?_⟩;obtain⟨b,off,cs,e,hs,Y,j,rfl,h4⟩:=h i x R;exact⟨b,off,_,e,jy w _ (j 0 _ rfl),Y,j,rfl,h4⟩
def EH (b:aw)(j:World)(o:Nat)(pre:List (EK b.Ng))(W:World):Prop:=
 al W j.heap.size 3 #[.int .i64 0]∧al W (j.heap.size+1) 41 #[.int .i64 0]∧aa All j W∧o≤W.heap.size∧j.heap.size+2≤o∧∀u∈pre.map Subtype.val,uo b u.1 u.2.1 u.2.2=0
def JZ (b:aw)(o:World)(C:Nat)(pre:List (EK b.Ng))(W:World):Prop:=
 ∃j x,pre=j++[x]∧(∀u∈j.map Subtype.val,uo b u.1 u.2.1 u.2.2=0)∧uo b x.1.1 x.1.2.1 x.1.2.2≠0∧al W o.heap.size 3 #[.int .i64 x.1.2.2.Nj]∧al W (o.heap.size+1) 41 #[.int .i64 (uo b x.1.1 x.1.2.1 x.1.2.2)]∧aa All o W∧C≤W.heap.size∧o.heap.size+2≤C
theorem vx {j:Nat}{W C:World}{row:Option Nat}(I:W.grownBy C row)(J:∀r,row=some r→j≤r∧∃o:Obj,W.heap[r]? =some o∧o.isCells=false):aa (fun k=>k<j) W C:=
 (aa.refl _ W).grown I fun k R=>.inl fun h=>by have:=(J k R).1;have h:k<j:=h;omega
theorem CY {b:aw}{j:World}{o:Nat}:OwnFrom o (EH b j o):=by rintro s W W' row ⟨I,J,R,Y,h5,h6⟩ C hr;have k:=vx C hr;exact⟨I.kept k (by omega),J.kept k (by omega),am (R.all.trans (k.mono fun g (C:g<j.heap.size)=>by omega)),fR Y k.size,h5,h6⟩
theorem CX {b:aw}{o:World}{C:Nat}:OwnFrom C (JZ b o C):=by rintro s W W' row ⟨j,x,J,R,Y,h4,h5,h6,h7,h8⟩ I hr;have k:=vx I hr;exact⟨j,x,J,R,Y,h4.kept k (by omega),h5.kept k (by omega),am (h6.all.trans (k.mono fun g (I:g<o.heap.size)=>by omega)),fR h7 k.size,h8⟩
def LY (n:Nat)(v:Value):Prop:=∃A c,v=.slice A n c
def Ka (v:Value):Prop:=∃g,v=.pointer (some ⟨g,0,none⟩)
def rW (b:aw)(v:Value)(wn:World):Prop:=∃j pl,aK All wn v (lV b.Ng.length j)∧mz (bM b) j pl
def rX (b:aw)(v:Value)(wn:World):Prop:=Rows All wn v (gF (bM b))
def LX (b:aw)(j:Value)(v:Value):Prop:=∃o C I J,v=.agg #[.int .i64 b.params,.int .i64 b.vars,j,.slice o b.Ng.length C,.slice I b.Ng.length J,.slice none 0 0]
def KH (b:aw)(J:Value)(v:Value)(wn:World):Prop:=∃j o C I,v=.agg #[.int .i64 b.params,.int .i64 b.vars,J,.slice j b.Ng.length o,.slice C b.Ng.length I,.slice none 0 0]∧rW b (.slice j b.Ng.length o) wn∧rX b (.slice C b.Ng.length I) wn
def ER (b:aw)(R:Value)(lo:Nat)(v:Value)(wn:World):Prop:=∃g j o C I,v=.pointer (some ⟨g,0,none⟩)∧lo≤g∧al wn g 88 #[.int .i64 b.params,.int .i64 b.vars,R,.slice j b.Ng.length o,.slice C b.Ng.length I,.slice none 0 0]∧(∃J pl,aK (fun k=>k<g) wn (.slice j b.Ng.length o) (lV b.Ng.length J)∧mz (bM b) J pl)∧Rows (fun k=>k<g) wn (.slice C b.Ng.length I) (gF (bM b))
def ES (lo:Nat)(v:Value)(wn:World):Prop:=∃g,v=.pointer (some ⟨g,0,none⟩)∧lo≤g∧al wn g 85 #[.pointer none]
def xI (b:aw)(j:Value)(lo:Nat)(t:Tmp)(v:Value)(wn:World):Prop:=if t=44 then rW b v wn else if t=46 then rX b v wn else if t=47 then KH b j v wn else if t=48 then ER b j lo v wn else ES lo v wn
section
variable {b:aw} {bv:Value} {lo:Nat} {wn wq:World} (hkq:aa All wn wq) {v:Value}
include hkq
theorem rW.keep (h:rW b v wn):rW b v wq:=by obtain⟨j,pl,o,C⟩:=h;exact⟨j,pl,ah.keep hkq o,C⟩
theorem rX.keep (h:rX b v wn):rX b v wq:=aq.keep hkq h
theorem xI.keep (t:Tmp)(h:xI b bv lo t v wn):xI b bv lo t v wq:=by
 unfold xI at h⊢;by_cases h1:t=44;·rw[ap h1] at h⊢;exact h.keep hkq
 rw[ae h1] at h⊢;by_cases h2:t=46;·rw[ap h2] at h⊢;exact h.keep hkq
 rw[ae h2] at h⊢;by_cases h3:t=47;·rw[ap h3] at h⊢;obtain⟨j,o,C,I,e,g1,g2⟩:=h;exact⟨j,o,C,I,e,g1.keep hkq,g2.keep hkq⟩
 rw[ae h3] at h⊢;by_cases h4:t=48;·rw[ap h4] at h⊢;obtain⟨g,j,o,C,I,e,J,R,⟨tt,pl,g1,Y⟩,g2⟩:=h;exact⟨g,j,o,C,I,e,J,R.kept hkq trivial,⟨tt,pl,ah.keep hkq.all g1,Y⟩,aq.keep hkq.all g2⟩
 rw[ae h4] at h⊢;obtain⟨g,e,J,R⟩:=h;exact⟨g,e,J,R.kept hkq trivial⟩
end
theorem Ef (S:Nat→Prop)(bv:Value)(b:aw)(w:World)(hb:bW S w bv b.Ng)(hG:gY b)(k3:b.Ng.flatten.length≤4096):
 Calls prog 21 #[.agg #[.int .i64 b.params,.int .i64 b.vars,bv]] w (qk b w):=by
 have l4:=vJ hb;have l5:=bg.la l4;obtain⟨B1,d1,rfl,m5,m6,m7,_⟩:=hb;obtain⟨A,F,hI⟩:=vw l4;have r5:=hG.blk.2;have s7:=hG.blk.1;have j1:=cS b;have o3:=qam hG;obtain⟨W0,j2⟩:=eQ (w.alloc (.cells #[.int .i64 b.params,.int .i64 b.vars,.slice B1 b.Ng.length d1] 35));have l6:=aC1 j2;have bB:=aA0 j2;obtain⟨b0,b1,b2⟩:=bB.c3;have o4:=Je _ (.slice B1 b.Ng.length d1) b W0 (l5 W0 l6) hG;have HG:=J4 hG hI k3 o3;have HW:=J5 j2 l6 bB l5 o4;have s8:∀(fn:Fn) (first cap:Array Value) (w:World),(Instr.makeFunc fn first cap).run prog w=.ok (.func fn first cap) w:=fun _ _ _ _=>rfl;clear hG hI k3 j2 l6 bB l5 o4 l4 m5 m6 m7 o3;refine(callsIn_wide (n:=8)).1 ?_;refine callsIn_of_wp_marks func21 rfl trivial ?_ rfl;simp only[ntmps21,List.size_toArray,kI,List.length_nil,Nat.reduceAdd,Nat.reduceSub,Array.replicate_succ,Array.replicate_zero,List.push_toArray,List.append_toArray,mF,List.cons_append];rw[wpIn_wide];go_wp2
 go_step3
 go_upto_region 1 with fail;rw[←HW.1];go_wp2_with fail;refine HW.2.2.2.2.mono ?_;rintro e w1 ⟨u,rfl,h4,l7⟩;have o5:=jh h4;have j3:=aq.la o5;obtain⟨TA,tc,rfl,t1,t2,t3,_⟩:=h4;rw[j1] at t1 t3 j3⊢;unfold maxLen at t2;have c8:=yC _ _ (bM b) w1 (j3 w1 kR) HG.2.2.2;rw[j1] at c8;have HT:=J5 j3 j1 c8 l7 (HW.2.1.trans l7);clear j3 j1 c8 l7 o5 b0 b1 b2;go_wp2_with fail;refine HT.2.2.1.mono ?_;rintro e w2 ⟨rfl,l8⟩;have e0:=J2 l8 (HT.2.2.2.1.trans l8);clear l8;have h5:=HW.2.2.1.kept e0.2 trivial;obtain⟨b0,b1,b2⟩:=h5.c3;clear h5;have o6:=fun wn (C:aa All W0 wn) k (r6:k<b.Ng.length)=>Bp _ B1 d1 b k w.heap.size wn (HW.2.2.2.1 wn (HW.2.1.trans C)) (HW.2.2.1.kept C trivial) HG.1 r6;have l9:=oH o6;clear o6;rcases jX (kO (bM b)) b.Ng.length with ⟨h0,a1⟩|⟨k,h0,C,_⟩
 case inr=>(
 rw[h0];have tk:decide ((0:Int)≤(k:Int))=true:=by simp
 have tm:max (k:Int) 0=(k:Int):=by omega
 have HN:=J2 (yn h0) (l9.out w2 e0.2 k C);clear h0;go_wp2_with fail;refine HN.2.mono ?_;rintro e w3 ⟨rfl,rfl⟩;go_wp2_with fail;rw[Exit.noGoto_ret];exact⟨.tuple #[.int .i64 (fQ b k),.int .i64 16],by simp[results,Tryz.f21,go_sem],.of HN.1 (HW.2.1.trans e0.2)⟩)
 rw[h0];have H0:=J2 h0 a1;have m9:=Ei _ _ (bM b) w2 (HT.1 w2 e0.1) HG.2.2.2;rw[HT.2.1] at m9;have HS:=oH m9;clear h0 m9 a1;go_wp2_with fail;refine HS.out.mono ?_;rintro e w3 ⟨rfl,n0⟩;have R:=J2 (e0.1.trans n0) (e0.2.trans n0);clear n0 b0 b1 b2;have h5:=HW.2.2.1.kept R.2 trivial;obtain⟨b0,b1,b2⟩:=h5.c3;clear h5;rcases jX (iN (bM b)) b.Ng.length with ⟨h0,_⟩|⟨k,h0,C,_⟩
 case inr=>(
 rw[h0];have tk:decide ((0:Int)≤(k:Int))=true:=by simp
 have tm:max (k:Int) 0=(k:Int):=by omega
 have HN:=J2 (ve H0.1 h0) (l9.out w3 R.2 k C);clear h0;go_wp2_with fail;refine HN.2.mono ?_;rintro e w4 ⟨rfl,rfl⟩;go_wp2_with fail;rw[Exit.noGoto_ret];exact⟨.tuple #[.int .i64 (fQ b k),.int .i64 17],by simp[results,Tryz.f21,go_sem],.of HN.1 (HW.2.1.trans R.2)⟩)
 rw[h0];have H1:=oH h0;clear h0;have hL:∀k,k<(bM b).length→aQ (bM b) 0 k:=fun k C=>Classical.byContradiction fun h=>H0.2 k (by rw[←HT.2.1];exact C) ⟨C,h⟩;have h6:=fun wn (C:aa All w1 wn)=>Hu _ _ (bM b) wn (HT.1 wn C) HG.2.2.2 hL;have h7:=fun wn (C:aa All w1 wn)=>sd _ _ (bM b) wn (HT.1 wn C) HG.2.2.2;have HR:=J2 h6 h7;clear h6 h7 hL;go_wp2_with fail;have HF:=oH (show∀wn,aa All w3 wn→wn.cell? ⟨w.heap.size,0,none⟩=some (.int .i64 b.params)∧wn.cell? ⟨w.heap.size,1,none⟩=some (.int .i64 b.vars)∧wn.cell? ⟨w.heap.size,2,none⟩=some (.slice B1 b.Ng.length d1) from fun wn C=>⟨(HW.2.2.1.kept (R.2.trans C) trivial).cell 0,(HW.2.2.1.kept (R.2.trans C) trivial).cell 1,(HW.2.2.1.kept (R.2.trans C) trivial).cell 2⟩);refine R1 8 w3 [44,46,47,48,11] (xI b (.slice B1 b.Ng.length d1) w3.heap.size) (fun i=>if i=2 then some (LY b.Ng.length) else if i=4 then some (LY b.Ng.length) else if i=5 then some (LX b (.slice B1 b.Ng.length d1)) else if i=6 then some Ka else if i=7 then some Ka else none) ?_;refine O4 HF.out ?_;refine O0 ?_;refine O6 (fun wn C hp=>?_) (fun wn C hp=>?_) ?_;·go_simp;refine(HR.1 wn (R.1.trans C)).mono ?_;rintro e wq ⟨u,tt,pl,rfl,hkq,a7,b6⟩;rw[HT.2.1] at a7;have J:aK All wq u (lV b.Ng.length tt):=ah.wide (fun _ _=>trivial) a7;obtain⟨A,c,eu,_⟩:=id J;rw[nW] at eu;subst eu;exact .inl ⟨rfl,_,rfl,⟨_,_,rfl⟩,C.trans hkq,fun t _ v h=>h.keep hkq t,fun d hd _=>by cases hd;exact⟨tt,pl,J,b6⟩⟩
 ·obtain⟨e,wq,_,⟨u,tt,pl,rfl,hkq,a7,b6⟩,_⟩:=(HR.1 wn (R.1.trans C)) [];rw[HT.2.1] at a7;have J:aK All wq u (lV b.Ng.length tt):=ah.wide (fun _ _=>trivial) a7;obtain⟨A,c,eu,_⟩:=id J;rw[nW] at eu;subst eu;exact⟨_,wq,⟨_,_,rfl⟩,C.trans hkq,fun t _ v h=>h.keep hkq t,fun d hd _=>by cases hd;exact⟨tt,pl,J,b6⟩⟩
 rintro v ⟨A3,c3,rfl⟩;simp only[PS];refine O0 ?_;refine O6 (fun wn C hp=>?_) (fun wn C hp=>?_) ?_;·go_simp;refine(HR.2 wn (R.1.trans C)).mono ?_;rintro e wq ⟨u,rfl,hkq,a7⟩;have J:Rows All wq u (gF (bM b)):=aq.wide (fun _ _=>trivial) a7;obtain⟨A,c,eu,_⟩:=id J;rw[fK,HT.2.1] at eu;subst eu;exact .inl ⟨rfl,_,rfl,⟨_,_,rfl⟩,C.trans hkq,fun t _ v h=>h.keep hkq t,fun d hd _=>by cases hd;exact J⟩
 ·obtain⟨e,wq,_,⟨u,rfl,hkq,a7⟩,_⟩:=(HR.2 wn (R.1.trans C)) [];have J:Rows All wq u (gF (bM b)):=aq.wide (fun _ _=>trivial) a7;obtain⟨A,c,eu,_⟩:=id J;rw[fK,HT.2.1] at eu;subst eu;exact⟨_,wq,⟨_,_,rfl⟩,C.trans hkq,fun t _ v h=>h.keep hkq t,fun d hd _=>by cases hd;exact J⟩
 rintro v ⟨A4,c4,rfl⟩;simp only[PS];refine O6 (fun wn C hp=>?_) (fun wn C hp=>?_) ?_
 ·have c9:=hp 44 (by decide) (by decide) _ rfl
  have d7:=hp 46 (by decide) (by decide) _ rfl;go_simp;exact⟨rfl,⟨_,_,_,_,rfl⟩,C,fun t _ v h=>h,fun d hd _=>by cases hd;exact⟨_,_,_,_,rfl,c9,d7⟩⟩
 ·have c9:=hp 44 (by decide) (by decide) _ rfl
  have d7:=hp 46 (by decide) (by decide) _ rfl;exact⟨.agg #[.int .i64 b.params,.int .i64 b.vars,.slice B1 b.Ng.length d1,.slice A3 b.Ng.length c3,.slice A4 b.Ng.length c4,.slice none 0 0],wn,⟨_,_,_,_,rfl⟩,C,fun t _ v h=>h,fun d hd _=>by cases hd;exact⟨_,_,_,_,rfl,c9,d7⟩⟩
 rintro v ⟨A5,c5,A6,c6,rfl⟩;simp only[PS];refine O6 (fun wn C hp=>?_) (fun wn C hp=>?_) ?_;·have n1:=hp 47 (by decide) (by decide) _ rfl;obtain⟨_,_,_,_,e,⟨tt,pl,c9,b6⟩,d7⟩:=n1;cases e;go_simp;exact⟨rfl,⟨_,rfl⟩,C.alloc _,fun t _ v h=>h.keep (kR.alloc _) t,fun d hd _=>by cases hd;exact⟨_,_,_,_,_,rfl,C.size,al.new _ _ _,⟨tt,pl,ah.keep (kR.alloc _) (kV c9),b6⟩,aq.keep (kR.alloc _) (jh d7)⟩⟩
 ·have n1:=hp 47 (by decide) (by decide) _ rfl
  obtain⟨_,_,_,_,e,⟨tt,pl,c9,b6⟩,d7⟩:=n1;cases e;exact⟨.pointer (some ⟨wn.heap.size,0,none⟩),wn.alloc (.cells #[.int .i64 b.params,.int .i64 b.vars,.slice B1 b.Ng.length d1,.slice A5 b.Ng.length c5,.slice A6 b.Ng.length c6,.slice none 0 0] 88),⟨_,rfl⟩,C.alloc _,fun t _ v h=>h.keep (kR.alloc _) t,fun d hd _=>by cases hd;exact⟨_,_,_,_,_,rfl,C.size,al.new _ _ _,⟨tt,pl,ah.keep (kR.alloc _) (kV c9),b6⟩,aq.keep (kR.alloc _) (jh d7)⟩⟩
 rintro v ⟨gk,rfl⟩;simp only[PS];refine O6 (fun wn C hp=>?_) (fun wn C hp=>?_) ?_
 ·go_simp
  exact⟨rfl,⟨_,rfl⟩,C.alloc _,fun t _ v h=>h.keep (kR.alloc _) t,fun d hd _=>by cases hd;exact⟨_,rfl,C.size,al.new _ _ _⟩⟩
 ·exact⟨.pointer (some ⟨wn.heap.size,0,none⟩),wn.alloc (.cells #[.pointer none] 85),⟨_,rfl⟩,C.alloc _,fun t _ v h=>h.keep (kR.alloc _) t,fun d hd _=>by cases hd;exact⟨_,rfl,C.size,al.new _ _ _⟩⟩
 rintro v ⟨gp,rfl⟩;simp only[PS];refine aG fun wt o7 hF=>?_;have o8:=hF 48 (by decide) _ rfl;have o9:=hF 11 (by decide) _ rfl;obtain⟨_,A5,c5,A6,c6,e1,p1,j4,⟨tt,pl,a7,b6⟩,p2⟩:ER b (.slice B1 b.Ng.length d1) w3.heap.size _ wt:=o8;cases e1;obtain⟨_,e2,p3,b9⟩:ES w3.heap.size _ wt:=o9;cases e2;have n2:gk≠gp:=j4.ne b9 (by decide);have J:=sK b9 a7;have k5:=AZ b9 p2;have p0:=b9.cl 0;have f0:=b9.free 0;obtain⟨W4,j7⟩:=eQ (wt.setCell ⟨gp,0,none⟩ (.pointer (some ⟨gk,0,none⟩)));have h8:aa (fun k=>k≠gp) wt W4:=by rw[j7];exact kR.setCell (.inl fun h=>h rfl) _
 have r7:=j4.lt;have s9:=b9.lt;have k6:aa All w3 W4:=am (o7.all.trans (h8.mono fun k (C:k<w3.heap.size)=>by omega));have n3:al W4 gp 85 #[.pointer (some ⟨gk,0,none⟩)]:=by rw[j7];exact b9.set 0 _
 have n4:=j4.kept h8 n2;have k7:=ah.keep (h8.mono fun k (C:k<gk∧k≠gp)=>C.2) J;have h9:=aq.keep (h8.mono fun k (C:k<gk∧k≠gp)=>C.2) k5;obtain⟨rb,ro,rv,rfl,r8,n5,p4⟩:=bn h9 (mX (ll:=bM b) (k:=0) (by rw[HT.2.1];omega));rw[dj] at n5;obtain⟨RA,rc,rfl,r1,r2,r3,_⟩:=id p4;unfold maxLen at r2;have p0:=n3.cl 0;have k4:=n4.cl 4;have HX:=J9 j7 k6 n3 n4 k7 h9 b6 n2 p1;clear hF p1 p3 j4 a7 p2 b9 J k5 h8 k6 n3 n4 k7 h9 b6 j7 o7 p4 r8;simp only[dK];go_upto_region 10 with fail;rw[←HX.1];obtain⟨L,hL⟩:=eR (di (bM b) (bM b).length 0);rw[hL] at n5 r1 r3;by_cases r9:0<L.length;·obtain⟨y,hy⟩:∃y,y∈di (bM b) (bM b).length 0:=⟨L[0],by rw[hL];exact eL r9⟩;obtain⟨i,_,_,hi⟩:=jc.1 hy;have k8:Calls prog 33 #[.int .i64 0,.pointer (some ⟨w.heap.size,0,none⟩)] W4 fun e w'=>e=.returned (.int .i64 (fQ b 0))∧W4=w':=l9.out W4 (R.2.trans HX.2.1) 0 (by omega);have HN:=J2 (yp H0.1 H1.out hi) k8;clear hL hy hi k8;go_wp2_with fail;refine HN.2.mono ?_;rintro e w5 ⟨rfl,hw⟩;have s0:=hw.symm;subst s0;go_wp2_with fail;rw[Exit.noGoto_ret];exact⟨.tuple #[.int .i64 (fQ b 0),.int .i64 18],by simp[results,Tryz.f21,go_sem],.of HN.1 ((HW.2.1.trans R.2).trans HX.2.1)⟩
 have HN:=oH (BU H0.1 H1.out fun i hi=>by have hm:(i:Int)∈di (bM b) (bM b).length 0:=jc.2 ⟨i,rfl,lq hi,hi⟩;rw[hL,show L=[] from oD (by omega)] at hm;cases hm);clear hL;have i1:=HW.2.2.1.kept (R.2.trans HX.2.1) trivial;have i7:=fun wn (C:aa All W4 wn)=>Ed _ (.slice B1 b.Ng.length d1) b wn (HW.2.2.2.1 wn ((HW.2.1.trans R.2).trans (HX.2.1.trans C))) HG.1 HG.2.2.1;have HD:=oH i7;have p5:=oH (show∀wn,aa All W4 wn→wn.cell? ⟨w.heap.size,0,none⟩=some (.int .i64 b.params)∧wn.cell? ⟨w.heap.size,1,none⟩=some (.int .i64 b.vars)∧wn.cell? ⟨w.heap.size,2,none⟩=some (.slice B1 b.Ng.length d1)∧wn.cell? ⟨gp,0,none⟩=some (.pointer (some ⟨gk,0,none⟩)) from fun wn C=>⟨(i1.kept C trivial).cell 0,(i1.kept C trivial).cell 1,(i1.kept C trivial).cell 2,(HX.2.2.1.kept C trivial).cell 0⟩);have p6:=oH i1;clear i7 i1;have ek:=p5.out W4 kR;obtain⟨b0,b1,b2,b3⟩:=ek;have fk:=HX.2.2.2.1.free 5;have ck:=HX.2.2.2.1.cl 5;clear p0;go_upto_region 12 with fail;clear k4 n5;go_cut [] from 59 to 66 (fun wx=>∃A c,aa (fun k=>k≠gk) W4 wx∧al wx gk 88 #[.int .i64 b.params,.int .i64 b.vars,.slice B1 b.Ng.length d1,.slice A5 b.Ng.length c5,.slice (some ⟨rb,ro,none⟩) b.Ng.length c6,.slice A (jp b).length c]∧ev (fun k=>W4.heap.size≤k) wx (.slice A (jp b).length c) (jp b))
 case first=>(
 refine wp_region_noPanic ?_;go_region_with (go_at_call 19;refine(HD.out _ (kR.drew)).mono ?_;rintro e wq ⟨u,rfl,hkq,hu⟩;obtain⟨A,c,eu,_⟩:=id hu;subst eu;have c0:=(aa.refl All W4).drew.trans hkq;obtain⟨g0,g1,g2,g3⟩:=p5.out wq c0;have v7:=(HX.2.2.2.1.kept c0 trivial).free 5;have s3:=(HX.2.2.2.1.kept c0 trivial).cell 5;simp only[gc] at s3)
 all_goals
  refine NoPanic.normal ?_;go_wp2_with fail;go_meet;have e3:=(HX.2.2.2.1.kept c0 trivial).set 5 (.slice A (jp b).length c);simp only[ga] at e3;exact⟨A,c,c0.all.setCell (p:=⟨gk,5,none⟩) (.inl fun h=>h rfl) _,e3,bu.keep ((aa.refl (fun k=>W4.heap.size≤k) wq).setCell (p:=⟨gk,5,none⟩) (.inl (by have:=HX.2.2.2.1.lt;show¬(W4.heap.size≤gk);omega)) _) hu⟩)
 obtain⟨A7,c7,d8,e3,n7⟩:=hcut;have r7:=HX.2.2.2.1.lt;have k9:(jp b).length=b.vars.toNat:=by simp[jp]
 rw[k9] at e3 n7;have s4:=d8.size;have a8:rJ (fun k=>k<wc.heap.size) wc gk b tt:=⟨_,A5,c5,_,_,A7,c7,e3,ah.wide (fun k C=>by have:k<gk∧k≠gp:=C;omega) (ah.keep (d8.mono fun k (C:k<gk∧k≠gp)=>by show k≠gk;omega) HX.2.2.2.2.1),aq.wide (fun k C=>by have:k<gk∧k≠gp:=C;omega) (aq.keep (d8.mono fun k (C:k<gk∧k≠gp)=>by show k≠gk;omega) HX.2.2.2.2.2.1),xL n7⟩;have l0:gp≠gk:=fun e=>HX.2.2.2.2.2.2.2.1 e.symm;have l1:=HX.2.2.1.kept d8 l0;have j0:=p6.out.kept d8 (by have h1:=HW.2.2.1.lt;have h2:=R.2.size;have h3:=HX.2.2.2.2.2.2.2.2;show w.heap.size≠gk;omega);have n8:=J3 a8 l1 j0;have l2:aa All w wc:=am (((HW.2.1.trans R.2).trans HX.2.1).all.trans (d8.mono fun k (C:k<w.heap.size)=>by have h1:=HW.2.2.1.lt;have h2:=R.2.size;have h3:=HX.2.2.2.2.2.2.2.2;show k≠gk;omega));have d9:=oH l2;obtain⟨W7,e4⟩:=eQ ((wc.alloc (.cells #[.int .i64 0] 3)).alloc (.cells #[.int .i64 0] 41));have n9:=aC2 e4;have p7:=aA1 e4;have p8:=aB0 e4 aE1;have p9:=aD2 e4;have q0:=j0.kept n9 trivial;obtain⟨b0,b1,b2⟩:=q0.c3;have e5:=J5 e4 n9 p7 p8 p9;clear e4 n9 p7 p8 p9 q0 a8 l1 j0 d8 e3 n7 l2 s4 k9 l0 fk ck b3;go_wp2_with fail
 go_step3
 rw[←e5.1];go_wp2_with fail;refine(zk _ _ _ _ _ _).mono ?_;rintro e w' ⟨rfl,rfl⟩;obtain⟨wl,j8⟩:=eQ (W7.alloc (.cells #[.int .i64 b.params,.int .i64 b.vars,.slice B1 b.Ng.length d1] 35));have e6:=aC1 j8;have q6:=aA0 j8;have q7:iJ (fun g=>g<w.heap.size) w wl:=(iJ.refl _ _).kept ((d9.out.trans e5.2.1).trans e6).all;have o0:wc.heap.size+2≤wl.heap.size:=by have:=e6.size;have:=e5.2.2.2.2;omega
 have q8:EH b wc wl.heap.size [] wl:=⟨e5.2.2.1.kept e6 trivial,e5.2.2.2.1.kept e6 trivial,e5.2.1.trans e6,cf _,o0,fun u hu=>by cases hu⟩;rw[←j8];have HL:=J4 q6 q7 q8 o0;clear j8 e6 q6 q7 q8 o0 b0 b1 b2;go_wp2_with fail
 refine wpIn_wide.1 (lW (F:=Fence.wide) (n:=8) rfl (by omega) (gf:=51) (lb:=#[.pointer (some ⟨W7.heap.size,0,none⟩)]) rfl trivial (enters_of func51 (by kernel_rfl) rfl)
  (tM 7 (by omega) (fun g=>g<w.heap.size) w b.params b.vars B1 d1 b.Ng A F HG.2.1 r5 _ wl HL.2.1 HL.1) BY (BX _) (fun W o h=>h.kept (kR.alloc _)) (Below.refl _ _) (fun _=>rfl)
  (EH b wc wl.heap.size) (fun c pre W=>c=.exit 0∧JZ b wc wl.heap.size pre W) CY (fun c=>OwnFrom.and (ownFrom_pure _ _) CX) (fun pre W h=>h.2.2.2.1) HL.2.2.1
  14 15 74 40 (fun x=>#[.int .i64 (x.1.1:Nat),.int .i64 (x.1.2.1:Nat)]) (fun x=>#[.int .u8 x.1.2.2.kind,.int .u8 x.1.2.2.op,.int .i64 x.1.2.2.dst,.int .i64 x.1.2.2.ref,.int .i64 x.1.2.2.Ni,A x.1.1 x.1.2.1,F x.1.1 x.1.2.1,.int .i64 x.1.2.2.num,.int .i64 x.1.2.2.Nj]) ?assign ?body ?done ?stop)
 case assign=>(intro l x W K hK;obtain⟨⟨i,k,x⟩,row,b4,hx⟩:=x;obtain⟨⟨aA,cA,eA,_⟩,⟨aF,cF,eF,_⟩,_⟩:=HG.2.1.ints i row b4 k x hx;dsimp only at hK⊢;rw[eA,eF] at hK⊢;simp only[List.zip_toArray,List.zip_cons_cons,List.zip_nil_right,List.foldl_toArray',List.size_toArray,kI,List.length_nil,List.foldl_cons,List.foldl_nil,ga] at hK;gi_wp2;exact hK)
 case body=>(
 rintro l pre x b1 b2 W n2 v8 w0 e7 b7 ⟨hf,he,b5,hs,e8,a1⟩ _;obtain⟨⟨i,k,x⟩,row,b4,hx⟩:=x;obtain⟨i5,i6,_⟩:=HG.2.1.ints i row b4 k x hx;have hW:=d9.out.trans b5;have j5:=fun wn (C:aa All W wn)=>ah.keep (hW.trans C).all i5;have j6:=fun wn (C:aa All W wn)=>ah.keep (hW.trans C).all i6;obtain⟨aA,cA,eA,_,u2,_⟩:=i5;obtain⟨aF,cF,eF,_⟩:=i6;unfold maxLen at u2;dsimp only at e7 b7⊢;rw[eA] at b7 j5⊢;rw[eF] at b7 j6⊢;have j9:=mG b4;have k0:=mG hx;have q9:=(lS.1 b4).1;have a8:=fun wn (C:aa All W wn)=>n8.1.keep (b5.trans C) (fun _ _=>trivial) trivial;have r0:=(n8.2.1.kept b5 trivial).cl 0;obtain⟨x0,x1⟩:=e7.c2;obtain⟨y0,y1,y2,y3,y4,y5,y6,y7,y8⟩:=b7.c9;have w6:=d9.out.size;have k1:∀z:iL,z∈(pre++[(⟨(i,k,x),row,b4,hx⟩:EK b.Ng)]).map Subtype.val→z∈pre.map Subtype.val∨z=(i,k,x):=fun z hz=>by
  rw[ic] at hz;rcases eD.1 hz with h|h;·exact .inl h
  exact .inr (cx.1 h)
 by_cases h3:x.kind=3;·(
 have t3:=yK x.kind 3 (by omega);have hC:=Ho _ _ _ gk b pl tt x _ _ i k W (a8 W kR) HG.1 HX.2.2.2.2.2.2.1 q9 (j5 W kR) (j6 W kR) (HG.1.phi row j9 x k0 h3) (HG.1.args row j9 x k0) (HG.1.Nh row j9 x k0);have b8:uo b i k x=mH b i x:=Ck h3;obtain⟨pf,r4⟩:=eR (mH b i x);rw[r4] at hC b8;have HC:=J6 hC b8 a1 b5 hs k1;clear hC b8 r4 a1 h3 a8 j5 j6 hW k1;by_cases hz:pf=0;·(
 have tz:(pf !=0)=false:=by rw[gj];exact hz
 gi_wp2_with (refine⟨trivial,?_⟩;gi_at_call 35;refine(CallsIn.inRound l (callsIn_wide.2 HC.1)).mono ?_;rintro e W8 ⟨rfl,I⟩;have fW:=hf.kept I trivial;have eW:=he.kept I trivial;have oW:=b7.kept I trivial;have q1:=eW.cell 0;have q2:=eW.free 0;have q3:=fW.cell 0;have q4:=fW.free 0;have q5:=oW.cell 8;simp only[gc] at q1 q3 q5;have l3:=I.size);refine⟨((KeepsOthers.of_kept I).trans (KeepsOthers.setCell _ _ _)).from _,fun h=>h.kept (I.all.setCell (p:=⟨wc.heap.size+1,0,none⟩) (.inl (by simp;omega)) _),fW.far (by simp) _,?_,(HC.2.2.2.1.trans I).setCell (p:=⟨wc.heap.size+1,0,none⟩) (.inr (by simp)) _,by simp;have:=HC.2.2.2.2.1;omega,e8,fun u hu=>?_⟩
 ·have:=eW.set 0 (.int .i64 0)
  simpa using this
 rcases HC.2.2.2.2.2 u hu with h|rfl;·exact HC.2.2.1 u h
 rw[HC.2.1];exact hz)
 have tz:(pf !=0)=true:=by rw[bne_iff_ne];exact hz
 gi_wp2_with (refine⟨trivial,?_⟩;gi_at_call 35;refine(CallsIn.inRound l (callsIn_wide.2 HC.1)).mono ?_;rintro e W8 ⟨rfl,I⟩;have fW:=hf.kept I trivial;have eW:=he.kept I trivial;have oW:=b7.kept I trivial;have q1:=eW.cell 0;have q2:=eW.free 0;have q3:=fW.cell 0;have q4:=fW.free 0;have q5:=oW.cell 8;simp only[gc] at q1 q3 q5;have l3:=I.size);refine⟨(((KeepsOthers.of_kept I).trans (KeepsOthers.setCell _ _ _)).trans (KeepsOthers.setCell _ _ _)).from _,rfl,pre,_,rfl,HC.2.2.1,by rw[HC.2.1];exact hz,?_,?_,((HC.2.2.2.1.trans I).setCell (p:=⟨wc.heap.size+1,0,none⟩) (.inr (by simp)) _).setCell (p:=⟨wc.heap.size,0,none⟩) (.inr (by simp)) _,by simp;have:=HC.2.2.2.2.1;omega,e8⟩
 ·have:=(fW.far (p:=⟨wc.heap.size+1,0,none⟩) (by simp) (.int .i64 pf)).set 0 (.int .i64 x.Nj)
  simpa using this
 have:=(eW.set 0 (.int .i64 pf)).far (p:=⟨wc.heap.size,0,none⟩) (by simp) (.int .i64 x.Nj);rw[HC.2.1];simpa using this)
 have t3:=nK x.kind 3 (by omega);have HJ:=J10 j5 a8 a1 b5 hs k1 e7 b7 hf he;have H3:=oH h3;clear j5 j6 a8 a1 h3 hW k1 r0 x0 x1 y1 y2 y3 y4 y6 y7 y8;gi_wp2
 gi_loopw [85] (fun s wr=>∃m:Nat,m≤x.args.length∧s=.int .i64 m∧aa All W wr∧∀(j:Nat) v,j<m→x.args[j]? =some v→iP b v i k) (fun s _=>x.args.length-(intOf s).toNat)
 ·exact⟨0,by omega,rfl,kR,fun j v hj=>by omega⟩
 obtain⟨m,hm,rfl,a6,c1⟩:=hrel;clear y0 y5;have e7:=HJ.2.2.2.2.2.2.1.kept a6 trivial;have b7:=HJ.2.2.2.2.2.2.2.1.kept a6 trivial;have hf:=HJ.2.2.2.2.2.2.2.2.1.kept a6 trivial;have he:=HJ.2.2.2.2.2.2.2.2.2.kept a6 trivial;have c2:=HJ.2.2.2.1.trans a6;have r0:=(n8.2.1.kept c2 trivial).cl 0;obtain⟨x0,x1⟩:=e7.c2;have w7:=a6.size;have w8:=HJ.2.2.2.2.1;by_cases s5:m<x.args.length;·(
 obtain⟨v,hv⟩:=eG s5;have k2:=HG.1.args row j9 x k0 v (mG hv);obtain⟨vn,o1⟩:∃vn:Nat,v=vn:=⟨v.toNat,by omega⟩;rw[o1] at hv k2;obtain⟨vb,vo,vv,rfl,_,w9,rfl,_⟩:=bn (HJ.1 wr a6) hv;have e9:=Br _ gk b pl tt vn i k wr (HJ.2.1 wr a6) HG.1 HX.2.2.2.2.2.2.1 k2.2 q9;by_cases ht:iP b vn i k;·(
 rw[av ht] at e9;have Y:=J5 e9 ht hv c1 a6;clear e9 ht hv c1 a6 k2 o1 e7 b7 hf he c2;gi_wp2_with (refine⟨trivial,?_⟩;gi_at_call 36;refine(CallsIn.inRound l (callsIn_wide.2 Y.1)).mono ?_;rintro e W8 ⟨rfl,I⟩)
 go_roundw
 case rel=>
  refine⟨m+1,by omega,by simp,Y.2.2.2.2.trans I,fun j v hj o2=>?_⟩;by_cases e:j=m;·subst e;rw[Y.2.2.1] at o2;cases o2;exact Y.2.1
  exact Y.2.2.2.1 j v (by omega) o2
 case measure=>simp[intOf];omega)
 rw[au ht] at e9;have b8:uo b i k x=19:=Gt H3.out (mG hv) ht;have Y:=J3 e9 b8 a6;clear e9 ht hv c1 b8 k2 o1;gi_wp2_with (refine⟨trivial,?_⟩;gi_at_call 36;refine(CallsIn.inRound l (callsIn_wide.2 Y.1)).mono ?_;rintro e W8 ⟨rfl,I⟩;have fW:=hf.kept I trivial;have eW:=he.kept I trivial;have oW:=b7.kept I trivial;have q1:=eW.cell 0;have q2:=eW.free 0;have q3:=fW.cell 0;have q4:=fW.free 0;have q5:=oW.cell 8;simp only[gc] at q1 q3 q5;have l3:=I.size);refine⟨(((KeepsOthers.of_kept (a6.trans I)).trans (KeepsOthers.setCell _ _ _)).trans (KeepsOthers.setCell _ _ _)).from _,rfl,pre,_,rfl,HJ.2.2.1,by rw[Y.2.1];decide,?_,?_,((c2.trans I).setCell (p:=⟨wc.heap.size,0,none⟩) (.inr (by simp)) _).setCell (p:=⟨wc.heap.size+1,0,none⟩) (.inr (by simp)) _,by simp;omega,e8⟩
 ·have:=(fW.set 0 (.int .i64 x.Nj)).far (p:=⟨wc.heap.size+1,0,none⟩) (by simp) (.int .i64 19)
  simpa using this
 have:=(eW.far (p:=⟨wc.heap.size,0,none⟩) (by simp) (.int .i64 x.Nj)).set 0 (.int .i64 19);rw[Y.2.1];simpa using this)
 obtain rfl:m=x.args.length:=by omega
 have b8:uo b i k x=0:=Kq H3.out fun v hv=>by obtain⟨j,hj⟩:=cY.1 hv;exact c1 j v (lS.1 hj).1 hj
 have Y:=J5 b8 a6 hf he c2;clear b8 c1 a6 hf he c2;gi_wp2;refine⟨(KeepsOthers.of_kept Y.2.1).from _,fun h=>h.kept Y.2.1.all,Y.2.2.1,Y.2.2.2.1,Y.2.2.2.2,by omega,e8,fun u hu=>?_⟩;rcases HJ.2.2.2.2.2.1 u hu with h|rfl;·exact HJ.2.2.1 u h
 exact Y.1)
 case done=>(rintro D xs W hD hS ⟨hf,he,b5,hs,e8,a1⟩ hK;rw[hS] at a1;have HZ:=J3 (show oh b=(0,0) by rw[HN.out];exact CW a1) (d9.out.trans b5) hK;have qf:=hf.cl 0;have qe:=he.cl 0;clear hf he b5 a1 hS hK;go_wp2;go_quiet (fail);go_wp2;rw[Exit.noGoto_ret];refine⟨by simp,.inl ⟨_,_,rfl,run_takeDeferred HZ.2.2,?_⟩⟩;exact⟨.tuple #[.int .i64 0,.int .i64 0],by simp[results,Tryz.f21,go_sem],.of HZ.1 (aa.put (HZ.2.1.drewN _) (.inr (by have:=d9.out.size;have:=HL.2.2.2;omega)) _)⟩)
 rintro D c pre W hD hS ⟨rfl,s6,x,rfl,a1,hx,hf,he,b5,hs,e8⟩ hK;rw[ic] at hS;have HZ:=J3 (show oh b=(x.1.2.2.Nj,uo b x.1.1 x.1.2.1 x.1.2.2) by rw[HN.out];exact Ah hS a1 hx) (d9.out.trans b5) hK;obtain⟨⟨i,k,x⟩,row,b4,x2⟩:=x;dsimp only at hf he HZ;obtain⟨z,hz⟩:=eR (uo b i k x);rw[hz] at he HZ;have qf:=hf.cl 0;have qe:=he.cl 0;clear hf he b5 a1 hS hK hx hz;rw[wpIn_wide];go_wp2;go_quiet (fail);go_wp2;rw[Exit.noGoto_ret];refine⟨by simp,.inl ⟨_,_,rfl,run_takeDeferred HZ.2.2,?_⟩⟩;exact⟨.tuple #[.int .i64 x.Nj,.int .i64 z],by simp[results,Tryz.f21,go_sem],.of HZ.1 (aa.put (HZ.2.1.drewN _) (.inr (by have:=d9.out.size;have:=HL.2.2.2;omega)) _)⟩
end
theorem Bg (S:Nat→Prop)(pv cv:Value)(p:aH)(c:aE)(w:World)(hp:dJ S w pv p)(hc:cQ S w cv c)(hl:gz w)(hS:∀b,S b→b<w.heap.size)(b9:kj p)(c0:lY c)(hN:eM p c↔bJ p c):
 Calls prog 9 #[pv,cv] w (nH p c w):=by
 have c3:=cB.la hp;have c4:=dc.la hc;obtain⟨h2,vu,vi,vo,rfl,e1,e2,e3,e4,e5⟩:=hp;obtain⟨a1,n1,rfl,l1,l2,_⟩:=e1;obtain⟨a2,n2,rfl,_⟩:=e2;obtain⟨a3,n3,rfl,_⟩:=e3;obtain⟨a4,n4,rfl,_⟩:=e4;obtain⟨ka,kf,rfl,e6,c5,e7⟩:=hc;have c6:=bV.la c5;obtain⟨A1,c1,rfl,m1,m2,m3,_⟩:=e6;obtain⟨A2,c2,rfl,m4,m5,m6,_⟩:=c5;unfold maxLen at*;obtain⟨W0,R⟩:=eQ ((w.alloc (.cells #[.slice a1 p.MZ.length n1,.slice a2 p.up.length n2,.slice a3 p.Nb.length n3,.slice a4 p.Na.length n4,.int .i64 p.Nc] 26)).alloc (.cells #[.slice A1 c.Nd.length c1,.slice A2 c.Nf.length c2,.int .i64 c.main] 30));have J:=aC2 R;have bP:=aA1 R;have bK:=aB0 R aE1;obtain⟨p0,p1,p2,p3,p4⟩:=bP.c5;obtain⟨k0,k1,k2⟩:=bK.c3;have HW:=J5 R J bP bK c6;have b7:=AI S _ _ p c W0 (c3 W0 J) (c4 W0 J) (hl.keep J) (fun b hb=>by have:=hS b hb;have:=J.size;omega) b9 c0;rw[kC hN] at b7;have HR:=oH b7;clear b7 hN hl hS b9 c0;clear R J bP bK c3 c4 c6 e5 e7;go_enter func9,ntmps9;go_upto_region 1 with fail;rw[←HW.1];go_wp2_with fail;refine HR.out.mono ?_;rintro e w1 ⟨rfl,b8⟩;have c7:=oH b8;have c8:=oH (HW.2.1.trans b8);clear b8 p0 p1 p2 p3 p4 k0 k1 k2;have Y:=HW.2.2.2.1.kept c7.out trivial;obtain⟨k0,k1,k2⟩:=Y.c3;clear Y;by_cases o:bJ p c
 case neg=>(rw[au o];have HN:=oH (wy o);clear o;go_wp2_with fail;exact bodyPost_ret (v:=.tuple #[.int .i64 0,.int .i64 0,.int .i64 1]) (by simp[results,Tryz.f9,go_sem]) rfl (.of HN.out c8.out))
 rw[av o];have h3:=o.2.2.1;have a8:=oH o;clear o;go_wp2_with fail;go_loopg [18] c.Nf.length (fun g s wr=>∃j:Nat,j≤c.Nf.length∧g=c.Nf.length-j∧s=.int .i64 j∧aa All w1 wr∧∀i:Nat,i<j→∀b,c.Nf[i]? =some b→(oh b).2=0);·exact⟨0,by omega,by omega,rfl,kR,fun i hi=>by omega⟩
 obtain⟨j,hj,rfl,rfl,a6,I⟩:=hrel;have a7:=c8.out.trans a6;clear k0 k1 k2;have Y:=(HW.2.2.2.1.kept c7.out trivial).kept a6 trivial;obtain⟨k0,k1,k2⟩:=Y.c3;clear Y;by_cases e8:j<c.Nf.length;·(
 obtain⟨b,hb⟩:=eG e8;obtain⟨gb,go,h4,rfl,e9,c9,b0,bv,rfl,d7,h0,C⟩:=aZ (HW.2.2.2.2 wr a7) hb;have b6:=bg.la d7;obtain⟨vA,vc,rfl,_⟩:=d7;obtain⟨W5,b1⟩:=eQ (wr.alloc (.cells #[.int .i64 b.params,.int .i64 b.vars,.slice vA b.Ng.length vc] 35));have b3:=aC1 b1;have b5:=aA0 b1;obtain⟨y0,y1,y2⟩:=b5.c3;have d8:b.Ng.flatten.length≤4096:=fR (qz (dr.2 ⟨b,mG hb,rfl⟩)) a8.2.2.2.2.2.2.2.2;have b4:=Ef S _ b W5 (b6 W5 b3) (Kj (a8.2.2.2.2.2.2.2.1 b (mG hb))) d8;have z0:=b0 0 _ rfl;rw[dj] at z0;have z1:=b0 1 _ rfl;have z2:=b0 2 _ rfl;obtain⟨fx,fy,hf⟩:∃fx fy,oh b=(fx,fy):=⟨_,_,rfl⟩;unfold qk at b4;rw[hf] at b4;have HC:=J6 b4 (a6.trans b3) (a7.trans b3) I hb hf;have h1:=oH b1;clear b4 a6 a7 I hb hf b0 h0 C e9 c9 b1 b3 b5 b6 d8;go_upto_region 6 with fail;rw[←h1.out];clear z0 z1 z2 k0 k1 k2;go_wp2_with fail;refine HC.1.mono ?_;rintro e w2 ⟨rfl,d9⟩;have e0:=oH d9;clear d9;by_cases hz:fy=0;·(
 have tz:(fy !=0)=false:=by rw[gj];exact hz
 have HZ:=oH (show(oh b).2=0 by rw[HC.2.2.2.2.2];exact hz);clear hz;go_wp2_with fail;go_roundg (c.Nf.length-(j+1))
 ·refine⟨j+1,by omega,rfl,by go_num,HC.2.1.trans e0.out,fun i hi b2 C=>?_⟩
  by_cases e:i=j;·subst e;rw[HC.2.2.2.2.1] at C;cases C;exact HZ.out
  exact HC.2.2.2.1 i (by omega) b2 C
 omega)
 have tz:(fy !=0)=true:=by rw[bne_iff_ne];exact hz
 have HZ:=oH (show oK p c=((j:Int),fx,fy) by rw[nc a8.out,su HC.2.2.2.2.1 (fun i hi b2 C=>HC.2.2.2.1 i hi b2 C) (by rw[HC.2.2.2.2.2];exact hz),HC.2.2.2.2.2,cN]);clear hz;go_wp2_with fail;exact bodyPost_ret (v:=.tuple #[.int .i64 j,.int .i64 fx,.int .i64 fy]) (by simp[results,Tryz.f9,go_sem]) rfl (.of HZ.out (HC.2.2.1.trans e0.out)))
 obtain rfl:j=c.Nf.length:=by omega
 have HZ:=oH (show oK p c=(0,0,0) by rw[nc a8.out];exact mc fun b hb=>by obtain⟨i,hi⟩:=cY.1 hb;exact I i (lS.1 hi).1 b hi);have HK:=oH a7;clear a6 a7 I;go_wp2_with fail;exact bodyPost_ret (v:=.tuple #[.int .i64 0,.int .i64 0,.int .i64 0]) (by simp[results,Tryz.f9,go_sem]) rfl (.of HZ.out HK.out)
theorem Bq (S:Nat→Prop)(pv cv:Value)(p:aH)(c:aE)(w:World)(hp:dJ S w pv p)(hc:cQ S w cv c)(hl:gz w)(hS:∀b,S b→b<w.heap.size)(I:kj p)(J:lY c)(hN:eM p c↔bJ p c):
 Calls prog 14 #[pv,cv] w fun e w'=>e=.returned (.bool (pB (bJ p c∧jH c)))∧aa All w w':=by
 have R:=cB.la hp;have Y:=dc.la hc;obtain⟨b8,vu,vi,vo,rfl,b0,b1,b2,b3,b4⟩:=hp;obtain⟨a1,n1,rfl,l1,l2,_⟩:=b0;obtain⟨a2,n2,rfl,_⟩:=b1;obtain⟨a3,n3,rfl,_⟩:=b2;obtain⟨a4,n4,rfl,_⟩:=b3;obtain⟨ka,kf,rfl,b5,a6,b6⟩:=hc;have a7:=bV.la a6;obtain⟨A1,c1,rfl,m1,m2,m3,_⟩:=b5;obtain⟨A2,c2,rfl,m4,m5,m6,_⟩:=a6;unfold maxLen at*;obtain⟨W0,o⟩:=eQ ((w.alloc (.cells #[.slice a1 p.MZ.length n1,.slice a2 p.up.length n2,.slice a3 p.Nb.length n3,.slice a4 p.Na.length n4,.int .i64 p.Nc] 26)).alloc (.cells #[.slice A1 c.Nd.length c1,.slice A2 c.Nf.length c2,.int .i64 c.main] 30));have j:=aC2 o;have bP:=aA1 o;have bK:=aB0 o aE1;obtain⟨p0,p1,p2,p3,p4⟩:=bP.c5;obtain⟨k0,k1,k2⟩:=bK.c3;have HW:=J5 o j bP bK a7;have HR:=oH (Bg S _ _ p c W0 (R W0 j) (Y W0 j) (hl.keep j) (fun b hb=>by have:=hS b hb;have:=j.size;omega) I J hN);clear hN hl hS I J;clear o j bP bK R Y a7 b4 b6;have hz:=uN (p:=p) (c:=c);unfold nH at HR;obtain⟨x,y,z,hx⟩:∃x y z,oK p c=(x,y,z):=⟨_,_,_,rfl⟩;rw[hx] at HR hz;have C:(z==0)=pB (bJ p c∧jH c):=by
  by_cases h:z=0;·rw[av (hz.1 h)];simpa using h
  rw[au fun h'=>h (hz.2 h')];simpa using h
 obtain⟨q,hq⟩:=eR ((z==0));rw[hq] at C;have HZ:=oH C;clear hz C hx;go_enter func14,ntmps14;go_upto_region 1 with fail;rw[←HW.1];go_wp2_with fail;refine HR.out.mono ?_;rintro e w1 ⟨rfl,a8⟩;have b7:=oH (HW.2.1.trans a8);clear a8;go_wp2_with fail;go_ret;exact⟨by rw[←HZ.out]<;>rfl,b7.out⟩
theorem YU (s:ByteArray)(q:dN)(at_ er:Int)(w:World)(hq:WD s=some q)(ht:∀l,Tt s (s.size+1) 0=some l→l.length≤4096)(R:ot Uw q)(Y:rK (qV Uw q))(a8:lY (qV Uw q))(a6:(oK Uw (qV Uw q)).2=(at_,er))(hl:gz w)(hm:Ws w):
 Calls prog 22 #[.string s] w fun e w'=>e=.returned (.tuple #[.int .i64 at_,.int .i64 er])∧aa All w w':=by
 have HL:=J2 hl hm;have HQ:=J6 hq ht R Y a8 a6;clear hl hm hq ht R Y a8 a6;go_enter func22,ntmps22;go_upto_region 1 with fail;go_wp2_with fail;refine(VO w HL.1 HL.2).mono ?_;rintro e w1 ⟨b0,v,rfl,hp⟩;have j:=hp;obtain⟨e5,vu,vi,vo,rfl,c7,c8,c9,d7,d8⟩:=hp;obtain⟨a1,n1,rfl,_⟩:=c7;obtain⟨a2,n2,rfl,_⟩:=c8;obtain⟨a3,n3,rfl,_⟩:=c9;obtain⟨a4,n4,rfl,_⟩:=d7;clear d8;change dJ _ _ (.agg #[.slice a1 Uw.MZ.length n1,.slice a2 Uw.up.length n2,.slice a3 Uw.Nb.length n3,.slice a4 Uw.Na.length n4,.int .i64 Uw.Nc]) _ at j;have H1:=J2 b0 (cB.wide (T:=fun b=>b<w1.heap.size) (fun b o=>o.2) j);clear b0 j;go_upto_region 2 with fail;have k2:aa All w1 (w1.alloc (.cells #[.slice a1 Uw.MZ.length n1,.slice a2 Uw.up.length n2,.slice a3 Uw.Nb.length n3,.slice a4 Uw.Na.length n4,.int .i64 Uw.Nc] 26)):=kR.alloc _;have b2:al (w1.alloc (.cells #[.slice a1 Uw.MZ.length n1,.slice a2 Uw.up.length n2,.slice a3 Uw.Nb.length n3,.slice a4 Uw.Na.length n4,.int .i64 Uw.Nc] 26)) w1.heap.size 26 #[.slice a1 Uw.MZ.length n1,.slice a2 Uw.up.length n2,.slice a3 Uw.Nb.length n3,.slice a4 Uw.Na.length n4,.int .i64 Uw.Nc]:=al.new _ _ _;obtain⟨pb,b3⟩:=eQ w1.heap.size;rw[←b3] at b2⊢;generalize w1.alloc _=W2 at*;have H2:=J3 (H1.1.trans k2) (cB.keep k2.all H1.2) b2;have d9:=oH k2.size;clear k2 b2 b3;go_wp2_with fail;refine(WN s q W2 HQ.1 HQ.2.1 (HL.1.keep H2.1)).mono ?_;rintro e w3 ⟨J,v,rfl,hq⟩;have C:=hq;obtain⟨e6,e7,rfl,e0,e3⟩:=hq;obtain⟨b1,m1,rfl,_⟩:=e0;obtain⟨b2,m2,rfl,_⟩:=e3;have H3:=J4 J (sI.wide (T:=fun b=>b<w3.heap.size) (fun b o=>o.2) C) (H2.2.2.kept J trivial) (cB.keep J.all H2.2.1);clear J C;go_upto_region 3 with fail;have k4:aa All w3 (w3.alloc (.cells #[.slice b1 q.Nd.length m1,.slice b2 q.Nf.length m2] 81)):=kR.alloc _;have b4:al (w3.alloc (.cells #[.slice b1 q.Nd.length m1,.slice b2 q.Nf.length m2] 81)) w3.heap.size 81 #[.slice b1 q.Nd.length m1,.slice b2 q.Nf.length m2]:=al.new _ _ _;obtain⟨qb,b5⟩:=eQ w3.heap.size;rw[←b5] at b4⊢;generalize w3.alloc _=W4 at*;have b7:=k4.size;have H4:=J5 ((H2.1.trans H3.1).trans k4) (cB.keep k4.all H3.2.2.2) (sI.keep k4.all H3.2.1) (H3.2.2.1.kept k4 trivial) b4;have HS:=oH (show w1.heap.size≤W4.heap.size∧w3.heap.size≤W4.heap.size from by have h1:=d9.out;have h2:=H3.1.size;exact⟨by omega,b7⟩);clear k4 b4 b5 b7;obtain⟨c0,c1,c2,c3,c4⟩:=H4.2.2.2.1.c5;obtain⟨t0,t1⟩:=H4.2.2.2.2.c2;have j:=cB.wide (T:=fun b=>b<W4.heap.size) (fun b o=>Nat.lt_of_lt_of_le o HS.1) H4.2.1;have C:=sI.wide (T:=fun b=>b<W4.heap.size) (fun b o=>Nat.lt_of_lt_of_le o HS.2) H4.2.2.1;have HR:=oH (zc _ _ _ Uw q W4 j C (HL.1.keep H4.1) (fun b o=>o));have e4:=oH j;clear j C;go_wp2_with fail;refine HR.out.mono ?_;rintro e w5 ⟨b8,d1,l1,e1,d2,l2,e2,m,x5,n5,rfl,_,a7⟩;obtain⟨rfl,I⟩:=a7 HQ.2.2.1;have H5:=J2 b8 (dc.wide (T:=fun b=>b<w5.heap.size) (fun b o=>o.2) I);clear b8 a7 I;go_upto_region 4 with fail;have k6:aa All w5 (w5.alloc (.cells #[.slice d1 l1 e1,.slice d2 l2 e2,.int .i64 m] 30)):=kR.alloc _;have b6:al (w5.alloc (.cells #[.slice d1 l1 e1,.slice d2 l2 e2,.int .i64 m] 30)) w5.heap.size 30 #[.slice d1 l1 e1,.slice d2 l2 e2,.int .i64 m]:=al.new _ _ _;obtain⟨cb,b9⟩:=eQ w5.heap.size;rw[←b9] at b6⊢;generalize w5.alloc _=W6 at*;have c5:=J2 H5.1.size k6.size;have H6:=J5 ((H4.1.trans H5.1).trans k6) (H4.2.2.2.1.kept (H5.1.trans k6) trivial) b6 (cB.keep (H5.1.trans k6).all e4.out) (dc.keep k6.all H5.2);clear k6 b6 b9 c0 c1 c2 c3 c4 t0 t1;obtain⟨c0,c1,c2,c3,c4⟩:=H6.2.1.c5;obtain⟨t0,t1,t2⟩:=H6.2.2.1.c3;have j:=cB.wide (T:=fun b=>b<W6.heap.size) (fun b o=>by have:=c5.out;show b<W6.heap.size;have o:b<W4.heap.size:=o;omega) H6.2.2.2.1;have I:=dc.wide (T:=fun b=>b<W6.heap.size) (fun b o=>Nat.lt_of_lt_of_le o c5.2) H6.2.2.2.2;have HC:=oH (Bg _ _ _ Uw (qV Uw q) W6 j I (HL.1.keep H6.1) (fun b o=>o) Yf HQ.2.2.2.2.1 (Dr (p:=Uw) names HQ.2.2.2.1));clear j I;go_upto_region 6 with fail;go_wp2_with fail;refine HC.out.mono ?_;rintro e w7 ⟨rfl,c6⟩;have HK:=oH (H6.1.trans c6);clear c6;have hc:=HQ.2.2.2.2.2;obtain⟨x,y⟩:=eQ (oK Uw (qV Uw q));rw[←y] at hc⊢;have he:x=(x.1,at_,er):=by rw[←hc]
 rw[he];clear he hc y;go_wp2_with fail;go_ret2;exact⟨rfl,HK.out⟩
theorem YZ:WD Yo=some (WC Yo)∧WD Yp=some (WC Yp)∧WD Yq=some (WC Yq):=⟨by kernel_rfl,by kernel_rfl,by kernel_rfl⟩
theorem ZM:(∀l,Tt Yo (Yo.size+1) 0=some l→l.length≤4096)∧(∀l,Tt Yp (Yp.size+1) 0=some l→l.length≤4096)∧(∀l,Tt Yq (Yq.size+1) 0=some l→l.length≤4096):=of_decide_eq_true (by kernel_rfl)
theorem uF (w:World)(J:gz w)(hm:Ws w):Calls prog 11 #[] w fun e w'=>e=.returned (.bool true)∧aa All w w':=by obtain⟨x0,R⟩:∃x:Int,(oK Uw (qV Uw (WC Yo))).2=(x,0):=⟨0,by rw[show qV Uw (WC Yo)=TO Yo from rfl,YC]⟩;obtain⟨x1,Y⟩:∃x:Int,(oK Uw (qV Uw (WC Yp))).2=(x,19):=⟨(oK Uw (TO Yp)).2.1,Prod.ext rfl YD⟩;have h0:=fun wn (j:aa All w wn)=>YU Yo _ x0 0 wn YZ.1 ZM.1 ⟨Ye,Zd.1,Xp.1⟩ Yt.1 YK.1 R (J.keep j) (hm.keep j);have h1:=fun wn (j:aa All w wn)=>YU Yp _ x1 19 wn YZ.2.1 ZM.2.1 ⟨Ye,Zd.2.1,Xp.2.1⟩ Yt.2.1 YK.2.1 Y (J.keep j) (hm.keep j);have h2:=fun wn (j:aa All w wn)=>YU Yq _ 15 17 wn YZ.2.2 ZM.2.2 ⟨Ye,Zd.2.2,Xp.2.2⟩ Yt.2.2 YK.2.2 YE (J.keep j) (hm.keep j);have H:=J3 h0 h1 h2;clear h0 h1 h2 J hm R Y;go_enter func11,ntmps11;go_upto_region 1 with fail;go_wp2_with fail;refine(H.1 w kR).mono ?_;rintro e w1 ⟨rfl,o⟩;have H1:=oH o;clear o;go_wp2_with fail;refine(H.2.1 w1 H1.out).mono ?_;rintro e w2 ⟨rfl,C⟩;have H2:=oH (H1.out.trans C);clear C;go_wp2_with fail;refine(H.2.2 w2 H2.out).mono ?_;rintro e w3 ⟨rfl,I⟩;have H3:=oH (H2.out.trans I);clear I;go_wp2_with fail;go_ret;exact⟨rfl,H3.out⟩



theorem vr {S:Nat→Prop}{w:World}{v:Value}{l:List Int}(h:aK S w v l):aK (fun b=>S b∧b<w.heap.size) w v l:=by obtain⟨A,c,e,o,C,I,J⟩:=h;refine⟨A,c,e,o,C,I,fun i x R=>?_⟩;obtain⟨b,off,u,Y,e2,j,e4⟩:=J i x R;exact⟨b,off,u,Y,⟨e2,jy w _ j⟩,j,e4⟩
def yO (x:bz)(a f:Value):List Value:=[.int .u8 x.kind,.int .u8 x.op,.int .i64 x.dst,.int .i64 x.ref,.int .i64 x.Ni,a,f,.int .i64 x.num,.int .i64 x.Nj]
def ki (g lo j:Nat)(o:Bool)(w:World)(l:List bz):Prop:=∃cur,al w g 40 cur∧∀(k:Nat) y,l[k]? =some y→∃a f,
 (∀(r:Nat) u,(yO y a f)[r]? =some u→cur[k*9+r]? =some u)∧aK (fun b=>((k<j∨(k=j∧o=true))→lo≤b)∧b≠g) w a y.args∧aK (fun b=>(k<j→lo≤b)∧b≠g) w f y.Nh∧jx y
theorem ki.keep {g lo j:Nat}{I:Bool}{w o:World}{l:List bz}{S:Nat→Prop}(h:ki g lo j I w l)(k:aa S w o)(R:∀b,b<w.heap.size→S b):ki g lo j I o l:=by obtain⟨cur,Y,h2⟩:=h;have C:aa All w o:=⟨k.os,k.output,k.size,fun b J _=>k.block b J (R b J)⟩;refine⟨cur,Y.kept C trivial,fun k y hy=>?_⟩;obtain⟨a,f,e1,e2,e3,e4⟩:=h2 k y hy;exact⟨a,f,e1,ah.keep C.all e2,ah.keep C.all e3,e4⟩
theorem ki.get {g lo j:Nat}{C:Bool}{w:World}{l:List bz}(h:ki g lo j C w l){k:Nat}{x:bz}(I:l[k]? =some x):∃a f,(∀(r:Nat) u,(yO x a f)[r]? =some u→w.cell? ⟨g,k*9+r,none⟩=some u)∧(∀r,w.frozen? ⟨g,k*9+r,none⟩=false)∧aK (fun b=>b≠g) w a x.args∧aK (fun b=>b≠g) w f x.Nh:=by obtain⟨cur,o,J⟩:=h;obtain⟨a,f,R,Y,e3,e4⟩:=J k x I;exact⟨a,f,fun r u hu=>by rw[o.cell];exact R r u hu,fun r=>o.free _,ah.wide (fun _ h=>h.2) Y,ah.wide (fun _ h=>h.2) e3⟩
theorem rE {cur:Array Value}{i j:Nat}{u v:Value}(h:cur[j]? =some v)(o:i≠j):(cur.setIfInBounds i u)[j]? =some v:=by rw[Array.getElem?_setIfInBounds_ne o];exact h
theorem Hi {cur:Array Value}{i:Nat}{u v:Value}(h:cur[i]? =some v):(cur.setIfInBounds i u)[i]? =some u:=by rw[Array.getElem?_setIfInBounds_self_of_lt (mV.1 h).1]
theorem rC {y:bz}{a f:Value}{r:Nat}{u:Value}(h:(yO y a f)[r]? =some u):r<9:=(lS.1 h).1
theorem Lp {y:bz}{a f j:Value}{r:Nat}{u:Value}(h:(yO y j f)[r]? =some u)(o:r≠5):(yO y a f)[r]? =some u:=by have:=rC h;rcases r with _|_|_|_|_|_|_|_|_|r<;>first|exact h|omega
theorem Lq {y:bz}{a f j:Value}{r:Nat}{u:Value}(h:(yO y a j)[r]? =some u)(o:r≠6):(yO y a f)[r]? =some u:=by have:=rC h;rcases r with _|_|_|_|_|_|_|_|_|r<;>first|exact h|omega
theorem ki.args {g lo j:Nat}{w:World}{l:List bz}{x:bz}{u:Value}(h:ki g lo j false w l)(hx:l[j]? =some x)(hu:aK (fun b=>lo≤b∧b≠g) w u x.args):ki g lo j true (w.setCell ⟨g,j*9+5,none⟩ u) l:=by
 obtain⟨cur,h1,h2⟩:=h;have J:aa (fun b=>b≠g) w (w.setCell ⟨g,j*9+5,none⟩ u):=(aa.refl _ w).setCell (p:=⟨g,j*9+5,none⟩) (.inl fun h=>h rfl) _;refine⟨_,h1.set _ _,fun k y R=>?_⟩;obtain⟨a,f,Y,e2,e3,e4⟩:=h2 k y R;by_cases C:k=j
 ·subst C;rw[hx] at R;cases R;refine⟨u,f,fun r v I=>?_,ah.wide (fun b o=>⟨fun _=>o.1,o.2⟩) (ah.keep (J.mono fun b o=>o.2) hu),ah.keep (J.mono fun b o=>o.2) e3,e4⟩;by_cases hr:r=5
  ·subst hr
   cases I;exact Hi (Y 5 a rfl)
  exact rE (Y r v (Lp I hr)) (by omega)
 refine⟨a,f,fun r v I=>?_,ah.wide (fun b o=>⟨fun h=>o.1 (h.elim .inl fun h=>absurd h.1 C),o.2⟩) (ah.keep (J.mono fun b o=>o.2) e2),ah.keep (J.mono fun b o=>o.2) e3,e4⟩;have:=rC I;exact rE (Y r v I) (by omega)
theorem ki.Nh {g lo j:Nat}{w:World}{l:List bz}{x:bz}{u:Value}(h:ki g lo j true w l)(hx:l[j]? =some x)(hu:aK (fun b=>lo≤b∧b≠g) w u x.Nh):ki g lo (j+1) false (w.setCell ⟨g,j*9+6,none⟩ u) l:=by
 obtain⟨cur,h1,h2⟩:=h;have I:aa (fun b=>b≠g) w (w.setCell ⟨g,j*9+6,none⟩ u):=(aa.refl _ w).setCell (p:=⟨g,j*9+6,none⟩) (.inl fun h=>h rfl) _;refine⟨_,h1.set _ _,fun k y J=>?_⟩;obtain⟨a,f,R,e2,e3,e4⟩:=h2 k y J;by_cases Y:k=j
 ·subst Y;rw[hx] at J;cases J;refine⟨a,u,fun r v C=>?_,ah.wide (fun b o=>⟨fun _=>o.1 (.inr ⟨rfl,rfl⟩),o.2⟩) (ah.keep (I.mono fun b o=>o.2) e2),ah.wide (fun b o=>⟨fun _=>o.1,o.2⟩) (ah.keep (I.mono fun b o=>o.2) hu),e4⟩;by_cases hr:r=6
  ·subst hr
   cases C;exact Hi (R 6 f rfl)
  exact rE (R r v (Lq C hr)) (by omega)
 refine⟨a,f,fun r v C=>?_,ah.wide (fun b o=>⟨fun h=>o.1 (h.elim (fun h=>.inl (by omega)) fun h=>by cases h.2),o.2⟩) (ah.keep (I.mono fun b o=>o.2) e2),ah.wide (fun b o=>⟨fun h=>o.1 (by omega),o.2⟩) (ah.keep (I.mono fun b o=>o.2) e3),e4⟩;have:=rC C;exact rE (R r v C) (by omega)
theorem ki.done {g lo c:Nat}{w:World}{l:List bz}(h:ki g lo l.length false w l)(J:lo≤g)(R:l.length≤c)(hm:c≤maxLen)(j:l.length*96≤140737488355328):tZ (fun b=>lo≤b∧b<w.heap.size) w (.slice (some ⟨g,0,none⟩) l.length c) l:=by obtain⟨cur,o,Y⟩:=h;refine⟨_,_,rfl,R,hm,j,fun k y C=>?_⟩;obtain⟨a,f,e1,e2,e3,e4⟩:=Y k y C;have I:=(lS.1 C).1;refine⟨g,0,yO y a f,rfl,⟨J,o.lt⟩,rfl,fun r u hu=>?_,a,f,rfl,vr (ah.wide (fun b j=>j.1 (.inl I)) e2),vr (ah.wide (fun b j=>j.1 I) e3),e4⟩;rw[o.cell,cN];exact e1 r u hu
theorem tV {P:Program}(w:World){ops:Array Oper}{rest:List Oper}{o:Oper}{a:Act}{Q:Exit→Act→World→Prop}(b2:o.guard=none)(s x:Operand)(t:TypeId)
 (ho:o.op=.call {callee:=.builtin .append,args:=#[s,x],argTypes:=#[t,t]})
 (i:TypeInfo) (z:Value) (ht:P.underlying t=some (.slice 40)) (hi:P.info? 40=some i) (hz:i.zero=some z)
 (I:i.size=9) (b3:i.bytes=96) (b4:z.cells.size=9)
 (j lo:Nat) (hs:a.eval s=.slice (some ⟨j,0,none⟩) 0 0) (hg:al w j 40 #[]) {S:Nat→Prop} {A:Option Addr} {m c:Nat} {l:List bz} (hx:a.eval x=.slice A m c) (b5:tZ S w (.slice A m c) l) (hS:∀b,S b→b<j)
 (h:∀A' c' J g,j≤g→(0<l.length→A'=some ⟨g,0,none⟩∧ki g lo 0 false J l)→l.length≤c'→c'≤maxLen→w.grownBy J (some j)→wpList P ops Q rest (a.put o.dst (.slice A' l.length c')) J):wpList P ops Q (o::rest) a w:=by
 obtain⟨hm,c4,b6,C,h1,h2,h3,h4⟩:=xn b5;have b7:C.flatten.length=m*9:=by
  have:∀L:List (List Value),(∀c∈L,c.length=9)→L.flatten.length=L.length*9:=by(
 intro L;induction L with
 |nil=>intro _;simp
 |cons c L ih=>intro hL;rw[List.flatten_cons,iQ,kI,Nat.succ_mul,ih fun d hd=>hL d (List.mem_cons_of_mem _ hd),hL c (List.mem_cons_self ..)];omega)
  rw[this C h2,h1,hm]
 have b8:∀u∈C.flatten,u.oneCell'=true:=by intro u hu;obtain⟨cs,R,hu⟩:=List.mem_flatten.1 hu;obtain⟨k,hk⟩:=cY.1 R;have c5:=(lS.1 hk).1;obtain⟨c6,a1,a',f',e1,e2,e3,e4⟩:=h3 k _ (lG (by omega));rw[hk] at a1;cases a1;obtain⟨_,_,rfl,_⟩:=e2;obtain⟨_,_,rfl,_⟩:=e3;subst e1;simp only[fX,List.not_mem_nil,or_false] at hu;rcases hu with rfl|rfl|rfl|rfl|rfl|rfl|rfl|rfl|rfl<;>rfl
 have a6:w.ownsRow j 40 9 (.slice (some ⟨j,0,none⟩) 0 0) 0 []:=⟨by simp,.inr ⟨j,0,#[],rfl,cf _,hg,cf _,Nat.zero_le _,by simp,by simp⟩⟩;have a7:=hg.lt;refine aR w b2 s x t ho j 40 i z 9 96 ht hi hz I b3 b4 (by decide) _ 0 [] hs a6 A m c C.flatten hx b7 h4 b8 (by omega) (by rw[cN,hm];exact b6) (by omega) fun v' J a8 Y b9=>?_;rw[cN,mF,hm] at a8;obtain⟨c3,hv⟩:=a8;rcases hv with ⟨rfl,h0⟩|⟨g,cap,cur,rfl,c0,hh,hc,b0,c7,c1⟩
 ·have c2:l.length=0:=h0
  have:=h none 0 J j (cf _) (fun h=>by omega) (by omega) (by unfold maxLen;omega) Y;rw[c2] at this;exact this
 have c8:g=j∨g=w.heap.size:=by
  rcases b9 with e|e;·left;injection e
  right;injection e
 have b1:aa S w J:=(aa.refl _ w).grown Y fun b hb=>.inl fun h=>absurd (hS b h) (by have e:j=b:=kJ hb;omega);refine h (some ⟨g,0,none⟩) cap J g c0 (fun _=>⟨rfl,cur,hh,fun k y hy=>?_⟩) hc b0 Y;obtain⟨cs,R,a',f',e1,e2,e3,e4⟩:=h3 k y hy;subst e1;refine⟨a',f',fun r u hu=>?_,ah.wide (fun b hb=>⟨fun h=>absurd h (by simp),by have:=hS b hb;omega⟩) (ah.keep b1 e2),ah.wide (fun b hb=>⟨fun h=>by omega,by have:=hS b hb;omega⟩) (ah.keep b1 e3),e4⟩;have hf:=wN C h2 k _ R r u hu;rw[←Array.getElem?_toList];rw[←c1] at hf;have a7:k*9+r<l.length*9:=by have:=(lS.1 hf).1;rw[fN] at this;omega
 rw[rY a7] at hf;exact hf
theorem Dg:(prog.info? 99).map (fun i=>(i.zero,i.size,i.bytes))=some (some (.agg #[.int .i64 0,.int .i64 0]),2,16):=by kernel_rfl
def zF (c:aE)(w:World)(e:Ending)(j:World):Prop:=∃u,e=.returned u∧aa All w j∧cQ (fun b=>w.heap.size≤b∧b<j.heap.size) j u c
theorem ux {α:Type}{n bw:Nat}{E:cO α}{P:Program}(w:World){ops:Array Oper}{rest:List Oper}{o:Oper}{a:Act}{Q:Exit→Act→World→Prop}(g:zG E)(a6:o.guard=none)(s x:Operand)(t:TypeId)
 (ho:o.op=.call {callee:=.builtin .append,args:=#[s,x],argTypes:=#[t,t]})
 (e:TypeId) (i:TypeInfo) (z:Value) (ht:P.underlying t=some (.slice e)) (hi:P.info? e=some i) (hz:i.zero=some z)
 (C:i.size=n) (a7:i.bytes=bw) (a8:z.cells.size=n) (b0:0<n)
 (B:Nat) (hs:a.eval s=.slice none 0 0) (hB:B≤w.heap.size) {S:Nat→Prop} {A:Option Addr} {m c:Nat} {l:List α} (hx:a.eval x=.slice A m c) (b1:rx n bw E S w (.slice A m c) l)
 (h:∀A' c' J,rx n bw E (fun b=>B≤b∧b<J.heap.size) J (.slice A' l.length c') l→w.grownBy J none→wpList P ops Q rest (a.put o.dst (.slice A' l.length c')) J):wpList P ops Q (o::rest) a w:=by
 obtain⟨hm,b6,R,j,h1,h2,h3,h4⟩:=xn b1;have b2:j.flatten.length=m*n:=by
  have:∀L:List (List Value),(∀c∈L,c.length=n)→L.flatten.length=L.length*n:=by(
 intro L;induction L with
 |nil=>intro _;simp
 |cons c L ih=>intro hL;rw[List.flatten_cons,iQ,kI,Nat.succ_mul,ih fun d hd=>hL d (List.mem_cons_of_mem _ hd),hL c (List.mem_cons_self ..)];omega)
  rw[this j h2,h1,hm]
 have b3:∀u∈j.flatten,u.oneCell'=true:=by intro u hu;obtain⟨cs,b4,hu⟩:=List.mem_flatten.1 hu;obtain⟨k,hk⟩:=cY.1 b4;have b7:=(lS.1 hk).1;obtain⟨b8,Y,hE⟩:=h3 k _ (lG (by omega));rw[hk] at Y;cases Y;exact g.one hE u hu
 have a1:w.ownsRow B e n (.slice none 0 0) 0 []:=⟨by simp,.inl ⟨rfl,rfl⟩⟩;refine aR w a6 s x t ho B e i z n bw ht hi hz C a7 a8 b0 _ 0 [] hs a1 A m c j.flatten hx b2 h4 b3 (by omega) (by rw[cN,hm];exact R) hB fun v' J I b5 _=>?_;rw[cN,mF,hm] at I;obtain⟨A',c',rfl⟩:=aU I;refine h A' c' J (dR.read (E:=E) (B:=B) (e:=e) ?_ ?_ R) b5;·exact⟨fun _ hh=>g.any hh,fun _ hh=>g.any hh⟩
 exact⟨j,fun _=>False,I,h1,h2,fun _ hh=>hh.elim,fun k y hy=>by obtain⟨cs,hc,hE⟩:=h3 k y hy;exact⟨cs,hc,g.any hE⟩⟩
theorem wD (S:Nat→Prop)(cv:Value)(c:aE)(w:World)(hc:cQ S w cv c)(hS:∀b,S b→b<w.heap.size)(hf:MH c):
 Calls prog 8 #[cv] w (zF c w):=by
 obtain⟨iI,II⟩:=iH kt;obtain⟨iC,IC⟩:=iH Dg;obtain⟨iO,h8⟩:=iH FT;obtain⟨iR,IR⟩:=iH BZ;obtain⟨iB,IB⟩:=iH yx;have hc:=dc.wide hS hc;obtain⟨ka,kf,rfl,l8,l9,m9⟩:=hc;have e2:=bu.la l8;have n0:=bV.la l9;obtain⟨A1,c1,rfl,m1,m2,m3,_⟩:=l8;obtain⟨A2,c2,rfl,m4,m5,m6,_⟩:=l9;unfold maxLen at m2 m5;have q8:=hf.1;have HS:=J4 e2 n0 m9 hf;clear e2 n0 m9 hf hS;obtain⟨W0,b8⟩:=eQ ((w.alloc (.cells #[.slice A1 c.Nd.length c1,.slice A2 c.Nf.length c2,.int .i64 c.main] 30)).alloc (.cells #[.slice none 0 0,.slice none 0 0,.int .i64 0] 30));have s3:w.heap.size+2≤W0.heap.size:=by rw[b8];simp
 have q9:W0.heap.size≤w.heap.size+2:=by rw[b8];simp
 have n1:=aC2 b8;have bK:=aA1 b8;have bZ:=aB0 b8 aE1;obtain⟨k0,k1,k2⟩:=bK.c3;have HW:=J4 b8 n1 bK bZ;clear b8 n1 bK bZ;go_enter func8,ntmps8;go_upto_region 1 with fail;rw[←HW.1];obtain⟨q3,e3⟩:=eQ W0.heap.size;obtain⟨W1,h9⟩:=eQ (W0.alloc (.cells #[.slice none 0 0,.slice none 0 0,.int .i64 c.main] 30));have n2:=aC1 h9;have b1:al W1 q3 30 #[.slice none 0 0,.slice none 0 0,.int .i64 c.main]:=by rw[h9,e3];exact al.new _ _ _
 have s4:q3<W1.heap.size:=b1.lt;have s5:W0.heap.size≤q3:=eE e3.symm;have s8:q3≤W0.heap.size:=eE e3;have H1:=J4 h9 n2 b1 e3;clear h9 n2 b1 e3;go_upto_region 2 with fail;rw[←H1.1,←H1.2.2.2];have bK:=H1.2.1;clear k0 k1 k2;have e4:=HW.2.2.1.kept H1.2.1 trivial;obtain⟨k0,k1,k2⟩:=e4.c3;clear e4 bK;have b9:=H1.2.2.1;obtain⟨o0,o1,o2⟩:=b9.c3;clear b9
 go_upto_region 3 with (at_builtin
                        go_loud (
                        refine ux (E:=rI) W1 FF rfl (.tmp 14) (.tmp 16) 27 rfl 99 iC _ underlying27 IC.1 IC.2.1 IC.2.2.1 IC.2.2.2 rfl (by decide) W1.heap.size rfl (cf _) rfl (HS.1 W1 (HW.2.1.trans H1.2.1)) ?_;intro CA ca v0 e2 n3;have b3:aa All W1 v0:=kR.grown n3 fun b R=>by cases R
                        have bb:=H1.2.2.1.kept b3 trivial;have f0:=bb.free 0;have y0:=bb.cl 0;have HV:=J3 e2 b3 bb;clear e2 n3 b3 bb))
 have k7:=HV.2.2.set 0 (.slice CA c.Nd.length ca);have o:=(aa.refl (fun b=>b≠q3) v0).setCell (p:=⟨q3,0,none⟩) (.inl fun h=>h rfl) (.slice CA c.Nd.length ca);simp only[ga] at k7;have HT:=J2 k7 o;clear k7 o k0 k1 k2 o0 o1 o2 y0 f0;generalize v0.setCell _ _=W2 at*;have e7:aa (fun b=>b≠q3) W1 W2:=HV.2.1.all.trans HT.2;have i1:aa All w W2:=am ((HW.2.1.trans H1.2.1).all.trans (e7.mono fun b (R:b<w.heap.size)=>by show b≠_;omega));have b4:ev (fun b=>W1.heap.size≤b∧b<W2.heap.size) W2 (.slice CA c.Nd.length ca) c.Nd:=bT.Good.wide bu (fun b (R:W1.heap.size≤b∧b<v0.heap.size)=>show W1.heap.size≤b∧b<W2.heap.size by have:=HT.2.size;omega) (bT.Good.keep bu (HT.2.mono fun b (R:W1.heap.size≤b∧b<v0.heap.size)=>by show b≠_;omega) HV.1);have n4:=(HW.2.2.2.kept H1.2.1 trivial).kept e7 (by show _≠_;omega);have n5:=(HW.2.2.1.kept H1.2.1 trivial).kept e7 (by show _≠_;omega);have v7:W1.heap.size≤W2.heap.size:=e7.size;have H2:=J5 i1 HT.1 b4 n4 n5;clear e7 i1 b4 n4 n5 HT HV;go_wp2_with fail;go_loopg [4] c.Nf.length (fun gg s wr=>∃(i:Nat) (v:Value),i≤c.Nf.length∧gg=c.Nf.length-i∧s=.int .i64 i∧aa (fun b=>b≠q3) W2 wr∧al wr q3 30 #[.slice CA c.Nd.length ca,v,.int .i64 c.main]∧dR 3 35 qO W2.heap.size wr v (c.Nf.take i));·exact⟨0,_,by omega,by omega,rfl,kR,H2.2.1,by rw[List.take_zero];exact dR.nil⟩
 obtain⟨i,v,hi,rfl,rfl,I,b9,C⟩:=hrel;have w0:W2.heap.size≤wr.heap.size:=I.size;have e8:aa All w wr:=am (H2.1.all.trans (I.mono fun b (R:b<w.heap.size)=>by show b≠_;omega));have e4:=H2.2.2.2.2.kept I (by show _≠_;omega);obtain⟨k0,k1,k2⟩:=e4.c3;clear e4;by_cases r0:i<c.Nf.length;·(
 obtain⟨b,R⟩:=eG r0;have k8:=HS.2.2.2.2.2 b (mG R);obtain⟨gb,go,w5,rfl,_,_,i6,bv,rfl,n7,n8,n9⟩:=aZ (HS.2.1 wr e8) R;have k3:=bg.la n7;obtain⟨B1,d1,rfl,q1,q2,q4,_⟩:=n7;unfold maxLen at q2;have z0:=i6 0 _ rfl;rw[dj] at z0;have z1:=i6 1 _ rfl;have z2:=i6 2 _ rfl;obtain⟨W5,i7⟩:=eQ (wr.alloc (.cells #[.int .i64 b.params,.int .i64 b.vars,.slice B1 b.Ng.length d1] 35));have o3:=aC1 i7;have b5:=aA0 i7;have w1:=b5.lt;have r3:=k8.1;have HB:=J12 R k3 i7 o3 b5 I e8 b9 C n8 n9 k8.2;clear R k3 i7 o3 b5 I e8 b9 C n8 n9 i6 k8;obtain⟨wo,rfl⟩:=eQ wr;go_upto_region 7 with fail;rw[←HB.2.2.1];clear z0 z1 z2 k0 k1 k2;go_wp2_with fail;go_loopg [6,7] b.Ng.length (fun gg s6 s7 wn=>∃k:Nat,k≤b.Ng.length∧gg=b.Ng.length-k∧s7=.int .i64 k∧aa All W5 wn∧dR 1 36 (eT tZ) W5.heap.size wn s6 (b.Ng.take k));·exact⟨0,by omega,by omega,rfl,kR,by rw[List.take_zero];exact dR.nil⟩
 obtain⟨k,hk,rfl,rfl,I,C⟩:=hrel;have w2:W5.heap.size≤wr.heap.size:=I.size;have d7:=HB.2.2.2.2.1.kept I trivial;obtain⟨b0,b1,b2⟩:=d7.c3;by_cases o4:k<b.Ng.length;·(
 obtain⟨l,hl⟩:=eG o4;obtain⟨rb,ro,rv,rfl,_,o5,k9⟩:=bn (HB.2.1 wr (HB.2.2.2.1.trans I)) hl;have r4:=HB.2.2.2.2.2.2.2.2.2.2.2 l (mG hl);have o6:w.heap.size≤wr.heap.size:=by omega
 obtain⟨LA,lc,rfl,l1,l2,l3,_⟩:=id k9;unfold maxLen at l2;obtain⟨X,hX⟩:=eQ (wr.alloc (.cells #[] 40));have Y:=aC1 hX;have bX:=aA0 hX;have o7:=d7.alloc (.cells #[] 40);obtain⟨d0,d1,d2⟩:=o7.c3;have o8:=((aa.refl All wr).alloc (.cells #[] 40)).cell trivial o5;have HX:=J4 hX Y bX (cT.keep Y.all k9);have HL:=J3 hl I C;clear hX Y bX hl I C d7 o7 o5 k9;obtain⟨w6,rfl⟩:=eQ wr
 go_upto_region 12 with (at_builtin
                         go_loud (rw[←HX.1];refine tV X rfl (.tmp 38) (.tmp 43) 36 rfl iO _ underlying36 h8.1 h8.2.1 h8.2.2.1 h8.2.2.2 rfl w6.heap.size w6.heap.size rfl HX.2.2.1 rfl HX.2.2.2 (fun b R=>Nat.lt_of_lt_of_le R o6) ?_;intro A8 c8 v8 g8 r5 o9 p3 k4 k5;have p4:aa All w6 v8:=HX.2.1.grown k5 fun q hq=>.inr (eE (kJ hq));have HV:=J3 p4 o9 k4;clear p4 o9 k5 k4))
 clear b0 b1 b2 d0 d1 d2 o8;go_wp2_with fail;go_loopg [9] l.length (fun gg s9 wn=>∃j:Nat,j≤l.length∧gg=l.length-j∧s9=.int .i64 j∧aa (fun q=>q≠g8) v8 wn∧(0<l.length→ki g8 w6.heap.size j false wn l));·exact⟨0,by omega,by omega,rfl,kR,fun h=>(HV.2.1 h).2⟩
 obtain⟨j,hj,rfl,rfl,I,a1⟩:=hrel;have p5:=HV.1.size;have w3:=I.size;by_cases p6:j<l.length;·(
 obtain⟨x,hx⟩:=eG p6;obtain⟨rfl,r6⟩:=HV.2.1 (by omega);have a1:=a1 (by omega);have r7:g8<wr.heap.size:=by obtain⟨_,h,_⟩:=a1;exact h.lt
 have d8:=oH hx;have j0:=J2 I a1;clear I a1 r6 hx;obtain⟨a5,f5,xc,l0,d9,e0⟩:=j0.2.get d8.out;obtain⟨ua,uc,rfl,_⟩:=id d9;obtain⟨va,vc,rfl,_⟩:=id e0;obtain⟨X5,j1⟩:∃X,X=wr.alloc (.cells #[] 3):=⟨_,rfl⟩;have Y:=aC1 j1;have bX:=aA0 j1;have e9:=rB (ah.keep Y.all d9);have xq:=((aa.refl All wr).alloc (.cells #[] 3)).cell (p:=⟨g8,j*9+5,none⟩) trivial (xc 5 _ rfl);have h2:=j0.2.keep Y (fun _ _=>trivial);have j2:=J5 j1 Y bX e9 h2;clear j1 Y bX e9 h2 xc l0 d9 e0
 go_upto_region 16 with (at_builtin
                         go_loud (rw[←j2.1];refine gx (E:=eT rQ) X5 BR rfl (.tmp 53) (.tmp 58) 38 rfl 3 iI _ underlying38 II.1 II.2.1 II.2.2.1 II.2.2.2 rfl (by decide) wr.heap.size wr.heap.size rfl j2.2.2.1 (cf _) rfl j2.2.2.2.1 ?_;intro C5 e5 v5 p7 p8;have b3:aa (fun b=>b<wr.heap.size) X5 v5:=kR.grown p8 fun b R=>.inl fun h=>absurd (kJ R) (by omega);have c3:aa All wr v5:=am (j2.2.1.all.trans b3);have c4:=j0.2.keep c3 (fun _ _=>trivial);obtain⟨a',f',h3,b6,_,_⟩:=c4.get d8.out;have y5:=h3 5 _ rfl;have r8:=b6 5;have j3:=J3 c3 c4 (jT p7);clear p7 p8 b3 c3 c4 h3 b6))
 have o:=(aa.refl (fun b=>b≠g8) v5).setCell (p:=⟨g8,j*9+5,none⟩) (.inl fun h=>h rfl) (.slice C5 x.args.length e5);have p9:=j3.2.1.args (u:=.slice C5 x.args.length e5) d8.out (ah.wide (fun b R=>⟨by omega,by omega⟩) j3.2.2);have j4:=J2 o p9;have r9:=j3.1.size;have q7:=o.size;clear o p9 xq y5 r8;generalize v5.setCell _ _=W6 at*;obtain⟨a6,f6,xc,l0,d9,e0⟩:=j4.2.get d8.out;obtain⟨ua,uc,rfl,_⟩:=id d9;obtain⟨va,vc,rfl,_⟩:=id e0;obtain⟨X6,j5⟩:∃X,X=W6.alloc (.cells #[] 3):=⟨_,rfl⟩;have Y:=aC1 j5;have bX:=aA0 j5;have e9:=rB (ah.keep Y.all e0);have xq:=((aa.refl All W6).alloc (.cells #[] 3)).cell (p:=⟨g8,j*9+6,none⟩) trivial (xc 6 _ rfl);have h2:=j4.2.keep Y (fun _ _=>trivial);have j6:=J5 j5 Y bX e9 h2;clear j5 Y bX e9 h2 xc l0 d9 e0;go_wp2_with (at_builtin;go_loud (rw[←j6.1];refine gx (E:=eT rQ) X6 BR rfl (.tmp 64) (.tmp 69) 38 rfl 3 iI _ underlying38 II.1 II.2.1 II.2.2.1 II.2.2.2 rfl (by decide) W6.heap.size W6.heap.size rfl j6.2.2.1 (cf _) rfl j6.2.2.2.1 ?_;intro C6 e6 v6 q0 q5;have b3:aa (fun b=>b<W6.heap.size) X6 v6:=kR.grown q5 fun b R=>.inl fun h=>absurd (kJ R) (by omega);have c3:aa All W6 v6:=am (j6.2.1.all.trans b3);have c4:=j4.2.keep c3 (fun _ _=>trivial);obtain⟨a',f',h3,b6,_,_⟩:=c4.get d8.out;have y6:=h3 6 _ rfl;have w7:=b6 6;have l4:=J3 c3 c4 (jT q0);clear q0 q5 b3 c3 c4 h3 b6));go_roundg (l.length-(j+1))
 ·have h1:=j0.1.trans (j3.1.all.trans j4.1)
  have o:=(aa.refl (fun b=>b≠g8) v6).setCell (p:=⟨g8,j*9+6,none⟩) (.inl fun h=>h rfl) (.slice C6 x.Nh.length e6);exact⟨j+1,by omega,rfl,by go_num,h1.trans (l4.1.all.trans o),fun _=>l4.2.1.Nh (u:=.slice C6 x.Nh.length e6) d8.out (ah.wide (fun b R=>⟨by omega,by omega⟩) l4.2.2)⟩
 omega)
 obtain rfl:j=l.length:=by omega
 have k6:tZ (fun b=>w6.heap.size≤b∧b<wr.heap.size) wr (.slice A8 l.length c8) l:=by
  by_cases h0:0<l.length
  ·obtain⟨rfl,_⟩:=HV.2.1 h0
   exact(a1 h0).done r5 p3 HV.2.2 l3
  exact⟨_,_,rfl,p3,HV.2.2,l3,fun i x hx=>by have:=(lS.1 hx).1;omega⟩
 have l5:aa All w6 wr:=am (HV.1.all.trans (I.mono fun b (R:b<w6.heap.size)=>by show b≠_;omega));obtain⟨A6,c6,rfl⟩:=HL.2.2.form;rw[fN,Nat.min_eq_left hk];have C:=HL.2.2;rw[fN,Nat.min_eq_left hk] at C;have h4:=C.keep (aS cT) (l5.alloc (.cells #[.slice A8 l.length c8] 36)) (fun _ _ _=>trivial);have HM:=J3 l5 C k6;clear I a1 k6 l5 C;go_wp2_with (
  at_builtin;refine bN (E:=eT tZ) _ (aS cT) rfl (.tmp 73) (.tmp 75) 33 rfl iR _ 24 underlying33 IR.1 IR.2.1 IR.2.2.1 IR.2.2.2 rfl (by decide) _ _ rfl h4 wr.heap.size 0 1 rfl [.slice A8 l.length c8] l rfl ?_ ?_ (by rw[fN];omega) (by omega) (by simp;omega) (fun b=>w6.heap.size≤b∧b<wr.heap.size) ?_ ?_ ?_
  ·intro j u hu
   rw[cN,al.cell (al.new _ _ _)];simpa using hu
  ·intro u hu
   rw[cx.1 hu];rfl
  ·intro b R;obtain⟨xs,ho⟩:=HM.2.1.own;refine⟨by omega,by have:=R.2;simp;omega,fun e=>?_⟩;have:=(aD ho e).2;omega
  ·exact⟨_,rfl,cT.keep (kR.alloc _) HM.2.2⟩
  intro A9 c9 v9 J b7 a7;have c5:aa All W5 v9:=((HL.2.1.trans HM.1).alloc _).grown b7 fun b R=>.inr (a7 b R);rw[fN,Nat.min_eq_left hk] at J;have H9:=J2 c5 J;clear c5 J b7 a7 h4)
 go_roundg (b.Ng.length-(k+1));·exact⟨k+1,by omega,rfl,by go_num,H9.1,by rw[show b.Ng.take (k+1)=b.Ng.take k++[l] by rw[cU,HL.1];rfl];exact H9.2⟩
 omega)
 obtain rfl:k=b.Ng.length:=by omega
 rw[dZ] at C;obtain⟨A6,c6,rfl⟩:=C.form;have f5:=d7.free 2;have h5:=d7.set 2 (.slice A6 b.Ng.length c6);have o:=(aa.refl (fun q=>q≠wo.heap.size) wr).setCell (p:=⟨wo.heap.size,2,none⟩) (.inl fun h=>h rfl) (.slice A6 b.Ng.length c6);simp only[ga] at h5;obtain⟨W8,l6⟩:=eQ (wr.setCell ⟨wo.heap.size,2,none⟩ (.slice A6 b.Ng.length c6));rw[←l6] at h5 o;have p5:wr.heap.size≤W8.heap.size:=o.size;have h6:=C.keep (aS cT) o (fun q h1 _=>by show q≠_;omega);have j7:aa All wo W8:=am ((HB.2.2.2.1.trans I).all.trans (o.mono fun q (hq:q<wo.heap.size)=>by show q≠_;omega));have j8:=HB.2.2.2.2.2.2.2.1.kept j7 trivial;obtain⟨Av,e1,rfl⟩:=HB.2.2.2.2.2.2.2.2.1.form;rw[fN,Nat.min_eq_left hi] at j8;obtain⟨p0,p1,p2⟩:=j8.c3;obtain⟨d0,d1,d2⟩:=h5.c3;have c7:=HB.2.2.2.2.2.2.2.2.1.keep gI (j7.alloc (.cells #[.int .i64 b.params,.int .i64 b.vars,.slice A6 b.Ng.length c6] 35)) (fun _ _ _=>trivial);have a8:bW (fun q=>W5.heap.size≤q∧q<W8.heap.size) W8 (.slice A6 b.Ng.length c6) b.Ng:=jT (h6.read (aS cT) (by omega));rw[fN,Nat.min_eq_left hi] at c7;have h7:∀q,(Value.slice Av i e1).ownBlock=some q→q<wo.heap.size:=by intro q e;obtain⟨xs,ho⟩:=HB.2.2.2.2.2.2.2.2.1.own;rw[fN,Nat.min_eq_left hi] at ho;exact(aD ho e).2
 have HM:=J6 l6 j7 h5 j8 h7 a8;clear l6 j7 h5 j8 h7 a8 h6 o I C d7;go_upto_region 19 with fail;rw[←HM.1];clear b0 b1 b2 f5;go_wp2_with (
  at_builtin;go_loud (
  refine bN (E:=qO) _ gI rfl (.tmp 80) (.tmp 82) 28 rfl iB _ 40 underlying28 IB.1 IB.2.1 IB.2.2.1 IB.2.2.2 rfl (by decide) _ _ rfl c7 W8.heap.size 0 1 rfl [.int .i64 b.params,.int .i64 b.vars,.slice A6 b.Ng.length c6] b rfl ?_ ?_ (by rw[fN];omega) (by omega) (by simp;omega) (fun q=>W5.heap.size≤q∧q<W8.heap.size) ?_ ?_ ?_
  ·intro j u hu
   rw[cN,al.cell (al.new _ _ _)];simpa using hu
  ·intro u hu;simp only[fX,List.not_mem_nil,or_false] at hu;rcases hu with rfl|rfl|rfl<;>rfl
  ·intro q hq;refine⟨by omega,by have:=hq.2;simp;omega,fun e=>?_⟩;have:=HM.2.2.2.2.1 q e;omega
  ·exact⟨_,rfl,bg.keep (kR.alloc _) HM.2.2.2.2.2,HB.2.2.2.2.2.2.2.2.2.1,HB.2.2.2.2.2.2.2.2.2.2.1⟩
  intro A9 c9 v9 J b7 a7;have c5:aa (fun q=>q<W2.heap.size) wo v9:=((HM.2.1.mono fun _ _=>trivial).alloc _).grown b7 fun q hq=>.inl fun h=>by have:=a7 q hq;omega
  have j9:=HB.2.2.2.2.2.2.2.1.kept c5 (by show _<_;omega);have y9:=j9.cl 1;have f9:=j9.free 1;rw[fN,Nat.min_eq_left hi] at J;have H9:=J3 c5 J j9;have w4:=c5.size;clear c5 J b7 a7 c7 j9))
 go_roundg (c.Nf.length-(i+1));·have o:=(aa.refl (fun b=>b≠q3) v9).setCell (p:=⟨q3,1,none⟩) (.inl fun h=>h rfl) (.slice A9 (i+1) c9);have q6:=H9.2.2.set 1 (.slice A9 (i+1) c9);simp only[ga] at q6;have i1:aa (fun b=>b≠q3) W2 v9:=⟨H9.1.os.trans HB.2.2.2.2.2.1.os,H9.1.output.trans HB.2.2.2.2.2.1.output,by omega,fun q hq s0=>(H9.1.block q (by omega) hq).trans (HB.2.2.2.2.2.1.block q hq s0)⟩;refine⟨i+1,.slice A9 (i+1) c9,by omega,rfl,by go_num,i1.trans o,q6,?_⟩;rw[show c.Nf.take (i+1)=c.Nf.take i++[b] by rw[cU,HB.1];rfl];exact H9.2.1.keep gI o (fun q h1 _=>by show q≠_;omega)
 omega)
 obtain rfl:i=c.Nf.length:=by omega
 rw[dZ] at C;obtain⟨Av,e1,rfl⟩:=C.form;have hz:=H2.2.2.2.1.kept I (by show _≠_;omega);obtain⟨p0,p1,p2⟩:=b9.c3;obtain⟨z0,z1,z2⟩:=hz.c3;have f0:=hz.free 0;have f1:=hz.free 1;have f2:=hz.free 2;have l7:=((hz.set 0 (.slice CA c.Nd.length ca)).set 1 (.slice Av c.Nf.length e1)).set 2 (.int .i64 c.main);have o:=(((aa.refl (fun b=>b≠w.heap.size+1) wr).setCell (p:=⟨w.heap.size+1,0,none⟩) (.inl fun h=>h rfl) (.slice CA c.Nd.length ca)).setCell (p:=⟨w.heap.size+1,1,none⟩) (.inl fun h=>h rfl) (.slice Av c.Nf.length e1)).setCell (p:=⟨w.heap.size+1,2,none⟩) (.inl fun h=>h rfl) (.int .i64 c.main);simp only[ga] at l7;obtain⟨c0,c1,c2⟩:=l7.c3;have a8:mL (fun q=>W2.heap.size≤q∧q<wr.heap.size) wr (.slice Av c.Nf.length e1) c.Nf:=C.read gI (by omega);have b4:=bT.Good.keep bu (I.mono fun b (R:W1.heap.size≤b∧b<W2.heap.size)=>by show b≠_;omega) H2.2.2.1;have HF:=J4 o a8 b4 e8;clear o a8 b4 e8 l7 hz C I b9;go_wp2_with fail;generalize ((wr.setCell _ _).setCell _ _).setCell _ _=WF at*;have w8:=HF.1.size;refine bodyPost_ret (v:=.agg #[.slice CA c.Nd.length ca,.slice Av c.Nf.length e1,.int .i64 c.main]) (by simp[results,Tryz.f8,go_sem,c0,c1,c2]) rfl ⟨_,rfl,am (HF.2.2.2.all.trans (HF.1.mono fun b (R:b<w.heap.size)=>by show b≠_;omega)),_,_,rfl,?_,?_,HS.2.2.1⟩;·exact bT.Good.wide bu (fun b (R:W1.heap.size≤b∧b<W2.heap.size)=>show w.heap.size≤b∧b<WF.heap.size by omega) (bT.Good.keep bu (HF.1.mono fun b (R:W1.heap.size≤b∧b<W2.heap.size)=>by show b≠_;omega) HF.2.2.1)
 exact bT.Good.wide bV (fun b (R:W2.heap.size≤b∧b<wr.heap.size)=>show w.heap.size≤b∧b<WF.heap.size by omega) (bT.Good.keep bV (HF.1.mono fun b (R:W2.heap.size≤b∧b<wr.heap.size)=>by show b≠_;omega) HF.2.1)

theorem kj.sz {p:aH}(h:kj p):xF p:=
 ⟨fun s o=>fR (h.MZ s o) (by decide),fun x j=>fR (h.Nb x j) (by decide),fun x j=>fR (h.Na x j) (by decide)⟩
def Ct (p:aH)(c:aE)(tp j:Tmp)(R:Value→World→Prop)(t:Tmp)(v:Value)(wn:World):Prop:=if t=tp then dJ (fun b=>b<wn.heap.size) wn v p else if t=j then cQ (fun b=>b<wn.heap.size) wn v c else R v wn
theorem Ct.keep {p:aH}{c:aE}{tp C:Tmp}{R:Value→World→Prop}(Y:∀ {v wn j},aa All wn j→R v wn→R v j){wn j:World}(o:aa All wn j)(t:Tmp){v:Value}(h:Ct p c tp C R t v wn):Ct p c tp C R t v j:=by
 have hs:=o.size;unfold Ct at h⊢;by_cases I:t=tp
 ·rw[ap I] at h⊢
  exact cB.wide (fun b (hb:b<wn.heap.size)=>show b<j.heap.size by omega) (cB.keep o.all h)
 rw[ae I] at h⊢;by_cases J:t=C
 ·rw[ap J] at h⊢
  exact dc.wide (fun b (hb:b<wn.heap.size)=>show b<j.heap.size by omega) (dc.keep o.all h)
 rw[ae J] at h⊢;exact Y o h
def In (w:World)(e:Ending)(j:World):Prop:=e=.returned (.bool true)∧aa All w j
theorem qac {p:aH}{c:aE}{x y z:Int}(h:oK p c=(x,y,z)):pB (bJ p c∧jH c)=(z==0):=by
 by_cases j:bJ p c
 ·rw[nc j] at h;have I:(ov c.Nf 0).2.2=z:=by rw[h]
  have C:=zS (l:=c.Nf) (i:=0);rw[I] at C;by_cases o:z=0;·rw[av ⟨j,C.1 o⟩,o];rfl
  rw[au fun h'=>o (C.2 h'.2)];symm;rw[bE];exact o
 rw[wy j] at h;cases h;rw[au fun h=>j h.1];rfl
theorem qaa {P:Program}{f:FuncId}{args:Array Value}{p:aH}{c:aE}{x y z:Int}{w:World}(h:oK p c=(x,y,z))(o:Calls P f args w (nH p c w)):Calls P f args w fun e j=>e=.returned (.tuple #[.int .i64 x,.int .i64 y,.int .i64 z])∧aa All w j:=by refine o.mono fun e j h'=>?_;unfold nH at h';rw[h] at h';exact h'
theorem ZY {P:Program}{f:FuncId}{args:Array Value}{q:Prop}{B:Bool}{w:World}(h:pB q=B)(o:Calls P f args w fun e j=>e=.returned (.bool (pB q))∧aa All w j):Calls P f args w fun e j=>e=.returned (.bool B)∧aa All w j:=by subst h;exact o
theorem ZZ (S:Nat→Prop)(pv cv:Value)(p:aH)(c:aE)(w:World)(C:dJ S w pv p)(hc:cQ S w cv c)(hl:gz w)(hm:Ws w)(hS:∀b,S b→b<w.heap.size)(c5:kj p)(d7:lY c)(c9:rK c):
 Calls prog 4 #[pv,cv] w (In w):=by
 have hN:=Dr (p:=p) names c9;have d8:=cB.la C;have c6:=dc.la hc;obtain⟨h7,vu,vi,vo,rfl,e8,e9,h0,h1,h2⟩:=C;obtain⟨a1,n1,rfl,_⟩:=e8;obtain⟨a2,n2,rfl,_⟩:=e9;obtain⟨a3,n3,rfl,_⟩:=h0;obtain⟨a4,n4,rfl,_⟩:=h1;obtain⟨ka,kf,rfl,h3,e1,h4⟩:=hc;have e2:=bV.la e1;obtain⟨A1,c1,rfl,_⟩:=h3;obtain⟨A2,c2,rfl,m4,m5,m6,_⟩:=e1;unfold maxLen at m5;obtain⟨W0,b9⟩:=eQ ((w.alloc (.cells #[.slice a1 p.MZ.length n1,.slice a2 p.up.length n2,.slice a3 p.Nb.length n3,.slice a4 p.Na.length n4,.int .i64 p.Nc] 26)).alloc (.cells #[.slice A1 c.Nd.length c1,.slice A2 c.Nf.length c2,.int .i64 c.main] 30));have I:=aC2 b9;have bP:=aA1 b9;have bK:=aB0 b9 aE1;have d9:=oH (fun wn (o:aa All W0 wn)=>Hk S _ c wn (c6 wn (I.trans o)));have e3:=oH (fun wn (o:aa All W0 wn)=>uF wn (hl.keep (I.trans o)) (hm.keep (I.trans o)));have HF:=oH (show∀wn,aa All W0 wn→wn.cell? ⟨w.heap.size,0,none⟩=some (.slice a1 p.MZ.length n1)∧wn.cell? ⟨w.heap.size,1,none⟩=some (.slice a2 p.up.length n2)∧wn.cell? ⟨w.heap.size,2,none⟩=some (.slice a3 p.Nb.length n3)∧wn.cell? ⟨w.heap.size,3,none⟩=some (.slice a4 p.Na.length n4)∧wn.cell? ⟨w.heap.size,4,none⟩=some (.int .i64 p.Nc)∧wn.cell? ⟨w.heap.size+1,0,none⟩=some (.slice A1 c.Nd.length c1)∧wn.cell? ⟨w.heap.size+1,1,none⟩=some (.slice A2 c.Nf.length c2)∧wn.cell? ⟨w.heap.size+1,2,none⟩=some (.int .i64 c.main) from fun wn o=>⟨(bP.kept o trivial).cell 0,(bP.kept o trivial).cell 1,(bP.kept o trivial).cell 2,(bP.kept o trivial).cell 3,(bP.kept o trivial).cell 4,(bK.kept o trivial).cell 0,(bK.kept o trivial).cell 1,(bK.kept o trivial).cell 2⟩);have h8:=oH (fun wn (o:aa All W0 wn)=>e2 wn (I.trans o));have c7:=oH (fun wn (o:aa All W0 wn)=>yR S _ p wn (d8 wn (I.trans o)));have c8:=oH (fun(hf:MH c) wn (o:aa All W0 wn)=>wD S _ c wn (c6 wn (I.trans o)) (fun b Y=>by have:=hS b Y;have:=(I.trans o).size;omega) hf);have e4:=oH (fun wn (o:aa All W0 wn) u v (hu:dJ (fun b=>b<wn.heap.size) wn u p) (hv:cQ (fun b=>b<wn.heap.size) wn v c)=>Bg _ u v p c wn hu hv (hl.keep (I.trans o)) (fun b Y=>Y) c5 d7 hN);have e5:=oH (fun wn (o:aa All W0 wn) u v (hu:dJ (fun b=>b<wn.heap.size) wn u p) (hv:cQ (fun b=>b<wn.heap.size) wn v c)=>Bq _ u v p c wn hu hv (hl.keep (I.trans o)) (fun b Y=>Y) c5 d7 hN);have h5:=oH (fun wn (o:aa All W0 wn)=>AS S _ _ p c wn (d8 wn (I.trans o)) (c6 wn (I.trans o)) c5.sz);have HW:=J2 b9 I;clear b9 I bP bK d8 c6 e2 h2 h4 hl hm hS c5 d7 hN c9;go_enter func4,ntmps4;go_upto_region 1 with fail;rw[←HW.1];obtain⟨a7,a8,b0,b1,b2,b3,b4,b5⟩:=HF.out W0 kR;go_wp2_with fail;refine(d9.out W0 kR).mono ?_;rintro e w1 ⟨bf,rfl,c0,e6⟩;clear a7 a8 b0 b1 b2 b3 b4 b5;have a6:=oH e6;clear e6;cases bf
 case false=>clear c0;go_wp2_with fail;go_ret;exact⟨rfl,HW.2.trans a6.out⟩
 have b8:=oH (c0 rfl);clear c0;obtain⟨x,y,z,c3⟩:∃x y z,oK p c=(x,y,z):=⟨_,_,_,rfl⟩;obtain⟨B,hB⟩:∃B:Bool,B=((z:Int)==0):=⟨_,rfl⟩;have HB:=oH (show pB (bJ p c∧jH c)=B from by rw[hB];exact qac c3);have e0:=oH c3;have h9:=hB.symm;clear c3 hB;go_upto_region 3 with fail;refine R1 12 w1 [16,18] (Ct p c 16 18 (fun _ _=>True)) (fun i=>if i=1 then some (fun _=>True) else if i=3 then some (fun _=>True) else if i=4 then some (·=(.tuple #[.int .i64 x,.int .i64 y,.int .i64 z])) else none) ?_;refine O3 (fun wn o C=>by(obtain⟨a7,a8,b0,b1,b2,b3,b4,b5⟩:=HF.out wn (a6.out.trans o);go_simp;with_reducible rfl)) ?_;refine O6 (fun wn o C=>?_) (fun wn o C=>?_) ?_;·skip;go_simp;refine(c7.out wn (a6.out.trans o)).mono ?_;rintro e wq ⟨u,rfl,j,hu⟩;exact .inl ⟨rfl,_,rfl,trivial,o.trans j,fun t _ v h=>h.keep (fun _ h=>h) j t,fun d J _=>by cases J;exact cB.wide (fun b Y=>Y.2) hu⟩
 ·skip
  obtain⟨e,wq,_,⟨u,rfl,j,hu⟩,_⟩:=(c7.out wn (a6.out.trans o)) [];exact⟨u,wq,trivial,o.trans j,fun t _ v h=>h.keep (fun _ h=>h) j t,fun d J _=>by cases J;exact cB.wide (fun b Y=>Y.2) hu⟩
 rintro vp _;simp only[PS];refine O3 (fun wn o C=>by(obtain⟨a7,a8,b0,b1,b2,b3,b4,b5⟩:=HF.out wn (a6.out.trans o);go_simp;with_reducible rfl)) ?_;refine O6 (fun wn o C=>?_) (fun wn o C=>?_) ?_;·skip;go_simp;refine(c8.out b8.out wn (a6.out.trans o)).mono ?_;rintro e wq ⟨u,rfl,j,hu⟩;exact .inl ⟨rfl,_,rfl,trivial,o.trans j,fun t _ v h=>h.keep (fun _ h=>h) j t,fun d J _=>by cases J;exact dc.wide (fun b Y=>Y.2) hu⟩
 ·skip
  obtain⟨e,wq,_,⟨u,rfl,j,hu⟩,_⟩:=(c8.out b8.out wn (a6.out.trans o)) [];exact⟨u,wq,trivial,o.trans j,fun t _ v h=>h.keep (fun _ h=>h) j t,fun d J _=>by cases J;exact dc.wide (fun b Y=>Y.2) hu⟩
 rintro vc _;simp only[PS];refine Ey (V:=(·=(.tuple #[.int .i64 x,.int .i64 y,.int .i64 z]))) (by rfl) (by rfl) (by rfl) (fun wn o C=>?_) (fun wn o C=>?_) ?_;·have b6:=C 16 (by decide) (by decide) _ rfl;have b7:=C 18 (by decide) (by decide) _ rfl;go_simp;refine(qaa e0.out (e4.out wn (a6.out.trans o) _ _ b6 b7)).mono ?_;rintro e wq ⟨rfl,j⟩;exact .inl ⟨rfl,_,rfl,rfl,o.trans j,fun t _ v h=>h.keep (fun _ h=>h) j t,fun d J hT=>absurd hT (by cases J;decide)⟩
 ·have b6:=C 16 (by decide) (by decide) _ rfl
  have b7:=C 18 (by decide) (by decide) _ rfl;obtain⟨e,wq,_,⟨rfl,j⟩,_⟩:=(qaa e0.out (e4.out wn (a6.out.trans o) _ _ b6 b7)) [];exact⟨_,wq,rfl,o.trans j,fun t _ v h=>h.keep (fun _ h=>h) j t,fun d J hT=>absurd hT (by cases J;decide)⟩
 rintro v rfl;simp only[PS];iterate 7 refine O0 ?_
 refine aG fun wt c4 hF=>?_;simp only[dK];have HT:=oH (a6.out.trans c4);clear c4 hF;obtain⟨a7,a8,b0,b1,b2,b3,b4,b5⟩:=HF.out wt HT.out;go_upto_region 4 with fail;go_wp2_with fail;refine(qaa e0.out (h5.out wt HT.out)).mono ?_;rintro e w4 ⟨rfl,e7⟩;clear a7 a8 b0 b1 b2 b3 b4 b5;have R:=oH (HT.out.trans e7);clear e7;go_upto_region 5 with fail;refine R1 27 w4 [45,47] (Ct p c 45 47 (fun _ _=>True)) (fun i=>if i=15 then some (fun _=>True) else if i=17 then some (fun _=>True) else if i=18 then some (·=.bool B) else if i=24 then some (·=.bool true) else none) ?_;iterate 14 refine O0 ?_
 refine O3 (fun wn o C=>by(obtain⟨a7,a8,b0,b1,b2,b3,b4,b5⟩:=HF.out wn (R.out.trans o);go_simp;with_reducible rfl)) ?_;refine O6 (fun wn o C=>?_) (fun wn o C=>?_) ?_;·skip;go_simp;refine(c7.out wn (R.out.trans o)).mono ?_;rintro e wq ⟨u,rfl,j,hu⟩;exact .inl ⟨rfl,_,rfl,trivial,o.trans j,fun t _ v h=>h.keep (fun _ h=>h) j t,fun d J _=>by cases J;exact cB.wide (fun b Y=>Y.2) hu⟩
 ·skip
  obtain⟨e,wq,_,⟨u,rfl,j,hu⟩,_⟩:=(c7.out wn (R.out.trans o)) [];exact⟨u,wq,trivial,o.trans j,fun t _ v h=>h.keep (fun _ h=>h) j t,fun d J _=>by cases J;exact cB.wide (fun b Y=>Y.2) hu⟩
 rintro vp _;simp only[PS];refine O3 (fun wn o C=>by(obtain⟨a7,a8,b0,b1,b2,b3,b4,b5⟩:=HF.out wn (R.out.trans o);go_simp;with_reducible rfl)) ?_;refine O6 (fun wn o C=>?_) (fun wn o C=>?_) ?_;·skip;go_simp;refine(c8.out b8.out wn (R.out.trans o)).mono ?_;rintro e wq ⟨u,rfl,j,hu⟩;exact .inl ⟨rfl,_,rfl,trivial,o.trans j,fun t _ v h=>h.keep (fun _ h=>h) j t,fun d J _=>by cases J;exact dc.wide (fun b Y=>Y.2) hu⟩
 ·skip
  obtain⟨e,wq,_,⟨u,rfl,j,hu⟩,_⟩:=(c8.out b8.out wn (R.out.trans o)) [];exact⟨u,wq,trivial,o.trans j,fun t _ v h=>h.keep (fun _ h=>h) j t,fun d J _=>by cases J;exact dc.wide (fun b Y=>Y.2) hu⟩
 rintro vc _;simp only[PS];refine Ey (V:=(·=.bool B)) (by rfl) (by rfl) (by rfl) (fun wn o C=>?_) (fun wn o C=>?_) ?_;·have b6:=C 45 (by decide) (by decide) _ rfl;have b7:=C 47 (by decide) (by decide) _ rfl;go_simp;refine(ZY HB.out (e5.out wn (R.out.trans o) _ _ b6 b7)).mono ?_;rintro e wq ⟨rfl,j⟩;exact .inl ⟨rfl,_,rfl,rfl,o.trans j,fun t _ v h=>h.keep (fun _ h=>h) j t,fun d J hT=>absurd hT (by cases J;decide)⟩
 ·have b6:=C 45 (by decide) (by decide) _ rfl
  have b7:=C 47 (by decide) (by decide) _ rfl;obtain⟨e,wq,_,⟨rfl,j⟩,_⟩:=(ZY HB.out (e5.out wn (R.out.trans o) _ _ b6 b7)) [];exact⟨_,wq,rfl,o.trans j,fun t _ v h=>h.keep (fun _ h=>h) j t,fun d J hT=>absurd hT (by cases J;decide)⟩
 rintro v rfl;simp only[PS];iterate 5 refine O0 ?_
 refine Ey (V:=(·=.bool true)) (by rfl) (by rfl) (by rfl) (fun wn o C=>?_) (fun wn o C=>?_) ?_;·skip;go_simp;refine(e3.out wn (R.out.trans o)).mono ?_;rintro e wq ⟨rfl,j⟩;exact .inl ⟨rfl,_,rfl,rfl,o.trans j,fun t _ v h=>h.keep (fun _ h=>h) j t,fun d J hT=>absurd hT (by cases J;decide)⟩
 ·skip
  obtain⟨e,wq,_,⟨rfl,j⟩,_⟩:=(e3.out wn (R.out.trans o)) [];exact⟨_,wq,rfl,o.trans j,fun t _ v h=>h.keep (fun _ h=>h) j t,fun d J hT=>absurd hT (by cases J;decide)⟩
 rintro v rfl;simp only[PS];iterate 2 refine O0 ?_
 refine aG fun i1 c4 hF=>?_;simp only[dK];have h6:=oH (R.out.trans c4);clear c4 hF;go_wp2_with fail;go_ret;exact⟨rfl,HW.2.trans h6.out⟩
section
section
variable {H:Type} {enc:TypeId×Value→H} {w:World}
def jm (w:World)(b:Nat):Prop:=b<w.heap.size
def fB {α:Type}(enc:TypeId×Value→H)(w:World)(t:TypeId)(E:cO α)(Q:α→Prop):Prop:=
 ∀j cs d ps,DataW.trod enc prog w 0 (fun _=>true) true j t cs=some (d,ps)→Rows.uptoBulk d≤1048576→∃x,E (jm w) w cs x∧Q x
theorem uJ {d:DataW H}{l:List (DataW H)}(h:d∈l):Rows.uptoBulk d≤Rows.uptoBulkAll l:=by
 induction l with
 |nil=>cases h
 |cons x r j=>
  simp only[Rows.uptoBulkAll];cases fX.1 h with
  |inl e=>subst e;omega
  |inr e=>have:=j e;omega
theorem Fc (d:DataW H):1≤Rows.uptoBulk d:=by
 cases d with
 |lit l=>cases l<;>simp[Rows.uptoBulk]
 |nil=>simp[Rows.uptoBulk]
 |ptr d=>simp[Rows.uptoBulk]
 |slice elems spare=>simp[Rows.uptoBulk]
 |agg parts=>simp[Rows.uptoBulk]
 |iface t d=>simp[Rows.uptoBulk]
 |map entries=>simp[Rows.uptoBulk]
 |held h=>simp[Rows.uptoBulk]
theorem Fb (l:List (DataW H)):l.length≤Rows.uptoBulkAll l:=by
 induction l with
 |nil=>simp[Rows.uptoBulkAll]
 |cons x r j=>have:=Fc x;simp only[Rows.uptoBulkAll,kI];omega
theorem Cc {α:Type}{P:Nat→α→Prop}:∀ {n:Nat},(∀i,i<n→∃x,P i x)→∃l:List α,l.length=n∧∀(i:Nat) x,l[i]? =some x→P i x
 |0,_=>⟨[],rfl,fun i x h=>by simp at h⟩
 |n+1,h=>by(
 obtain⟨l,o,C⟩:=Cc (n:=n) fun i hi=>h i (by omega);obtain⟨x,I⟩:=h n (by omega);refine⟨l++[x],by simp[o],fun i y j=>?_⟩;by_cases hi:i<n
 ·rw[ma (by omega)] at j
  exact C i y j
 rw[kH (by omega)] at j;have J:i-l.length=0:=by have:=(lS.1 j).1;simp at this;omega
 rw[J] at j;cases j;obtain rfl:i=n:=by omega
 exact I)
theorem nI (b o r:Nat):(⟨b,o,none⟩:Addr).add r=⟨b,o+r,none⟩:=by
 unfold Addr.add;split;·rename_i h;subst h;rfl
 rfl
theorem fi {α:Type}{t e:TypeId}{n bw:Nat}{E:cO α}{Q:α→Prop}(ht:prog.underlying t=some (.slice e))(hc:prog.cellsOf e=n)(hn:0<n)(b0:bw≤1000000)(o:fB enc w e E Q):
 fB enc w t (eT (rx n bw E)) fun l=>l.length≤1048576∧∀x∈l,Q x:=by
 intro b5 cs d ps h hb;rcases DataW.trod_slice ht h with ⟨rfl,J⟩|⟨a,len,cap,elems,rest,n',rfl,rfl,J,_,hl,hm,b6,Y,_,_⟩;·exact⟨[],⟨_,rfl,rx.nil⟩,by simp,by simp⟩
 injection J with hd _;subst hd;rw[hc] at Y;have b7:Rows.uptoBulkAll (elems.map (·.1))+1≤1048576:=by simp only[Rows.uptoBulk] at hb;omega
 have a1:=Fb (elems.map (·.1));rw[ce] at a1;obtain⟨l,b1,hP⟩:=Cc (n:=len) (P:=fun i x=>(∃ci,w.cells? 0 (a.add (i*n)) n=some ci∧E (jm w) w ci x)∧Q x) fun i hi=>by(
 have h1:=Y i hi;have h2:i<elems.length:=by omega
 rw[lG h2] at h1;obtain⟨ci,C,b2⟩:=Option.bind_eq_some_iff.1 h1;have b8:=uJ (d:=elems[i].1) (l:=elems.map (·.1)) (dr.2 ⟨elems[i],eL h2,rfl⟩);obtain⟨x,J,hq⟩:=o n' ci elems[i].1 elems[i].2 b2 (by omega);exact⟨x,⟨ci,C,J⟩,hq⟩)
 have b3:l.length*bw≤1048576*1000000:=Nat.mul_le_mul (by omega) b0;refine⟨l,⟨_,rfl,some a,cap,by rw[b1],by omega,hm,by omega,fun i x J=>?_⟩,by omega,fun x J=>?_⟩
 ·obtain⟨⟨ci,C,hE⟩,_⟩:=hP i x J;have hi:=(lS.1 J).1;obtain⟨⟨c0,R,_⟩,_⟩:=hP 0 _ (lG (show 0<l.length by omega));unfold World.cells? at C R;rw[ap (Nat.zero_le _)] at C R;obtain⟨b,off,sp⟩:=a;obtain rfl:sp=none:=by obtain⟨c,_,h0⟩:=Lib.mapM_at R 0 0 (by rw[ln hn]);have:=World.cell?_spot h0;simpa [Addr.add] using this
  have a6:=Lib.mapM_length C;rw[List.length_range] at a6;have a7:b<w.heap.size:=by obtain⟨c,_,h0⟩:=Lib.mapM_at R 0 0 (by rw[ln hn]);have:=jy w _ h0;rw[nI,nI] at this;exact this
  refine⟨b,off,ci,rfl,a7,a6,fun j c hj=>?_,hE⟩;have b4:j<n:=by have:=(lS.1 hj).1;omega
  obtain⟨c',a8,I⟩:=Lib.mapM_at C j j (by rw[ln b4]);rw[hj] at a8;cases a8;rw[nI,nI] at I;exact I
 obtain⟨i,hi⟩:=cY.1 J;exact(hP i x hi).2
theorem pR {α:Type}{t:TypeId}{bw:Nat}{E:bT α}{Q:List α→Prop}(h:fB enc w t (eT (rx 1 bw (eT E))) Q):fB enc w t (eT (Sl bw E)) Q:=by intro j cs d ps o C;obtain⟨x,⟨v,e,I⟩,J⟩:=h j cs d ps o C;exact⟨x,⟨v,e,jT I⟩,J⟩
theorem bm {α:Type}{t C:TypeId}{fs:Array Field}{m off:Nat}{E:cO α}{Q:α→Prop}(ht:prog.underlying t=some (.struct fs)){j:Nat}{cs:List Value}{d:DataW H}{ps:List MemPlace}
 (h:DataW.trod enc prog w 0 (fun _=>true) true j t cs=some (d,ps)) (hb:Rows.uptoBulk d≤1048576) (i:Nat) (f:Field) (hf:fs[i]? =some f) (I:f.type=C) (J:f.offset=off) (hm:prog.cellsOf C=m) (o:fB enc w C E Q):∃x,E (jm w) w ((cs.drop off).take m) x∧Q x:=by
 obtain⟨xs,n,rfl,hx,_,R,Y⟩:=DataW.trod_struct ht h;injection hx with hd _;subst hd;have h1:=Y i f hf;have hi:i<xs.length:=by rw[R];exact(mV.1 hf).1
 rw[lG hi,I,J,hm] at h1;have a1:=uJ (d:=xs[i].1) (l:=xs.map (·.1)) (dr.2 ⟨xs[i],eL hi,rfl⟩);simp only[Rows.uptoBulk] at hb;exact o n _ xs[i].1 xs[i].2 h1 (by omega)
theorem jV {t:TypeId}{o:Array Field}{m:Nat}(C:prog.underlying t=some (.struct o))(hm:prog.cellsOf t=m){j:Nat}{cs:List Value}{x:DataW H×List MemPlace}(h:DataW.trod enc prog w 0 (fun _=>true) true j t cs=some x):cs.length=m:=by obtain⟨_,_,_,_,I,_⟩:=DataW.trod_struct C h;rw[I,hm]
theorem mA:prog.cellsOf 3=1:=by kernel_rfl
theorem Mg:prog.cellsOf 2=1:=by kernel_rfl
theorem KS:prog.cellsOf 5=1:=by kernel_rfl
theorem Ml:prog.cellsOf 52=1:=by kernel_rfl
theorem Fi:prog.cellsOf 9=1:=by kernel_rfl
theorem Ff:prog.cellsOf 228=2:=by kernel_rfl
theorem Fe:prog.cellsOf 99=2:=by kernel_rfl
theorem Mh:prog.cellsOf 40=9:=by kernel_rfl
theorem Mj:prog.cellsOf 36=1:=by kernel_rfl
theorem Mi:prog.cellsOf 33=1:=by kernel_rfl
theorem Fd:prog.cellsOf 35=3:=by kernel_rfl
theorem KN:prog.cellsOf 28=1:=by kernel_rfl
theorem KO:prog.cellsOf 27=1:=by kernel_rfl
theorem Fh:prog.cellsOf 38=1:=by kernel_rfl
theorem KQ:prog.cellsOf 22=1:=by kernel_rfl
theorem KR:prog.cellsOf 23=1:=by kernel_rfl
theorem Fg:prog.cellsOf 24=1:=by kernel_rfl
theorem Mk:prog.cellsOf 26=5:=by kernel_rfl
theorem KP:prog.cellsOf 30=3:=by kernel_rfl
theorem mB:fB enc w 3 (eT rQ) fun n=>(Lit.int .i64 n).wf=true:=fun j cs d ps h _=>by obtain⟨n,rfl,_,hw⟩:=DataW.trod_int underlying3 h;exact⟨n,⟨_,rfl,rfl,hw⟩,hw⟩
theorem Mw:fB enc w 2 (eT rQ) fun n=>(Lit.int .i64 n).wf=true:=fun j cs d ps h _=>by obtain⟨n,rfl,_,hw⟩:=DataW.trod_int underlying2 h;exact⟨n,⟨_,rfl,rfl,hw⟩,hw⟩
def MT:cO Nat:=fun _ _ cs n=>cs=[.int .u8 n]
theorem MA:fB enc w 5 MT fun n=>n<256:=fun o cs d ps h _=>by obtain⟨n,rfl,_,hw⟩:=DataW.trod_int underlying5 h;obtain⟨C,I⟩:=bounds_u8 hw;exact⟨n.toNat,by unfold MT;rw[Int.toNat_of_nonneg C],by omega⟩
theorem Kn:fB enc w 9 (eT EQ) fun s=>s.size≤1048576:=fun j cs d ps h o=>by obtain⟨s,rfl,C,_⟩:=DataW.trod_string underlying9 h;injection C with I _;subst I;simp only[Rows.uptoBulk,Array.length_toList] at o;exact⟨s,⟨_,rfl,rfl⟩,by show s.data.size≤_;omega⟩
theorem Mz:fB enc w 52 (eT Cz) fun _=>True:=fun o cs d ps h _=>by obtain⟨n,rfl,_,hw⟩:=DataW.trod_int underlying52 h;obtain⟨C,I⟩:=bounds_u64 hw;refine⟨BitVec.ofNat 64 n.toNat,⟨_,rfl,?_⟩,trivial⟩;show Value.int .u64 n=U (BitVec.ofNat 64 n.toNat);unfold U;rw[BitVec.toNat_ofNat,Nat.mod_eq_of_lt (by omega),Int.toNat_of_nonneg C]
theorem Gr:fB enc w 38 (eT aK) fun l=>l.length≤1048576∧∀x∈l,(Lit.int .i64 x).wf=true:=pR (fi underlying38 mA (by decide) (by decide) mB)
theorem Ln:fB enc w 22 (eT gB) fun l=>l.length≤1048576∧∀s∈l,s.size≤1048576:=pR (fi underlying22 Fi (by decide) (by decide) Kn)
theorem Lo:fB enc w 23 (eT nZ) fun l=>l.length≤1048576∧∀s∈l,True:=pR (fi underlying23 Ml (by decide) (by decide) Mz)
theorem Ms {cs:List Value}(h:cs.length=2):∃a b,cs=[a,b]:=by
 match cs,h with
 | [a,b],_=>exact⟨a,b,rfl⟩
theorem Mt {cs:List Value}(h:cs.length=3):∃a b c,cs=[a,b,c]:=by
 match cs,h with
 | [a,b,c],_=>exact⟨a,b,c,rfl⟩
theorem MO {cs:List Value}(h:cs.length=5):∃a b c d e,cs=[a,b,c,d,e]:=by
 match cs,h with
 | [a,b,c,d,e],_=>exact⟨a,b,c,d,e,rfl⟩
theorem MP {cs:List Value}(h:cs.length=9):∃a b c d e f g i j,cs=[a,b,c,d,e,f,g,i,j]:=by
 match cs,h with
 | [a,b,c,d,e,f,g,i,j],_=>exact⟨a,b,c,d,e,f,g,i,j,rfl⟩
theorem el {α:Type}{E:bT α}{c:Value}{x:α}(h:eT E (jm w) w [c] x):E (jm w) w c x:=by obtain⟨v,e,h⟩:=h;cases e;exact h
theorem Lm:fB enc w 228 uy fun x=>x.1.size≤1048576:=fun j cs d ps h o=>by obtain⟨a,b,rfl⟩:=Ms (jV underlying228 Ff h);obtain⟨s,C,I⟩:=bm underlying228 h o 0 _ rfl rfl rfl Fi Kn;obtain⟨n,J,R⟩:=bm underlying228 h o 1 _ rfl rfl rfl mA mB;have Y:a=.string s:=el (c:=a) C;have e1:b=.int .i64 n:=(el (c:=b) J).1;subst Y;subst e1;exact⟨(s,n),⟨rfl,R⟩,I⟩
theorem Ci:fB enc w 24 (eT kh) fun l=>l.length≤1048576∧∀x∈l,x.1.size≤1048576:=fi underlying24 Ff (by decide) (by decide) Lm
theorem gC {n:Int}(h:(Lit.int .i64 n).wf=true):aV n:=bounds_i64 h
theorem Lk:fB enc w 99 rI fun _=>True:=fun j cs d ps h o=>by obtain⟨a,b,rfl⟩:=Ms (jV underlying99 Fe h);obtain⟨m,C,I⟩:=bm underlying99 h o 0 _ rfl rfl rfl mA mB;obtain⟨n,J,R⟩:=bm underlying99 h o 1 _ rfl rfl rfl mA mB;have Y:a=.int .i64 m:=(el (c:=a) C).1;have e1:b=.int .i64 n:=(el (c:=b) J).1;subst Y;subst e1;exact⟨(m,n),⟨rfl,gC I,gC R⟩,trivial⟩
theorem MQ:fB enc w 40 KD fun x=>Cv x∧iM x:=fun J cs d ps h j=>by obtain⟨c0,c1,R,Y,c4,o,C,c7,c8,rfl⟩:=MP (jV underlying40 Mh h);obtain⟨k,h0,q0⟩:=bm underlying40 h j 0 _ rfl rfl rfl KS MA;obtain⟨op,h1,q1⟩:=bm underlying40 h j 1 _ rfl rfl rfl KS MA;obtain⟨dst,h2,q2⟩:=bm underlying40 h j 2 _ rfl rfl rfl mA mB;obtain⟨ref,h3,q3⟩:=bm underlying40 h j 3 _ rfl rfl rfl mA mB;obtain⟨Ni,h4,q4⟩:=bm underlying40 h j 4 _ rfl rfl rfl mA mB;obtain⟨ar,h5,q5⟩:=bm underlying40 h j 5 _ rfl rfl rfl Fh Gr;obtain⟨fr,h6,q6⟩:=bm underlying40 h j 6 _ rfl rfl rfl Fh Gr;obtain⟨nm,h7,q7⟩:=bm underlying40 h j 7 _ rfl rfl rfl Mg Mw;obtain⟨pl,h8,q8⟩:=bm underlying40 h j 8 _ rfl rfl rfl mA mB;have e0:[c0]=[.int .u8 k]:=h0;have e1:[c1]=[.int .u8 op]:=h1;have e2:R=.int .i64 dst:=(el (c:=R) h2).1;have e3:Y=.int .i64 ref:=(el (c:=Y) h3).1;have e4:c4=.int .i64 Ni:=(el (c:=c4) h4).1;have e5:aK (jm w) w o ar:=el (c:=o) h5;have e6:aK (jm w) w C fr:=el (c:=C) h6;have e7:c7=.int .i64 nm:=(el (c:=c7) h7).1;have e8:c8=.int .i64 pl:=(el (c:=c8) h8).1;cases e0;cases e1;subst e2;subst e3;subst e4;subst e7;subst e8;exact⟨⟨k,op,dst,ref,Ni,ar,fr,nm,pl⟩,⟨o,C,rfl,e5,e6,⟨q0,q1,gC q2,gC q3,gC q4,gC q7,gC q8⟩⟩,⟨q5.1,q6.1⟩,⟨gC q2,gC q3,gC q4,fun a I=>gC (q5.2 a I),fun a I=>gC (q6.2 a I)⟩⟩
theorem My:fB enc w 36 (eT tZ) fun l=>l.length≤1048576∧∀x∈l,Cv x∧iM x:=fi underlying36 Mh (by decide) (by decide) MQ
theorem Mx:fB enc w 33 (eT bW) fun l=>l.length≤1048576∧∀x∈l,x.length≤1048576∧∀y∈x,Cv y∧iM y:=pR (fi underlying33 Mj (by decide) (by decide) My)
def LS (b:aw):Prop:=b.Ng.length≤1048576∧∀x∈b.Ng,x.length≤1048576∧∀y∈x,Cv y∧iM y
theorem Lj:fB enc w 35 qO LS:=fun o cs d ps h j=>by obtain⟨a,b,c,rfl⟩:=Mt (jV underlying35 Fd h);obtain⟨m,C,I⟩:=bm underlying35 h j 0 _ rfl rfl rfl mA mB;obtain⟨n,J,R⟩:=bm underlying35 h j 1 _ rfl rfl rfl mA mB;obtain⟨l,Y,q2⟩:=bm underlying35 h j 2 _ rfl rfl rfl Mi Mx;have e0:a=.int .i64 m:=(el (c:=a) C).1;have e1:b=.int .i64 n:=(el (c:=b) J).1;have e2:bW (jm w) w c l:=el (c:=c) Y;subst e0;subst e1;exact⟨⟨m,n,l⟩,⟨c,rfl,e2,gC I,gC R⟩,q2⟩
theorem Li:fB enc w 28 (eT mL) fun l=>l.length≤1048576∧∀b∈l,LS b:=fi underlying28 Fd (by decide) (by decide) Lj
theorem Ll:fB enc w 27 (eT ev) fun l=>l.length≤1048576∧∀b∈l,True:=fi underlying27 Fe (by decide) (by decide) Lk
theorem Gu {j:Nat}{xs:Array Value}{d:DataW H}{ps:List MemPlace}(h:DataW.trod enc prog w 0 (fun _=>true) true j 26 xs.toList=some (d,ps))(o:Rows.uptoBulk d≤1048576):∃p,dJ (jm w) w (.agg xs) p∧kj p:=by obtain⟨a,b,c,e,f,C⟩:=MO (jV underlying26 Mk h);rw[C] at h;obtain⟨I,h0,q0⟩:=bm underlying26 h o 0 _ rfl rfl rfl KQ Ln;obtain⟨J,h1,q1⟩:=bm underlying26 h o 1 _ rfl rfl rfl KR Lo;obtain⟨R,h2,q2⟩:=bm underlying26 h o 2 _ rfl rfl rfl Fg Ci;obtain⟨Y,h3,q3⟩:=bm underlying26 h o 3 _ rfl rfl rfl Fg Ci;obtain⟨n,h4,q4⟩:=bm underlying26 h o 4 _ rfl rfl rfl mA mB;have e0:gB (jm w) w a I:=el (c:=a) h0;have e1:nZ (jm w) w b J:=el (c:=b) h1;have e2:kh (jm w) w c R:=el (c:=c) h2;have e3:kh (jm w) w e Y:=el (c:=e) h3;have e4:f=.int .i64 n:=(el (c:=f) h4).1;subst e4;exact⟨⟨I,J,R,Y,n⟩,⟨a,b,c,e,by rw[←Array.toArray_toList (xs:=xs),C],e0,e1,e2,e3,q4⟩,⟨q0.2,q2.2,q3.2⟩⟩
theorem DA {o:Nat}{xs:Array Value}{d:DataW H}{ps:List MemPlace}(h:DataW.trod enc prog w 0 (fun _=>true) true o 30 xs.toList=some (d,ps))(j:Rows.uptoBulk d≤1048576):∃c,cQ (jm w) w (.agg xs) c∧lY c∧rK c:=by obtain⟨a,b,c,C⟩:=Mt (jV underlying30 KP h);rw[C] at h;obtain⟨Y,h0,q0⟩:=bm underlying30 h j 0 _ rfl rfl rfl KO Ll;obtain⟨l1,h1,I⟩:=bm underlying30 h j 1 _ rfl rfl rfl KN Li;obtain⟨n,h2,q2⟩:=bm underlying30 h j 2 _ rfl rfl rfl mA mB;have e0:ev (jm w) w a Y:=el (c:=a) h0;have e1:mL (jm w) w b l1:=el (c:=b) h1;have e2:c=.int .i64 n:=(el (c:=c) h2).1;subst e2;refine⟨⟨Y,l1,n⟩,⟨a,b,by rw[←Array.toArray_toList (xs:=xs),C],e0,e1,gC q2⟩,⟨q0.1,I.1,fun b j=>(I.2 b j).1,fun b j l J=>((I.2 b j).2 l J).1,fun b j l J x R=>(((I.2 b j).2 l J).2 x R).1⟩,⟨gC q2,fun b j x R=>?_⟩⟩;obtain⟨l,J,R⟩:=List.mem_flatten.1 R;exact(((I.2 b j).2 l J).2 x R).2
end
end
end Go.Proofs.YtccbbkopmlnkpaaGreatDoor
