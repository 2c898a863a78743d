/- Part 28 of the proof of CallsShallow (its last part says what is proved). No condition. -/
import Derived.Deep.RegionHeld3
import Derived.Test.YtncdbjponknakaaGreatDoorK26
namespace Go.Proofs.YtncdbjponknakaaGreatDoor
set_option maxRecDepth 100000
set_option maxHeartbeats 8000000
open Go.RowKit Go.Proofs.Tryz
section
open Go.RowKit Go.Shelf
attribute [local go_sem] Oper.semAt_some
theorem Bp (S:Nat→Prop)(Y:Option Addr)(d1:Nat)(b:aw)(k Z:Nat)(w:World)(hb:bW S w (.slice Y b.Ng.length d1) b.Ng)(j:al w Z 43 #[.int .i64 b.params,.int .i64 b.vars,.slice Y b.Ng.length d1])(hG:gY b)(hk:k<b.Ng.length):
 Calls prog 67 #[.int .i64 k,.pointer (some ⟨Z,0,none⟩)] w fun e w'=>e=.returned (.int .i64 (fQ b k))∧w=w':=by
 obtain⟨l,J⟩:=eG hk;have h1:=(hG.some_ l (mG J)).1;obtain⟨x,R⟩:∃x,l[0]? =some x:=⟨_,lG (by omega)⟩;have hp:=yQ J R;obtain⟨rb,ro,rv,rfl,_,a1,o⟩:=bn hb J;obtain⟨LA,lc,rfl,l1,l2,l3,_⟩:=id o;obtain⟨xb,xo,a6,rfl,_,_,C,xa,xf,rfl,_⟩:=aZ o R;have z8:=C 8 _ rfl;rw[Nat.zero_mul,dj] at z8;have b2:=j.cell 2;simp only[gc] at b2;have HP:=oH hp;unfold maxLen at l2;clear hb j hG J R hp o C;go_enter func67,ntmps67;go_wp2;go_ret;exact⟨by rw[HP.out];rfl,rfl⟩
theorem sK {S:Nat→Prop}{w:World}{v:Value}{l:List Int}{g:Nat}{t:TypeId}{p:Option Addr}(C:al w g t #[.pointer p])(h:aK S w v l):aK (fun k=>S k∧k≠g) w v l:=by obtain⟨a,cap,J,R,Y,Z,h⟩:=h;refine⟨a,cap,J,R,Y,Z,fun i x hx=>?_⟩;obtain⟨b,off,c,e,hs,j,rfl,hw⟩:=h i x hx;refine⟨b,off,_,e,⟨hs,fun o=>?_⟩,j,rfl,hw⟩;subst o;rw[C.cell] at j;generalize off+i=m at j;rcases m with _|n<;>simp at j
theorem AZ {S:Nat→Prop}{w:World}{v:Value}{l:List (List Int)}{g:Nat}{t:TypeId}{p:Option Addr}(C:al w g t #[.pointer p])(h:Rows S w v l):Rows (fun k=>S k∧k≠g) w v l:=by obtain⟨a,cap,R,Y,Z,h3,h⟩:=h;refine⟨a,cap,R,Y,Z,h3,fun i x hx=>?_⟩;obtain⟨b,off,c,e,hs,j,J⟩:=h i x hx;refine⟨b,off,c,e,⟨hs,fun o=>?_⟩,j,sK C J⟩;subst o;obtain⟨_,_,rfl,_⟩:=J;rw[C.cell] at j;generalize off+i=m at j;rcases m with _|n<;>simp at j
def EE (b:aw)(lo:Nat)(v:Value)(wn:World):Prop:=∃A c,v=.tuple #[.slice A (jp b).length c,.bool true]∧ev (fun k=>lo≤k) wn (.slice A (jp b).length c) (jp b)
theorem EE.keep {b:aw}{lo:Nat}{v:Value}{wn j:World}(l:aa All wn j)(h:EE b lo v wn):EE b lo v j:=by obtain⟨A,c,e,h⟩:=h;exact⟨A,c,e,bu.keep l.all h⟩
theorem xL {S:Nat→Prop}{w:World}{v:Value}{l:List (Int×Int)}(h:ev S w v l):ev (fun k=>k<w.heap.size) w v l:=by obtain⟨a,cap,o,C,J,R,h⟩:=h;refine⟨a,cap,o,C,J,R,fun i x Y=>?_⟩;obtain⟨b,off,cs,e,hs,Z,j,rfl,h4⟩:=h i x Y;exact⟨b,off,_,e,jy w _ (j 0 _ rfl),Z,j,rfl,h4⟩
def EH (b:aw)(w6:World)(sz:Nat)(pre:List (EK b.Ng))(W:World):Prop:=
 al W w6.heap.size 3 #[.int .i64 0]∧al W (w6.heap.size+1) 37 #[.int .i64 0]∧aa All w6 W∧sz≤W.heap.size∧w6.heap.size+2≤sz∧∀u∈pre.map Subtype.val,uo b u.1 u.2.1 u.2.2=0
def JZ (b:aw)(w6:World)(sz:Nat)(pre:List (EK b.Ng))(W:World):Prop:=
 ∃pre' x,pre=pre'++[x]∧(∀u∈pre'.map Subtype.val,uo b u.1 u.2.1 u.2.2=0)∧uo b x.1.1 x.1.2.1 x.1.2.2≠0∧al W w6.heap.size 3 #[.int .i64 x.1.2.2.Nj]∧al W (w6.heap.size+1) 37 #[.int .i64 (uo b x.1.1 x.1.2.1 x.1.2.2)]∧aa All w6 W∧sz≤W.heap.size∧w6.heap.size+2≤sz
theorem vx {sz:Nat}{W j:World}{row:Option Nat}(l:W.grownBy j row)(C:∀r,row=some r→sz≤r∧∃o:Obj,W.heap[r]? =some o∧o.isCells=false):aa (fun k=>k<sz) W j:=
 (aa.refl _ W).grown l fun k J=>.inl fun h=>by have:=(C k J).1;have h:k<sz:=h;omega
theorem CY {b:aw}{j:World}{sz:Nat}:OwnFrom sz (EH b j sz):=by rintro s W W' row ⟨o,C,J,R,Y,Z⟩ l hr;have k:=vx l hr;exact⟨o.kept k (by omega),C.kept k (by omega),am (J.all.trans (k.mono fun g (l:g<j.heap.size)=>by omega)),fR R k.size,Y,Z⟩
theorem CX {b:aw}{l:World}{sz:Nat}:OwnFrom sz (JZ b l sz):=by rintro s W W' row ⟨j,x,C,J,R,Y,Z,h6,h7,h8⟩ o hr;have k:=vx o hr;exact⟨j,x,C,J,R,Y.kept k (by omega),Z.kept k (by omega),am (h6.all.trans (k.mono fun g (o:g<l.heap.size)=>by omega)),fR h7 k.size,h8⟩
def LY (n:Nat)(v:Value):Prop:=∃A c,v=.slice A n c
def Ka (v:Value):Prop:=∃g,v=.pointer (some ⟨g,0,none⟩)
def rW (b:aw)(v:Value)(wn:World):Prop:=∃tt pl,aK All wn v (lV b.Ng.length tt)∧mz (bM b) tt pl
def rX (b:aw)(v:Value)(wn:World):Prop:=Rows All wn v (gF (bM b))
def LX (b:aw)(bv:Value)(v:Value):Prop:=∃A3 c3 A4 c4,v=.agg #[.int .i64 b.params,.int .i64 b.vars,bv,.slice A3 b.Ng.length c3,.slice A4 b.Ng.length c4,.slice none 0 0]
def KH (b:aw)(bv:Value)(v:Value)(wn:World):Prop:=∃A3 c3 A4 c4,v=.agg #[.int .i64 b.params,.int .i64 b.vars,bv,.slice A3 b.Ng.length c3,.slice A4 b.Ng.length c4,.slice none 0 0]∧rW b (.slice A3 b.Ng.length c3) wn∧rX b (.slice A4 b.Ng.length c4) wn
def ER (b:aw)(bv:Value)(lo:Nat)(v:Value)(wn:World):Prop:=∃g A3 c3 A4 c4,v=.pointer (some ⟨g,0,none⟩)∧lo≤g∧al wn g 173 #[.int .i64 b.params,.int .i64 b.vars,bv,.slice A3 b.Ng.length c3,.slice A4 b.Ng.length c4,.slice none 0 0]∧(∃tt pl,aK (fun k=>k<g) wn (.slice A3 b.Ng.length c3) (lV b.Ng.length tt)∧mz (bM b) tt pl)∧Rows (fun k=>k<g) wn (.slice A4 b.Ng.length c4) (gF (bM b))
def ES (lo:Nat)(v:Value)(wn:World):Prop:=∃g,v=.pointer (some ⟨g,0,none⟩)∧lo≤g∧al wn g 169 #[.pointer none]
def xI (b:aw)(bv:Value)(lo:Nat)(t:Tmp)(v:Value)(wn:World):Prop:=if t=44 then rW b v wn else if t=46 then rX b v wn else if t=47 then KH b bv v wn else if t=48 then ER b bv lo v wn else ES lo v wn
section
variable {b:aw} {bv:Value} {lo:Nat} {wn wq:World} (hkq:aa All wn wq) {v:Value}
include hkq
theorem rW.keep (h:rW b v wn):rW b v wq:=by obtain⟨j,pl,l,o⟩:=h;exact⟨j,pl,ah.keep hkq l,o⟩
theorem rX.keep (h:rX b v wn):rX b v wq:=aq.keep hkq h
theorem xI.keep (t:Tmp)(h:xI b bv lo t v wn):xI b bv lo t v wq:=by
 unfold xI at h⊢;by_cases Z:t=44;·rw[ap Z] at h⊢;exact h.keep hkq
 rw[ae Z] at h⊢;by_cases h2:t=46;·rw[ap h2] at h⊢;exact h.keep hkq
 rw[ae h2] at h⊢;by_cases h3:t=47;·rw[ap h3] at h⊢;obtain⟨j,l,o,C,e,g1,g2⟩:=h;exact⟨j,l,o,C,e,g1.keep hkq,g2.keep hkq⟩
 rw[ae h3] at h⊢;by_cases h4:t=48;·rw[ap h4] at h⊢;obtain⟨g,j,l,o,C,e,J,R,⟨tt,pl,g1,Y⟩,g2⟩:=h;exact⟨g,j,l,o,C,e,J,R.kept hkq trivial,⟨tt,pl,ah.keep hkq.all g1,Y⟩,aq.keep hkq.all g2⟩
 rw[ae h4] at h⊢;obtain⟨g,e,J,R⟩:=h;exact⟨g,e,J,R.kept hkq trivial⟩
end
theorem Ef (S:Nat→Prop)(bv:Value)(b:aw)(w:World)(hb:bW S w bv b.Ng)(hG:gY b)(k1:b.Ng.flatten.length≤4096):
 Calls prog 48 #[.agg #[.int .i64 b.params,.int .i64 b.vars,bv]] w (qk b w):=by
 have l2:=vJ hb;have l3:=bg.la l2;obtain⟨B1,d1,rfl,m5,m6,m7,_⟩:=hb;obtain⟨A,F,hI⟩:=vw l2;have p7:=hG.blk.2;have r5:=hG.blk.1;have i4:=cS b;have n4:=gd hG;obtain⟨W0,i7⟩:=eQ (w.alloc (.cells #[.int .i64 b.params,.int .i64 b.vars,.slice B1 b.Ng.length d1] 43));have l4:aa All w W0:=by rw[i7];exact kR.alloc _
 have bB:al W0 w.heap.size 43 #[.int .i64 b.params,.int .i64 b.vars,.slice B1 b.Ng.length d1]:=by rw[i7];exact ac rfl
 obtain⟨b0,b1,b2⟩:=bB.c3;have n5:=Je _ (.slice B1 b.Ng.length d1) b W0 (l3 W0 l4) hG;have HG:=J4 hG hI k1 n4;have HW:=J5 i7 l4 bB l3 n5;have r6:∀(fn:Fn) (first cap:Array Value) (w:World),(Instr.makeFunc fn first cap).run prog w=.ok (.func fn first cap) w:=fun _ _ _ _=>rfl;clear hG hI k1 i7 l4 bB l3 n5 l2 m5 m6 m7 n4;refine(callsIn_wide (n:=8)).1 ?_;refine callsIn_of_wp_marks func48 rfl trivial ?_ rfl;simp only[ntmps48,List.size_toArray,kI,List.length_nil,Nat.reduceAdd,Nat.reduceSub,Array.replicate_succ,Array.replicate_zero,List.push_toArray,List.append_toArray,mF,List.cons_append];rw[wpIn_wide];go_wp2
 go_step3
 go_upto_region 1 with fail;rw[←HW.1];go_wp2_with fail;refine HW.2.2.2.2.mono ?_;rintro e w1 ⟨u,rfl,h4,l5⟩;have n6:=jh h4;have j0:=aq.la n6;obtain⟨TA,tc,rfl,t1,t2,t3,_⟩:=h4;rw[i4] at t1 t3 j0⊢;unfold maxLen at t2;have c8:=yC _ _ (bM b) w1 (j0 w1 kR) HG.2.2.2;rw[i4] at c8;have HT:=J5 j0 i4 c8 l5 (HW.2.1.trans l5);clear j0 i4 c8 l5 n6 b0 b1 b2;go_wp2_with fail;refine HT.2.2.1.mono ?_;rintro e w2 ⟨rfl,l6⟩;have e0:=J2 l6 (HT.2.2.2.1.trans l6);clear l6;have h5:=HW.2.2.1.kept e0.2 trivial;obtain⟨b0,b1,b2⟩:=h5.c3;clear h5;have n7:=fun wn (C:aa All W0 wn) k (p8:k<b.Ng.length)=>Bp _ B1 d1 b k w.heap.size wn (HW.2.2.2.1 wn (HW.2.1.trans C)) (HW.2.2.1.kept C trivial) HG.1 p8;have l7:=oH n7;clear n7;rcases jX (kO (bM b)) b.Ng.length with ⟨h0,a1⟩|⟨k,h0,C,_⟩
 case inr=>(
 rw[h0];have tk:decide ((0:Int)≤(k:Int))=true:=by simp
 have tm:max (k:Int) 0=(k:Int):=by omega
 have HN:=J2 (yn h0) (l7.out w2 e0.2 k C);clear h0;go_wp2_with fail;refine HN.2.mono ?_;rintro e w3 ⟨rfl,rfl⟩;go_wp2_with fail;rw[Exit.noGoto_ret];exact⟨.tuple #[.int .i64 (fQ b k),.int .i64 16],by simp[results,Tryz.f48,go_sem],.of HN.1 (HW.2.1.trans e0.2)⟩)
 rw[h0];have H0:=J2 h0 a1;have l8:=Ei _ _ (bM b) w2 (HT.1 w2 e0.1) HG.2.2.2;rw[HT.2.1] at l8;have HS:=oH l8;clear h0 l8 a1;go_wp2_with fail;refine HS.out.mono ?_;rintro e w3 ⟨rfl,l9⟩;have Y:=J2 (e0.1.trans l9) (e0.2.trans l9);clear l9 b0 b1 b2;have h5:=HW.2.2.1.kept Y.2 trivial;obtain⟨b0,b1,b2⟩:=h5.c3;clear h5;rcases jX (iN (bM b)) b.Ng.length with ⟨h0,_⟩|⟨k,h0,C,_⟩
 case inr=>(
 rw[h0];have tk:decide ((0:Int)≤(k:Int))=true:=by simp
 have tm:max (k:Int) 0=(k:Int):=by omega
 have HN:=J2 (ve H0.1 h0) (l7.out w3 Y.2 k C);clear h0;go_wp2_with fail;refine HN.2.mono ?_;rintro e w4 ⟨rfl,rfl⟩;go_wp2_with fail;rw[Exit.noGoto_ret];exact⟨.tuple #[.int .i64 (fQ b k),.int .i64 17],by simp[results,Tryz.f48,go_sem],.of HN.1 (HW.2.1.trans Y.2)⟩)
 rw[h0];have H1:=oH h0;clear h0;have hL:∀k,k<(bM b).length→aQ (bM b) 0 k:=fun k C=>Classical.byContradiction fun h=>H0.2 k (by rw[←HT.2.1];exact C) ⟨C,h⟩;have h6:=fun wn (C:aa All w1 wn)=>Hu _ _ (bM b) wn (HT.1 wn C) HG.2.2.2 hL;have h7:=fun wn (C:aa All w1 wn)=>sd _ _ (bM b) wn (HT.1 wn C) HG.2.2.2;have HR:=J2 h6 h7;clear h6 h7 hL;go_wp2_with fail;have HF:=oH (show∀wn,aa All w3 wn→wn.cell? ⟨w.heap.size,0,none⟩=some (.int .i64 b.params)∧wn.cell? ⟨w.heap.size,1,none⟩=some (.int .i64 b.vars)∧wn.cell? ⟨w.heap.size,2,none⟩=some (.slice B1 b.Ng.length d1) from fun wn C=>⟨(HW.2.2.1.kept (Y.2.trans C) trivial).cell 0,(HW.2.2.1.kept (Y.2.trans C) trivial).cell 1,(HW.2.2.1.kept (Y.2.trans C) trivial).cell 2⟩);refine R1 8 w3 [44,46,47,48,11] (xI b (.slice B1 b.Ng.length d1) w3.heap.size) (fun i=>if i=2 then some (LY b.Ng.length) else if i=4 then some (LY b.Ng.length) else if i=5 then some (LX b (.slice B1 b.Ng.length d1)) else if i=6 then some Ka else if i=7 then some Ka else none) ?_;refine O4 HF.out ?_;refine O0 ?_;refine O6 (fun wn C hp=>?_) (fun wn C hp=>?_) ?_;·go_simp;refine(HR.1 wn (Y.1.trans C)).mono ?_;rintro e wq ⟨u,tt,pl,rfl,hkq,a7,b6⟩;rw[HT.2.1] at a7;have R:aK All wq u (lV b.Ng.length tt):=ah.wide (fun _ _=>trivial) a7;obtain⟨A,c,eu,_⟩:=id R;rw[nW] at eu;subst eu;exact .inl ⟨rfl,_,rfl,⟨_,_,rfl⟩,C.trans hkq,fun t _ v h=>h.keep hkq t,fun d hd _=>by cases hd;exact⟨tt,pl,R,b6⟩⟩
 ·obtain⟨e,wq,_,⟨u,tt,pl,rfl,hkq,a7,b6⟩,_⟩:=(HR.1 wn (Y.1.trans C)) [];rw[HT.2.1] at a7;have R:aK All wq u (lV b.Ng.length tt):=ah.wide (fun _ _=>trivial) a7;obtain⟨A,c,eu,_⟩:=id R;rw[nW] at eu;subst eu;exact⟨_,wq,⟨_,_,rfl⟩,C.trans hkq,fun t _ v h=>h.keep hkq t,fun d hd _=>by cases hd;exact⟨tt,pl,R,b6⟩⟩
 rintro v ⟨A3,c3,rfl⟩;simp only[PS];refine O0 ?_;refine O6 (fun wn C hp=>?_) (fun wn C hp=>?_) ?_;·go_simp;refine(HR.2 wn (Y.1.trans C)).mono ?_;rintro e wq ⟨u,rfl,hkq,a7⟩;have R:Rows All wq u (gF (bM b)):=aq.wide (fun _ _=>trivial) a7;obtain⟨A,c,eu,_⟩:=id R;rw[fK,HT.2.1] at eu;subst eu;exact .inl ⟨rfl,_,rfl,⟨_,_,rfl⟩,C.trans hkq,fun t _ v h=>h.keep hkq t,fun d hd _=>by cases hd;exact R⟩
 ·obtain⟨e,wq,_,⟨u,rfl,hkq,a7⟩,_⟩:=(HR.2 wn (Y.1.trans C)) [];have R:Rows All wq u (gF (bM b)):=aq.wide (fun _ _=>trivial) a7;obtain⟨A,c,eu,_⟩:=id R;rw[fK,HT.2.1] at eu;subst eu;exact⟨_,wq,⟨_,_,rfl⟩,C.trans hkq,fun t _ v h=>h.keep hkq t,fun d hd _=>by cases hd;exact R⟩
 rintro v ⟨A4,c4,rfl⟩;simp only[PS];refine O6 (fun wn C hp=>?_) (fun wn C hp=>?_) ?_
 ·have c9:=hp 44 (by decide) (by decide) _ rfl
  have d7:=hp 46 (by decide) (by decide) _ rfl;go_simp;exact⟨rfl,⟨_,_,_,_,rfl⟩,C,fun t _ v h=>h,fun d hd _=>by cases hd;exact⟨_,_,_,_,rfl,c9,d7⟩⟩
 ·have c9:=hp 44 (by decide) (by decide) _ rfl
  have d7:=hp 46 (by decide) (by decide) _ rfl;exact⟨.agg #[.int .i64 b.params,.int .i64 b.vars,.slice B1 b.Ng.length d1,.slice A3 b.Ng.length c3,.slice A4 b.Ng.length c4,.slice none 0 0],wn,⟨_,_,_,_,rfl⟩,C,fun t _ v h=>h,fun d hd _=>by cases hd;exact⟨_,_,_,_,rfl,c9,d7⟩⟩
 rintro v ⟨A5,c5,A6,c6,rfl⟩;simp only[PS];refine O6 (fun wn C hp=>?_) (fun wn C hp=>?_) ?_;·have m0:=hp 47 (by decide) (by decide) _ rfl;obtain⟨_,_,_,_,e,⟨tt,pl,c9,b6⟩,d7⟩:=m0;cases e;go_simp;exact⟨rfl,⟨_,rfl⟩,C.alloc _,fun t _ v h=>h.keep (kR.alloc _) t,fun d hd _=>by cases hd;exact⟨_,_,_,_,_,rfl,C.size,al.new _ _ _,⟨tt,pl,ah.keep (kR.alloc _) (kV c9),b6⟩,aq.keep (kR.alloc _) (jh d7)⟩⟩
 ·have m0:=hp 47 (by decide) (by decide) _ rfl
  obtain⟨_,_,_,_,e,⟨tt,pl,c9,b6⟩,d7⟩:=m0;cases e;exact⟨.pointer (some ⟨wn.heap.size,0,none⟩),wn.alloc (.cells #[.int .i64 b.params,.int .i64 b.vars,.slice B1 b.Ng.length d1,.slice A5 b.Ng.length c5,.slice A6 b.Ng.length c6,.slice none 0 0] 173),⟨_,rfl⟩,C.alloc _,fun t _ v h=>h.keep (kR.alloc _) t,fun d hd _=>by cases hd;exact⟨_,_,_,_,_,rfl,C.size,al.new _ _ _,⟨tt,pl,ah.keep (kR.alloc _) (kV c9),b6⟩,aq.keep (kR.alloc _) (jh d7)⟩⟩
 rintro v ⟨gk,rfl⟩;simp only[PS];refine O6 (fun wn C hp=>?_) (fun wn C hp=>?_) ?_
 ·go_simp
  exact⟨rfl,⟨_,rfl⟩,C.alloc _,fun t _ v h=>h.keep (kR.alloc _) t,fun d hd _=>by cases hd;exact⟨_,rfl,C.size,al.new _ _ _⟩⟩
 ·exact⟨.pointer (some ⟨wn.heap.size,0,none⟩),wn.alloc (.cells #[.pointer none] 169),⟨_,rfl⟩,C.alloc _,fun t _ v h=>h.keep (kR.alloc _) t,fun d hd _=>by cases hd;exact⟨_,rfl,C.size,al.new _ _ _⟩⟩
 rintro v ⟨gp,rfl⟩;simp only[PS];refine aG fun wt n8 hF=>?_;have n9:=hF 48 (by decide) _ rfl;have o0:=hF 11 (by decide) _ rfl;obtain⟨_,A5,c5,A6,c6,e1,o1,j1,⟨tt,pl,a7,b6⟩,o2⟩:ER b (.slice B1 b.Ng.length d1) w3.heap.size _ wt:=n9;cases e1;obtain⟨_,e2,o3,b9⟩:ES w3.heap.size _ wt:=o0;cases e2;have m1:gk≠gp:=j1.ne b9 (by decide);have R:=sK b9 a7;have k2:=AZ b9 o2;have p0:=b9.cell 0;have f0:=b9.free 0;simp only[gc] at p0;obtain⟨W4,j2⟩:=eQ (wt.setCell ⟨gp,0,none⟩ (.pointer (some ⟨gk,0,none⟩)));have h8:aa (fun k=>k≠gp) wt W4:=by rw[j2];exact kR.setCell (.inl fun h=>h rfl) _
 have p9:=j1.lt;have r7:=b9.lt;have k3:aa All w3 W4:=am (n8.all.trans (h8.mono fun k (C:k<w3.heap.size)=>by omega));have m2:al W4 gp 169 #[.pointer (some ⟨gk,0,none⟩)]:=by rw[j2];exact b9.set 0 _
 have m3:=j1.kept h8 m1;have k5:=ah.keep (h8.mono fun k (C:k<gk∧k≠gp)=>C.2) R;have h9:=aq.keep (h8.mono fun k (C:k<gk∧k≠gp)=>C.2) k2;obtain⟨rb,ro,rv,rfl,q0,m4,o4⟩:=bn h9 (mX (ll:=bM b) (k:=0) (by rw[HT.2.1];omega));rw[dj] at m4;obtain⟨RA,rc,rfl,r1,r2,r3,_⟩:=id o4;unfold maxLen at r2;have p0:=m2.cell 0;have k4:=m3.cell 4;simp only[gc] at p0 k4;have HX:=J9 j2 k3 m2 m3 k5 h9 b6 m1 o1;clear hF o1 o3 j1 a7 o2 b9 R k2 h8 k3 m2 m3 k5 h9 b6 j2 n8 o4 q0;simp only[dK];go_upto_region 10 with fail;rw[←HX.1];obtain⟨L,hL⟩:=eR (di (bM b) (bM b).length 0);rw[hL] at m4 r1 r3;by_cases q6:0<L.length;·obtain⟨y,hy⟩:∃y,y∈di (bM b) (bM b).length 0:=⟨L[0],by rw[hL];exact eL q6⟩;obtain⟨i,_,_,hi⟩:=jc.1 hy;have k6:Calls prog 67 #[.int .i64 0,.pointer (some ⟨w.heap.size,0,none⟩)] W4 fun e w'=>e=.returned (.int .i64 (fQ b 0))∧W4=w':=l7.out W4 (Y.2.trans HX.2.1) 0 (by omega);have HN:=J2 (yp H0.1 H1.out hi) k6;clear hL hy hi k6;go_wp2_with fail;refine HN.2.mono ?_;rintro e w5 ⟨rfl,hw⟩;have q7:=hw.symm;subst q7;go_wp2_with fail;rw[Exit.noGoto_ret];exact⟨.tuple #[.int .i64 (fQ b 0),.int .i64 18],by simp[results,Tryz.f48,go_sem],.of HN.1 ((HW.2.1.trans Y.2).trans HX.2.1)⟩
 have HN:=oH (BU H0.1 H1.out fun i hi=>by have hm:(i:Int)∈di (bM b) (bM b).length 0:=jc.2 ⟨i,rfl,lq hi,hi⟩;rw[hL,show L=[] from oD (by omega)] at hm;cases hm);clear hL;have i0:=HW.2.2.1.kept (Y.2.trans HX.2.1) trivial;have i1:=fun wn (C:aa All W4 wn)=>Ed _ (.slice B1 b.Ng.length d1) b wn (HW.2.2.2.1 wn ((HW.2.1.trans Y.2).trans (HX.2.1.trans C))) HG.1 HG.2.2.1;have HD:=oH i1;have o5:=oH (show∀wn,aa All W4 wn→wn.cell? ⟨w.heap.size,0,none⟩=some (.int .i64 b.params)∧wn.cell? ⟨w.heap.size,1,none⟩=some (.int .i64 b.vars)∧wn.cell? ⟨w.heap.size,2,none⟩=some (.slice B1 b.Ng.length d1)∧wn.cell? ⟨gp,0,none⟩=some (.pointer (some ⟨gk,0,none⟩)) from fun wn C=>⟨(i0.kept C trivial).cell 0,(i0.kept C trivial).cell 1,(i0.kept C trivial).cell 2,(HX.2.2.1.kept C trivial).cell 0⟩);have o6:=oH i0;clear i1 i0;have ek:=o5.out W4 kR;obtain⟨b0,b1,b2,b3⟩:=ek;have fk:=HX.2.2.2.1.free 5;have ck:=HX.2.2.2.1.cell 5;simp only[gc] at ck;clear p0;go_upto_region 12 with fail;clear k4 m4;go_cut [] from 59 to 66 (fun wx=>∃A c,aa (fun k=>k≠gk) W4 wx∧al wx gk 173 #[.int .i64 b.params,.int .i64 b.vars,.slice B1 b.Ng.length d1,.slice A5 b.Ng.length c5,.slice (some ⟨rb,ro,none⟩) b.Ng.length c6,.slice A (jp b).length c]∧ev (fun k=>W4.heap.size≤k) wx (.slice A (jp b).length c) (jp b))
 case first=>(
 refine wp_region_noPanic ?_;go_region_with (go_at_call 72;refine(HD.out _ (kR.drew)).mono ?_;rintro e wq ⟨u,rfl,hkq,hu⟩;obtain⟨A,c,eu,_⟩:=id hu;subst eu;have c0:=(aa.refl All W4).drew.trans hkq;obtain⟨g0,g1,g2,g3⟩:=o5.out wq c0;have r8:=(HX.2.2.2.1.kept c0 trivial).free 5;have q8:=(HX.2.2.2.1.kept c0 trivial).cell 5;simp only[gc] at q8)
 all_goals
  refine NoPanic.normal ?_;go_wp2_with fail;go_meet;have e3:=(HX.2.2.2.1.kept c0 trivial).set 5 (.slice A (jp b).length c);simp only[ga] at e3;exact⟨A,c,c0.all.setCell (p:=⟨gk,5,none⟩) (.inl fun h=>h rfl) _,e3,bu.keep ((aa.refl (fun k=>W4.heap.size≤k) wq).setCell (p:=⟨gk,5,none⟩) (.inl (by have:=HX.2.2.2.1.lt;show¬(W4.heap.size≤gk);omega)) _) hu⟩)
 obtain⟨A7,c7,d8,e3,m8⟩:=hcut;have p9:=HX.2.2.2.1.lt;have k7:(jp b).length=b.vars.toNat:=by simp[jp]
 rw[k7] at e3 m8;have q9:=d8.size;have a8:rJ (fun k=>k<wc.heap.size) wc gk b tt:=⟨_,A5,c5,_,_,A7,c7,e3,ah.wide (fun k C=>by have:k<gk∧k≠gp:=C;omega) (ah.keep (d8.mono fun k (C:k<gk∧k≠gp)=>by show k≠gk;omega) HX.2.2.2.2.1),aq.wide (fun k C=>by have:k<gk∧k≠gp:=C;omega) (aq.keep (d8.mono fun k (C:k<gk∧k≠gp)=>by show k≠gk;omega) HX.2.2.2.2.2.1),xL m8⟩;have k8:gp≠gk:=fun e=>HX.2.2.2.2.2.2.2.1 e.symm;have k9:=HX.2.2.1.kept d8 k8;have i2:=o6.out.kept d8 (by have h1:=HW.2.2.1.lt;have h2:=Y.2.size;have h3:=HX.2.2.2.2.2.2.2.2;show w.heap.size≠gk;omega);have m9:=J3 a8 k9 i2;have l0:aa All w wc:=am (((HW.2.1.trans Y.2).trans HX.2.1).all.trans (d8.mono fun k (C:k<w.heap.size)=>by have h1:=HW.2.2.1.lt;have h2:=Y.2.size;have h3:=HX.2.2.2.2.2.2.2.2;show k≠gk;omega));have d9:=oH l0;obtain⟨W7,e4⟩:=eQ ((wc.alloc (.cells #[.int .i64 0] 3)).alloc (.cells #[.int .i64 0] 37));have n0:aa All wc W7:=by rw[e4];exact(kR.alloc _).alloc _
 have o7:al W7 wc.heap.size 3 #[.int .i64 0]:=by rw[e4];exact(al.new _ _ _).alloc _
 have o8:al W7 (wc.heap.size+1) 37 #[.int .i64 0]:=by rw[e4];exact ac (by simp)
 have o9:W7.heap.size=wc.heap.size+2:=by rw[e4];simp
 have p1:=i2.kept n0 trivial;obtain⟨b0,b1,b2⟩:=p1.c3;have e5:=J5 e4 n0 o7 o8 o9;clear e4 n0 o7 o8 o9 p1 a8 k9 i2 d8 e3 m8 l0 q9 k7 k8 fk ck b3;go_wp2_with fail
 go_step3
 rw[←e5.1];go_wp2_with fail;refine(zk _ _ _ _ _ _).mono ?_;rintro e w' ⟨rfl,rfl⟩;obtain⟨wl,j3⟩:=eQ (W7.alloc (.cells #[.int .i64 b.params,.int .i64 b.vars,.slice B1 b.Ng.length d1] 43));have e6:aa All W7 wl:=by rw[j3];exact kR.alloc _
 have p2:al wl W7.heap.size 43 #[.int .i64 b.params,.int .i64 b.vars,.slice B1 b.Ng.length d1]:=by rw[j3];exact ac rfl
 have p3:iJ (fun g=>g<w.heap.size) w wl:=(iJ.refl _ _).kept ((d9.out.trans e5.2.1).trans e6).all;have n1:wc.heap.size+2≤wl.heap.size:=by have:=e6.size;have:=e5.2.2.2.2;omega
 have p4:EH b wc wl.heap.size [] wl:=⟨e5.2.2.1.kept e6 trivial,e5.2.2.2.1.kept e6 trivial,e5.2.1.trans e6,cf _,n1,fun u hu=>by cases hu⟩;rw[←j3];have HL:=J4 p2 p3 p4 n1;clear j3 e6 p2 p3 p4 n1 b0 b1 b2;go_wp2_with fail
 refine wpIn_wide.1 (lW (F:=Fence.wide) (n:=8) rfl (by omega) (gf:=104) (lb:=#[.pointer (some ⟨W7.heap.size,0,none⟩)]) rfl trivial (enters_of func104 (by kernel_rfl) rfl)
  (tM 7 (by omega) (fun g=>g<w.heap.size) w b.params b.vars B1 d1 b.Ng A F HG.2.1 p7 _ wl HL.2.1 HL.1) BY (BX _) (fun W o h=>h.kept (kR.alloc _)) (Below.refl _ _) (fun _=>rfl)
  (EH b wc wl.heap.size) (fun c pre W=>c=.exit 0∧JZ b wc wl.heap.size pre W) CY (fun c=>OwnFrom.and (ownFrom_pure _ _) CX) (fun pre W h=>h.2.2.2.1) HL.2.2.1
  14 15 179 47 (fun x=>#[.int .i64 (x.1.1:Nat),.int .i64 (x.1.2.1:Nat)]) (fun x=>#[.int .u8 x.1.2.2.kind,.int .u8 x.1.2.2.op,.int .i64 x.1.2.2.dst,.int .i64 x.1.2.2.ref,.int .i64 x.1.2.2.Ni,A x.1.1 x.1.2.1,F x.1.1 x.1.2.1,.int .i64 x.1.2.2.num,.int .i64 x.1.2.2.Nj]) ?assign ?body ?done ?stop)
 case assign=>(intro l x W K hK;obtain⟨⟨i,k,x⟩,row,b4,hx⟩:=x;obtain⟨⟨aA,cA,eA,_⟩,⟨aF,cF,eF,_⟩,_⟩:=HG.2.1.ints i row b4 k x hx;dsimp only at hK⊢;rw[eA,eF] at hK⊢;simp only[List.zip_toArray,List.zip_cons_cons,List.zip_nil_right,List.foldl_toArray',List.size_toArray,kI,List.length_nil,List.foldl_cons,List.foldl_nil,ga] at hK;gi_wp2;exact hK)
 case body=>(
 rintro l pre x b1 b2 W m1 r9 s0 e7 b7 ⟨hf,he,b5,hs,e8,a1⟩ _;obtain⟨⟨i,k,x⟩,row,b4,hx⟩:=x;obtain⟨i5,i6,_⟩:=HG.2.1.ints i row b4 k x hx;have hW:=d9.out.trans b5;have j5:=fun wn (C:aa All W wn)=>ah.keep (hW.trans C).all i5;have j6:=fun wn (C:aa All W wn)=>ah.keep (hW.trans C).all i6;obtain⟨aA,cA,eA,_,u2,_⟩:=i5;obtain⟨aF,cF,eF,_⟩:=i6;unfold maxLen at u2;dsimp only at e7 b7⊢;rw[eA] at b7 j5⊢;rw[eF] at b7 j6⊢;have j4:=mG b4;have j7:=mG hx;have p5:=(lS.1 b4).1;have a8:=fun wn (C:aa All W wn)=>m9.1.keep (b5.trans C) (fun _ _=>trivial) trivial;have j8:=(m9.2.1.kept b5 trivial).cell 0;obtain⟨x0,x1⟩:=e7.c2;obtain⟨y0,y1,y2,y3,y4,y5,y6,y7,y8⟩:=b7.c9;simp only[gc] at j8;have s3:=d9.out.size;have j9:∀z:iL,z∈(pre++[(⟨(i,k,x),row,b4,hx⟩:EK b.Ng)]).map Subtype.val→z∈pre.map Subtype.val∨z=(i,k,x):=fun z hz=>by
  rw[ic] at hz;rcases eD.1 hz with h|h;·exact .inl h
  exact .inr (cx.1 h)
 by_cases h3:x.kind=3;·(
 have t3:=yK x.kind 3 (by omega);have hC:=Ho _ _ _ gk b pl tt x _ _ i k W (a8 W kR) HG.1 HX.2.2.2.2.2.2.1 p5 (j5 W kR) (j6 W kR) (HG.1.phi row j4 x j7 h3) (HG.1.args row j4 x j7) (HG.1.Nh row j4 x j7);have b8:uo b i k x=mH b i x:=Ck h3;obtain⟨pf,p6⟩:=eR (mH b i x);rw[p6] at hC b8;have HC:=J6 hC b8 a1 b5 hs j9;clear hC b8 p6 a1 h3 a8 j5 j6 hW j9;by_cases hz:pf=0;·(
 have tz:(pf !=0)=false:=by rw[gj];exact hz
 gi_wp2_with (refine⟨trivial,?_⟩;gi_at_call 74;refine(CallsIn.inRound l (callsIn_wide.2 HC.1)).mono ?_;rintro e W8 ⟨rfl,J⟩;have fW:=hf.kept J trivial;have eW:=he.kept J trivial;have oW:=b7.kept J trivial;have q1:=eW.cell 0;have q2:=eW.free 0;have q3:=fW.cell 0;have q4:=fW.free 0;have q5:=oW.cell 8;simp only[gc] at q1 q3 q5;have l1:=J.size);refine⟨((KeepsOthers.of_kept J).trans (KeepsOthers.setCell _ _ _)).from _,fun h=>h.kept (J.all.setCell (p:=⟨wc.heap.size+1,0,none⟩) (.inl (by simp;omega)) _),fW.far (by simp) _,?_,(HC.2.2.2.1.trans J).setCell (p:=⟨wc.heap.size+1,0,none⟩) (.inr (by simp)) _,by simp;have:=HC.2.2.2.2.1;omega,e8,fun u hu=>?_⟩
 ·have:=eW.set 0 (.int .i64 0)
  simpa using this
 rcases HC.2.2.2.2.2 u hu with h|rfl;·exact HC.2.2.1 u h
 rw[HC.2.1];exact hz)
 have tz:(pf !=0)=true:=by rw[bne_iff_ne];exact hz
 gi_wp2_with (refine⟨trivial,?_⟩;gi_at_call 74;refine(CallsIn.inRound l (callsIn_wide.2 HC.1)).mono ?_;rintro e W8 ⟨rfl,J⟩;have fW:=hf.kept J trivial;have eW:=he.kept J trivial;have oW:=b7.kept J trivial;have q1:=eW.cell 0;have q2:=eW.free 0;have q3:=fW.cell 0;have q4:=fW.free 0;have q5:=oW.cell 8;simp only[gc] at q1 q3 q5;have l1:=J.size);refine⟨(((KeepsOthers.of_kept J).trans (KeepsOthers.setCell _ _ _)).trans (KeepsOthers.setCell _ _ _)).from _,rfl,pre,_,rfl,HC.2.2.1,by rw[HC.2.1];exact hz,?_,?_,((HC.2.2.2.1.trans J).setCell (p:=⟨wc.heap.size+1,0,none⟩) (.inr (by simp)) _).setCell (p:=⟨wc.heap.size,0,none⟩) (.inr (by simp)) _,by simp;have:=HC.2.2.2.2.1;omega,e8⟩
 ·have:=(fW.far (p:=⟨wc.heap.size+1,0,none⟩) (by simp) (.int .i64 pf)).set 0 (.int .i64 x.Nj)
  simpa using this
 have:=(eW.set 0 (.int .i64 pf)).far (p:=⟨wc.heap.size,0,none⟩) (by simp) (.int .i64 x.Nj);rw[HC.2.1];simpa using this)
 have t3:=nK x.kind 3 (by omega);have HJ:=J10 j5 a8 a1 b5 hs j9 e7 b7 hf he;have H3:=oH h3;clear j5 j6 a8 a1 h3 hW j9 j8 x0 x1 y1 y2 y3 y4 y6 y7 y8;gi_wp2
 gi_loopw [85] (fun s wr=>∃m:Nat,m≤x.args.length∧s=.int .i64 m∧aa All W wr∧∀(j:Nat) v,j<m→x.args[j]? =some v→iP b v i k) (fun s _=>x.args.length-(intOf s).toNat)
 ·exact⟨0,by omega,rfl,kR,fun j v hj=>by omega⟩
 obtain⟨m,hm,rfl,a6,c1⟩:=hrel;clear y0 y5;have e7:=HJ.2.2.2.2.2.2.1.kept a6 trivial;have b7:=HJ.2.2.2.2.2.2.2.1.kept a6 trivial;have hf:=HJ.2.2.2.2.2.2.2.2.1.kept a6 trivial;have he:=HJ.2.2.2.2.2.2.2.2.2.kept a6 trivial;have c2:=HJ.2.2.2.1.trans a6;have j8:=(m9.2.1.kept c2 trivial).cell 0;simp only[gc] at j8;obtain⟨x0,x1⟩:=e7.c2;have s4:=a6.size;have s5:=HJ.2.2.2.2.1;by_cases r0:m<x.args.length;·(
 obtain⟨v,hv⟩:=eG r0;have k0:=HG.1.args row j4 x j7 v (mG hv);obtain⟨vn,n2⟩:∃vn:Nat,v=vn:=⟨v.toNat,by omega⟩;rw[n2] at hv k0;obtain⟨vb,vo,vv,rfl,_,s6,rfl,_⟩:=bn (HJ.1 wr a6) hv;have e9:=Br _ gk b pl tt vn i k wr (HJ.2.1 wr a6) HG.1 HX.2.2.2.2.2.2.1 k0.2 p5;by_cases ht:iP b vn i k;·(
 rw[av ht] at e9;have Z:=J5 e9 ht hv c1 a6;clear e9 ht hv c1 a6 k0 n2 e7 b7 hf he c2;gi_wp2_with (refine⟨trivial,?_⟩;gi_at_call 75;refine(CallsIn.inRound l (callsIn_wide.2 Z.1)).mono ?_;rintro e W8 ⟨rfl,J⟩)
 go_roundw
 case rel=>
  refine⟨m+1,by omega,by simp,Z.2.2.2.2.trans J,fun j v hj n3=>?_⟩;by_cases e:j=m;·subst e;rw[Z.2.2.1] at n3;cases n3;exact Z.2.1
  exact Z.2.2.2.1 j v (by omega) n3
 case measure=>simp[intOf];omega)
 rw[au ht] at e9;have b8:uo b i k x=19:=Gt H3.out (mG hv) ht;have Z:=J3 e9 b8 a6;clear e9 ht hv c1 b8 k0 n2;gi_wp2_with (refine⟨trivial,?_⟩;gi_at_call 75;refine(CallsIn.inRound l (callsIn_wide.2 Z.1)).mono ?_;rintro e W8 ⟨rfl,J⟩;have fW:=hf.kept J trivial;have eW:=he.kept J trivial;have oW:=b7.kept J trivial;have q1:=eW.cell 0;have q2:=eW.free 0;have q3:=fW.cell 0;have q4:=fW.free 0;have q5:=oW.cell 8;simp only[gc] at q1 q3 q5;have l1:=J.size);refine⟨(((KeepsOthers.of_kept (a6.trans J)).trans (KeepsOthers.setCell _ _ _)).trans (KeepsOthers.setCell _ _ _)).from _,rfl,pre,_,rfl,HJ.2.2.1,by rw[Z.2.1];decide,?_,?_,((c2.trans J).setCell (p:=⟨wc.heap.size,0,none⟩) (.inr (by simp)) _).setCell (p:=⟨wc.heap.size+1,0,none⟩) (.inr (by simp)) _,by simp;omega,e8⟩
 ·have:=(fW.set 0 (.int .i64 x.Nj)).far (p:=⟨wc.heap.size+1,0,none⟩) (by simp) (.int .i64 19)
  simpa using this
 have:=(eW.far (p:=⟨wc.heap.size,0,none⟩) (by simp) (.int .i64 x.Nj)).set 0 (.int .i64 19);rw[Z.2.1];simpa using this)
 obtain rfl:m=x.args.length:=by omega
 have b8:uo b i k x=0:=Kq H3.out fun v hv=>by obtain⟨j,hj⟩:=cY.1 hv;exact c1 j v (lS.1 hj).1 hj
 have Z:=J5 b8 a6 hf he c2;clear b8 c1 a6 hf he c2;gi_wp2;refine⟨(KeepsOthers.of_kept Z.2.1).from _,fun h=>h.kept Z.2.1.all,Z.2.2.1,Z.2.2.2.1,Z.2.2.2.2,by omega,e8,fun u hu=>?_⟩;rcases HJ.2.2.2.2.2.1 u hu with h|rfl;·exact HJ.2.2.1 u h
 exact Z.1)
 case done=>(rintro D xs W hD hS ⟨hf,he,b5,hs,e8,a1⟩ hK;rw[hS] at a1;have HZ:=J3 (show oh b=(0,0) by rw[HN.out];exact CW a1) (d9.out.trans b5) hK;have qf:=hf.cell 0;have qe:=he.cell 0;simp only[gc] at qf qe;clear hf he b5 a1 hS hK;go_wp2;go_quiet (fail);go_wp2;rw[Exit.noGoto_ret];refine⟨by simp,.inl ⟨_,_,rfl,run_takeDeferred HZ.2.2,?_⟩⟩;exact⟨.tuple #[.int .i64 0,.int .i64 0],by simp[results,Tryz.f48,go_sem],.of HZ.1 (aa.put (HZ.2.1.drewN _) (.inr (by have:=d9.out.size;have:=HL.2.2.2;omega)) _)⟩)
 rintro D c pre W hD hS ⟨rfl,r4,x,rfl,a1,hx,hf,he,b5,hs,e8⟩ hK;rw[ic] at hS;have HZ:=J3 (show oh b=(x.1.2.2.Nj,uo b x.1.1 x.1.2.1 x.1.2.2) by rw[HN.out];exact Ah hS a1 hx) (d9.out.trans b5) hK;obtain⟨⟨i,k,x⟩,row,b4,s7⟩:=x;dsimp only at hf he HZ;obtain⟨z,hz⟩:=eR (uo b i k x);rw[hz] at he HZ;have qf:=hf.cell 0;have qe:=he.cell 0;simp only[gc] at qf qe;clear hf he b5 a1 hS hK hx hz;rw[wpIn_wide];go_wp2;go_quiet (fail);go_wp2;rw[Exit.noGoto_ret];refine⟨by simp,.inl ⟨_,_,rfl,run_takeDeferred HZ.2.2,?_⟩⟩;exact⟨.tuple #[.int .i64 x.Nj,.int .i64 z],by simp[results,Tryz.f48,go_sem],.of HZ.1 (aa.put (HZ.2.1.drewN _) (.inr (by have:=d9.out.size;have:=HL.2.2.2;omega)) _)⟩
end
end Go.Proofs.YtncdbjponknakaaGreatDoor
