/- Part 25 of the proof of CallsTo (its last part says what is proved). No condition. -/
import Derived.Deep.RegionHeld3
import Derived.Test.YtceloincoomjeaaGreatDoorK23
namespace Go.Proofs.YtceloincoomjeaaGreatDoor
set_option maxRecDepth 100000
set_option maxHeartbeats 8000000
open Go.RowKit Go.Proofs.Tryz
section
open Go.RowKit Go.Shelf
attribute [local go_sem] Oper.semAt_some
theorem Bp (S:Nat→Prop)(R:Option Addr)(d1:Nat)(b:aw)(k Y:Nat)(w:World)(Z:bW S w (.slice R b.Ng.length d1) b.Ng)(j:al w Y 48 #[.int .i64 b.params,.int .i64 b.vars,.slice R b.Ng.length d1])(hG:gY b)(hk:k<b.Ng.length):
 Calls prog 50 #[.int .i64 k,.pointer (some ⟨Y,0,none⟩)] w fun e w'=>e=.returned (.int .i64 (fQ b k))∧w=w':=by
 obtain⟨l,I⟩:=eG hk;have h1:=(hG.some_ l (mG I)).1;obtain⟨x,J⟩:∃x,l[0]? =some x:=⟨_,lG (by omega)⟩;have hp:=yQ I J;obtain⟨rb,ro,rv,rfl,_,a1,o⟩:=bn Z I;obtain⟨LA,lc,rfl,l1,l2,l3,_⟩:=id o;obtain⟨xb,xo,a6,rfl,_,_,C,xa,xf,rfl,_⟩:=aZ o J;have z8:=C 8 _ rfl;rw[Nat.zero_mul,dj] at z8;have b2:=j.cell 2;simp only[gc] at b2;have HP:=oH hp;unfold maxLen at l2;clear Z j hG I J hp o C;go_enter func50,ntmps50;go_wp2;go_ret;exact⟨by rw[HP.out];rfl,rfl⟩
theorem sK {S:Nat→Prop}{w:World}{v:Value}{l:List Int}{g:Nat}{t:TypeId}{p:Option Addr}(C:al w g t #[.pointer p])(h:aK S w v l):aK (fun k=>S k∧k≠g) w v l:=by obtain⟨a,cap,I,J,R,Y,h⟩:=h;refine⟨a,cap,I,J,R,Y,fun i x Z=>?_⟩;obtain⟨b,off,c,e,hs,j,rfl,hw⟩:=h i x Z;refine⟨b,off,_,e,⟨hs,fun o=>?_⟩,j,rfl,hw⟩;subst o;rw[C.cell] at j;generalize off+i=m at j;rcases m with _|n<;>simp at j
theorem AZ {S:Nat→Prop}{w:World}{v:Value}{l:List (List Int)}{g:Nat}{t:TypeId}{p:Option Addr}(C:al w g t #[.pointer p])(h:Rows S w v l):Rows (fun k=>S k∧k≠g) w v l:=by obtain⟨a,cap,J,R,Y,Z,h⟩:=h;refine⟨a,cap,J,R,Y,Z,fun i x hx=>?_⟩;obtain⟨b,off,c,e,hs,j,I⟩:=h i x hx;refine⟨b,off,c,e,⟨hs,fun o=>?_⟩,j,sK C I⟩;subst o;obtain⟨_,_,rfl,_⟩:=I;rw[C.cell] at j;generalize off+i=m at j;rcases m with _|n<;>simp at j
def EE (b:aw)(lo:Nat)(v:Value)(wn:World):Prop:=∃A c,v=.tuple #[.slice A (jp b).length c,.bool true]∧ev (fun k=>lo≤k) wn (.slice A (jp b).length c) (jp b)
theorem EE.keep {b:aw}{lo:Nat}{v:Value}{wn j:World}(l:aa All wn j)(h:EE b lo v wn):EE b lo v j:=by obtain⟨A,c,e,h⟩:=h;exact⟨A,c,e,bu.keep l.all h⟩
theorem xL {S:Nat→Prop}{w:World}{v:Value}{l:List (Int×Int)}(h:ev S w v l):ev (fun k=>k<w.heap.size) w v l:=by obtain⟨a,cap,o,C,I,J,h⟩:=h;refine⟨a,cap,o,C,I,J,fun i x R=>?_⟩;obtain⟨b,off,cs,e,hs,Y,j,rfl,Z⟩:=h i x R;exact⟨b,off,_,e,jy w _ (j 0 _ rfl),Y,j,rfl,Z⟩
def EH (b:aw)(w6:World)(sz:Nat)(pre:List (EK b.Ng))(W:World):Prop:=
 al W w6.heap.size 3 #[.int .i64 0]∧al W (w6.heap.size+1) 33 #[.int .i64 0]∧aa All w6 W∧sz≤W.heap.size∧w6.heap.size+2≤sz∧∀u∈pre.map Subtype.val,uo b u.1 u.2.1 u.2.2=0
def JZ (b:aw)(w6:World)(sz:Nat)(pre:List (EK b.Ng))(W:World):Prop:=
 ∃pre' x,pre=pre'++[x]∧(∀u∈pre'.map Subtype.val,uo b u.1 u.2.1 u.2.2=0)∧uo b x.1.1 x.1.2.1 x.1.2.2≠0∧al W w6.heap.size 3 #[.int .i64 x.1.2.2.Nj]∧al W (w6.heap.size+1) 33 #[.int .i64 (uo b x.1.1 x.1.2.1 x.1.2.2)]∧aa All w6 W∧sz≤W.heap.size∧w6.heap.size+2≤sz
theorem vx {sz:Nat}{W j:World}{row:Option Nat}(l:W.grownBy j row)(C:∀r,row=some r→sz≤r∧∃o:Obj,W.heap[r]? =some o∧o.isCells=false):aa (fun k=>k<sz) W j:=
 (aa.refl _ W).grown l fun k I=>.inl fun h=>by have:=(C k I).1;have h:k<sz:=h;omega
theorem CY {b:aw}{j:World}{sz:Nat}:OwnFrom sz (EH b j sz):=by rintro s W W' row ⟨o,C,I,J,R,Y⟩ l Z;have k:=vx l Z;exact⟨o.kept k (by omega),C.kept k (by omega),am (I.all.trans (k.mono fun g (l:g<j.heap.size)=>by omega)),fR J k.size,R,Y⟩
theorem CX {b:aw}{l:World}{sz:Nat}:OwnFrom sz (JZ b l sz):=by rintro s W W' row ⟨j,x,C,I,J,R,Y,Z,h7,h8⟩ o hr;have k:=vx o hr;exact⟨j,x,C,I,J,R.kept k (by omega),Y.kept k (by omega),am (Z.all.trans (k.mono fun g (o:g<l.heap.size)=>by omega)),fR h7 k.size,h8⟩
def LY (n:Nat)(v:Value):Prop:=∃A c,v=.slice A n c
def Ka (v:Value):Prop:=∃g,v=.pointer (some ⟨g,0,none⟩)
def rW (b:aw)(v:Value)(wn:World):Prop:=∃tt pl,aK All wn v (lV b.Ng.length tt)∧mz (bM b) tt pl
def rX (b:aw)(v:Value)(wn:World):Prop:=Rows All wn v (gF (bM b))
def LX (b:aw)(bv:Value)(v:Value):Prop:=∃A3 c3 A4 c4,v=.agg #[.int .i64 b.params,.int .i64 b.vars,bv,.slice A3 b.Ng.length c3,.slice A4 b.Ng.length c4,.slice none 0 0]
def KH (b:aw)(bv:Value)(v:Value)(wn:World):Prop:=∃A3 c3 A4 c4,v=.agg #[.int .i64 b.params,.int .i64 b.vars,bv,.slice A3 b.Ng.length c3,.slice A4 b.Ng.length c4,.slice none 0 0]∧rW b (.slice A3 b.Ng.length c3) wn∧rX b (.slice A4 b.Ng.length c4) wn
def ER (b:aw)(bv:Value)(lo:Nat)(v:Value)(wn:World):Prop:=∃g A3 c3 A4 c4,v=.pointer (some ⟨g,0,none⟩)∧lo≤g∧al wn g 101 #[.int .i64 b.params,.int .i64 b.vars,bv,.slice A3 b.Ng.length c3,.slice A4 b.Ng.length c4,.slice none 0 0]∧(∃tt pl,aK (fun k=>k<g) wn (.slice A3 b.Ng.length c3) (lV b.Ng.length tt)∧mz (bM b) tt pl)∧Rows (fun k=>k<g) wn (.slice A4 b.Ng.length c4) (gF (bM b))
def ES (lo:Nat)(v:Value)(wn:World):Prop:=∃g,v=.pointer (some ⟨g,0,none⟩)∧lo≤g∧al wn g 97 #[.pointer none]
def xI (b:aw)(bv:Value)(lo:Nat)(t:Tmp)(v:Value)(wn:World):Prop:=if t=44 then rW b v wn else if t=46 then rX b v wn else if t=47 then KH b bv v wn else if t=48 then ER b bv lo v wn else ES lo v wn
section
variable {b:aw} {bv:Value} {lo:Nat} {wn wq:World} (hkq:aa All wn wq) {v:Value}
include hkq
theorem rW.keep (h:rW b v wn):rW b v wq:=by obtain⟨j,pl,l,o⟩:=h;exact⟨j,pl,ah.keep hkq l,o⟩
theorem rX.keep (h:rX b v wn):rX b v wq:=aq.keep hkq h
theorem xI.keep (t:Tmp)(h:xI b bv lo t v wn):xI b bv lo t v wq:=by
 unfold xI at h⊢;by_cases Y:t=44;·rw[ap Y] at h⊢;exact h.keep hkq
 rw[ae Y] at h⊢;by_cases Z:t=46;·rw[ap Z] at h⊢;exact h.keep hkq
 rw[ae Z] at h⊢;by_cases h3:t=47;·rw[ap h3] at h⊢;obtain⟨j,l,o,C,e,g1,g2⟩:=h;exact⟨j,l,o,C,e,g1.keep hkq,g2.keep hkq⟩
 rw[ae h3] at h⊢;by_cases h4:t=48;·rw[ap h4] at h⊢;obtain⟨g,j,l,o,C,e,I,J,⟨tt,pl,g1,R⟩,g2⟩:=h;exact⟨g,j,l,o,C,e,I,J.kept hkq trivial,⟨tt,pl,ah.keep hkq.all g1,R⟩,aq.keep hkq.all g2⟩
 rw[ae h4] at h⊢;obtain⟨g,e,I,J⟩:=h;exact⟨g,e,I,J.kept hkq trivial⟩
end
theorem Ef (S:Nat→Prop)(bv:Value)(b:aw)(w:World)(hb:bW S w bv b.Ng)(hG:gY b)(k0:b.Ng.flatten.length≤4096):
 Calls prog 36 #[.agg #[.int .i64 b.params,.int .i64 b.vars,bv]] w (qk b w):=by
 have l1:=vJ hb;have l2:=bg.la l1;obtain⟨B1,d1,rfl,m5,m6,m7,_⟩:=hb;obtain⟨A,F,hI⟩:=vw l1;have p6:=hG.blk.2;have r4:=hG.blk.1;have i2:=cS b;have n3:=gd hG;obtain⟨W0,i4⟩:=eQ (w.alloc (.cells #[.int .i64 b.params,.int .i64 b.vars,.slice B1 b.Ng.length d1] 48));have l3:aa All w W0:=by rw[i4];exact kR.alloc _
 have bB:al W0 w.heap.size 48 #[.int .i64 b.params,.int .i64 b.vars,.slice B1 b.Ng.length d1]:=by rw[i4];exact ac rfl
 obtain⟨b0,b1,b2⟩:=bB.c3;have n4:=Je _ (.slice B1 b.Ng.length d1) b W0 (l2 W0 l3) hG;have HG:=J4 hG hI k0 n3;have HW:=J5 i4 l3 bB l2 n4;have r5:∀(fn:Fn) (first cap:Array Value) (w:World),(Instr.makeFunc fn first cap).run prog w=.ok (.func fn first cap) w:=fun _ _ _ _=>rfl;clear hG hI k0 i4 l3 bB l2 n4 l1 m5 m6 m7 n3;refine(callsIn_wide (n:=8)).1 ?_;refine callsIn_of_wp_marks func36 rfl trivial ?_ rfl;simp only[ntmps36,List.size_toArray,kI,List.length_nil,Nat.reduceAdd,Nat.reduceSub,Array.replicate_succ,Array.replicate_zero,List.push_toArray,List.append_toArray,mF,List.cons_append];rw[wpIn_wide];go_wp2
 go_step3
 go_upto_region 1 with fail;rw[←HW.1];go_wp2_with fail;refine HW.2.2.2.2.mono ?_;rintro e w1 ⟨u,rfl,e9,l4⟩;have n5:=jh e9;have i7:=aq.la n5;obtain⟨TA,tc,rfl,t1,t2,t3,_⟩:=e9;rw[i2] at t1 t3 i7⊢;unfold maxLen at t2;have c2:=yC _ _ (bM b) w1 (i7 w1 kR) HG.2.2.2;rw[i2] at c2;have HT:=J5 i7 i2 c2 l4 (HW.2.1.trans l4);clear i7 i2 c2 l4 n5 b0 b1 b2;go_wp2_with fail;refine HT.2.2.1.mono ?_;rintro e w2 ⟨rfl,l5⟩;have d9:=J2 l5 (HT.2.2.2.1.trans l5);clear l5;have h4:=HW.2.2.1.kept d9.2 trivial;obtain⟨b0,b1,b2⟩:=h4.c3;clear h4;have n6:=fun wn (C:aa All W0 wn) k (p7:k<b.Ng.length)=>Bp _ B1 d1 b k w.heap.size wn (HW.2.2.2.1 wn (HW.2.1.trans C)) (HW.2.2.1.kept C trivial) HG.1 p7;have l6:=oH n6;clear n6;rcases jX (kO (bM b)) b.Ng.length with ⟨h0,Z⟩|⟨k,h0,C,_⟩
 case inr=>(
 rw[h0];have tk:decide ((0:Int)≤(k:Int))=true:=by simp
 have tm:max (k:Int) 0=(k:Int):=by omega
 have HN:=J2 (yn h0) (l6.out w2 d9.2 k C);clear h0;go_wp2_with fail;refine HN.2.mono ?_;rintro e w3 ⟨rfl,rfl⟩;go_wp2_with fail;rw[Exit.noGoto_ret];exact⟨.tuple #[.int .i64 (fQ b k),.int .i64 16],by simp[results,Tryz.f36,go_sem],.of HN.1 (HW.2.1.trans d9.2)⟩)
 rw[h0];have H0:=J2 h0 Z;have l7:=Ei _ _ (bM b) w2 (HT.1 w2 d9.1) HG.2.2.2;rw[HT.2.1] at l7;have HS:=oH l7;clear h0 l7 Z;go_wp2_with fail;refine HS.out.mono ?_;rintro e w3 ⟨rfl,l8⟩;have R:=J2 (d9.1.trans l8) (d9.2.trans l8);clear l8 b0 b1 b2;have h4:=HW.2.2.1.kept R.2 trivial;obtain⟨b0,b1,b2⟩:=h4.c3;clear h4;rcases jX (iN (bM b)) b.Ng.length with ⟨h0,_⟩|⟨k,h0,C,_⟩
 case inr=>(
 rw[h0];have tk:decide ((0:Int)≤(k:Int))=true:=by simp
 have tm:max (k:Int) 0=(k:Int):=by omega
 have HN:=J2 (ve H0.1 h0) (l6.out w3 R.2 k C);clear h0;go_wp2_with fail;refine HN.2.mono ?_;rintro e w4 ⟨rfl,rfl⟩;go_wp2_with fail;rw[Exit.noGoto_ret];exact⟨.tuple #[.int .i64 (fQ b k),.int .i64 17],by simp[results,Tryz.f36,go_sem],.of HN.1 (HW.2.1.trans R.2)⟩)
 rw[h0];have H1:=oH h0;clear h0;have hL:∀k,k<(bM b).length→aQ (bM b) 0 k:=fun k C=>Classical.byContradiction fun h=>H0.2 k (by rw[←HT.2.1];exact C) ⟨C,h⟩;have h5:=fun wn (C:aa All w1 wn)=>Hu _ _ (bM b) wn (HT.1 wn C) HG.2.2.2 hL;have h6:=fun wn (C:aa All w1 wn)=>sd _ _ (bM b) wn (HT.1 wn C) HG.2.2.2;have HR:=J2 h5 h6;clear h5 h6 hL;go_wp2_with fail;have HF:=oH (show∀wn,aa All w3 wn→wn.cell? ⟨w.heap.size,0,none⟩=some (.int .i64 b.params)∧wn.cell? ⟨w.heap.size,1,none⟩=some (.int .i64 b.vars)∧wn.cell? ⟨w.heap.size,2,none⟩=some (.slice B1 b.Ng.length d1) from fun wn C=>⟨(HW.2.2.1.kept (R.2.trans C) trivial).cell 0,(HW.2.2.1.kept (R.2.trans C) trivial).cell 1,(HW.2.2.1.kept (R.2.trans C) trivial).cell 2⟩);refine R1 8 w3 [44,46,47,48,11] (xI b (.slice B1 b.Ng.length d1) w3.heap.size) (fun i=>if i=2 then some (LY b.Ng.length) else if i=4 then some (LY b.Ng.length) else if i=5 then some (LX b (.slice B1 b.Ng.length d1)) else if i=6 then some Ka else if i=7 then some Ka else none) ?_;refine O4 HF.out ?_;refine O0 ?_;refine O6 (fun wn C hp=>?_) (fun wn C hp=>?_) ?_;·go_simp;refine(HR.1 wn (R.1.trans C)).mono ?_;rintro e wq ⟨u,tt,pl,rfl,hkq,a6,b5⟩;rw[HT.2.1] at a6;have J:aK All wq u (lV b.Ng.length tt):=ah.wide (fun _ _=>trivial) a6;obtain⟨A,c,eu,_⟩:=id J;rw[nW] at eu;subst eu;exact .inl ⟨rfl,_,rfl,⟨_,_,rfl⟩,C.trans hkq,fun t _ v h=>h.keep hkq t,fun d hd _=>by cases hd;exact⟨tt,pl,J,b5⟩⟩
 ·obtain⟨e,wq,_,⟨u,tt,pl,rfl,hkq,a6,b5⟩,_⟩:=(HR.1 wn (R.1.trans C)) [];rw[HT.2.1] at a6;have J:aK All wq u (lV b.Ng.length tt):=ah.wide (fun _ _=>trivial) a6;obtain⟨A,c,eu,_⟩:=id J;rw[nW] at eu;subst eu;exact⟨_,wq,⟨_,_,rfl⟩,C.trans hkq,fun t _ v h=>h.keep hkq t,fun d hd _=>by cases hd;exact⟨tt,pl,J,b5⟩⟩
 rintro v ⟨A3,c3,rfl⟩;simp only[PS];refine O0 ?_;refine O6 (fun wn C hp=>?_) (fun wn C hp=>?_) ?_;·go_simp;refine(HR.2 wn (R.1.trans C)).mono ?_;rintro e wq ⟨u,rfl,hkq,a6⟩;have J:Rows All wq u (gF (bM b)):=aq.wide (fun _ _=>trivial) a6;obtain⟨A,c,eu,_⟩:=id J;rw[fK,HT.2.1] at eu;subst eu;exact .inl ⟨rfl,_,rfl,⟨_,_,rfl⟩,C.trans hkq,fun t _ v h=>h.keep hkq t,fun d hd _=>by cases hd;exact J⟩
 ·obtain⟨e,wq,_,⟨u,rfl,hkq,a6⟩,_⟩:=(HR.2 wn (R.1.trans C)) [];have J:Rows All wq u (gF (bM b)):=aq.wide (fun _ _=>trivial) a6;obtain⟨A,c,eu,_⟩:=id J;rw[fK,HT.2.1] at eu;subst eu;exact⟨_,wq,⟨_,_,rfl⟩,C.trans hkq,fun t _ v h=>h.keep hkq t,fun d hd _=>by cases hd;exact J⟩
 rintro v ⟨A4,c4,rfl⟩;simp only[PS];refine O6 (fun wn C hp=>?_) (fun wn C hp=>?_) ?_
 ·have c8:=hp 44 (by decide) (by decide) _ rfl
  have c9:=hp 46 (by decide) (by decide) _ rfl;go_simp;exact⟨rfl,⟨_,_,_,_,rfl⟩,C,fun t _ v h=>h,fun d hd _=>by cases hd;exact⟨_,_,_,_,rfl,c8,c9⟩⟩
 ·have c8:=hp 44 (by decide) (by decide) _ rfl
  have c9:=hp 46 (by decide) (by decide) _ rfl;exact⟨.agg #[.int .i64 b.params,.int .i64 b.vars,.slice B1 b.Ng.length d1,.slice A3 b.Ng.length c3,.slice A4 b.Ng.length c4,.slice none 0 0],wn,⟨_,_,_,_,rfl⟩,C,fun t _ v h=>h,fun d hd _=>by cases hd;exact⟨_,_,_,_,rfl,c8,c9⟩⟩
 rintro v ⟨A5,c5,A6,c6,rfl⟩;simp only[PS];refine O6 (fun wn C hp=>?_) (fun wn C hp=>?_) ?_;·have l9:=hp 47 (by decide) (by decide) _ rfl;obtain⟨_,_,_,_,e,⟨tt,pl,c8,b5⟩,c9⟩:=l9;cases e;go_simp;exact⟨rfl,⟨_,rfl⟩,C.alloc _,fun t _ v h=>h.keep (kR.alloc _) t,fun d hd _=>by cases hd;exact⟨_,_,_,_,_,rfl,C.size,al.new _ _ _,⟨tt,pl,ah.keep (kR.alloc _) (kV c8),b5⟩,aq.keep (kR.alloc _) (jh c9)⟩⟩
 ·have l9:=hp 47 (by decide) (by decide) _ rfl
  obtain⟨_,_,_,_,e,⟨tt,pl,c8,b5⟩,c9⟩:=l9;cases e;exact⟨.pointer (some ⟨wn.heap.size,0,none⟩),wn.alloc (.cells #[.int .i64 b.params,.int .i64 b.vars,.slice B1 b.Ng.length d1,.slice A5 b.Ng.length c5,.slice A6 b.Ng.length c6,.slice none 0 0] 101),⟨_,rfl⟩,C.alloc _,fun t _ v h=>h.keep (kR.alloc _) t,fun d hd _=>by cases hd;exact⟨_,_,_,_,_,rfl,C.size,al.new _ _ _,⟨tt,pl,ah.keep (kR.alloc _) (kV c8),b5⟩,aq.keep (kR.alloc _) (jh c9)⟩⟩
 rintro v ⟨gk,rfl⟩;simp only[PS];refine O6 (fun wn C hp=>?_) (fun wn C hp=>?_) ?_
 ·go_simp
  exact⟨rfl,⟨_,rfl⟩,C.alloc _,fun t _ v h=>h.keep (kR.alloc _) t,fun d hd _=>by cases hd;exact⟨_,rfl,C.size,al.new _ _ _⟩⟩
 ·exact⟨.pointer (some ⟨wn.heap.size,0,none⟩),wn.alloc (.cells #[.pointer none] 97),⟨_,rfl⟩,C.alloc _,fun t _ v h=>h.keep (kR.alloc _) t,fun d hd _=>by cases hd;exact⟨_,rfl,C.size,al.new _ _ _⟩⟩
 rintro v ⟨gp,rfl⟩;simp only[PS];refine aG fun wt n7 hF=>?_;have n8:=hF 48 (by decide) _ rfl;have n9:=hF 11 (by decide) _ rfl;obtain⟨_,A5,c5,A6,c6,e1,o0,j0,⟨tt,pl,a6,b5⟩,o1⟩:ER b (.slice B1 b.Ng.length d1) w3.heap.size _ wt:=n8;cases e1;obtain⟨_,e2,o2,b8⟩:ES w3.heap.size _ wt:=n9;cases e2;have m0:gk≠gp:=j0.ne b8 (by decide);have J:=sK b8 a6;have k1:=AZ b8 o1;have p0:=b8.cell 0;have f0:=b8.free 0;simp only[gc] at p0;obtain⟨W4,j1⟩:=eQ (wt.setCell ⟨gp,0,none⟩ (.pointer (some ⟨gk,0,none⟩)));have h7:aa (fun k=>k≠gp) wt W4:=by rw[j1];exact kR.setCell (.inl fun h=>h rfl) _
 have p8:=j0.lt;have r6:=b8.lt;have k2:aa All w3 W4:=am (n7.all.trans (h7.mono fun k (C:k<w3.heap.size)=>by omega));have m1:al W4 gp 97 #[.pointer (some ⟨gk,0,none⟩)]:=by rw[j1];exact b8.set 0 _
 have m2:=j0.kept h7 m0;have k3:=ah.keep (h7.mono fun k (C:k<gk∧k≠gp)=>C.2) J;have h8:=aq.keep (h7.mono fun k (C:k<gk∧k≠gp)=>C.2) k1;obtain⟨rb,ro,rv,rfl,p9,m3,o3⟩:=bn h8 (mX (ll:=bM b) (k:=0) (by rw[HT.2.1];omega));rw[dj] at m3;obtain⟨RA,rc,rfl,r1,r2,r3,_⟩:=id o3;unfold maxLen at r2;have p0:=m1.cell 0;have k4:=m2.cell 4;simp only[gc] at p0 k4;have HX:=J9 j1 k2 m1 m2 k3 h8 b5 m0 o0;clear hF o0 o2 j0 a6 o1 b8 J k1 h7 k2 m1 m2 k3 h8 b5 j1 n7 o3 p9;simp only[dK];go_upto_region 10 with fail;rw[←HX.1];obtain⟨L,hL⟩:=eR (di (bM b) (bM b).length 0);rw[hL] at m3 r1 r3;by_cases q0:0<L.length;·obtain⟨y,hy⟩:∃y,y∈di (bM b) (bM b).length 0:=⟨L[0],by rw[hL];exact eL q0⟩;obtain⟨i,_,_,hi⟩:=jc.1 hy;have k5:Calls prog 50 #[.int .i64 0,.pointer (some ⟨w.heap.size,0,none⟩)] W4 fun e w'=>e=.returned (.int .i64 (fQ b 0))∧W4=w':=l6.out W4 (R.2.trans HX.2.1) 0 (by omega);have HN:=J2 (yp H0.1 H1.out hi) k5;clear hL hy hi k5;go_wp2_with fail;refine HN.2.mono ?_;rintro e w5 ⟨rfl,hw⟩;have q6:=hw.symm;subst q6;go_wp2_with fail;rw[Exit.noGoto_ret];exact⟨.tuple #[.int .i64 (fQ b 0),.int .i64 18],by simp[results,Tryz.f36,go_sem],.of HN.1 ((HW.2.1.trans R.2).trans HX.2.1)⟩
 have HN:=oH (BU H0.1 H1.out fun i hi=>by have hm:(i:Int)∈di (bM b) (bM b).length 0:=jc.2 ⟨i,rfl,lq hi,hi⟩;rw[hL,show L=[] from oD (by omega)] at hm;cases hm);clear hL;have h9:=HW.2.2.1.kept (R.2.trans HX.2.1) trivial;have i0:=fun wn (C:aa All W4 wn)=>Ed _ (.slice B1 b.Ng.length d1) b wn (HW.2.2.2.1 wn ((HW.2.1.trans R.2).trans (HX.2.1.trans C))) HG.1 HG.2.2.1;have HD:=oH i0;have o4:=oH (show∀wn,aa All W4 wn→wn.cell? ⟨w.heap.size,0,none⟩=some (.int .i64 b.params)∧wn.cell? ⟨w.heap.size,1,none⟩=some (.int .i64 b.vars)∧wn.cell? ⟨w.heap.size,2,none⟩=some (.slice B1 b.Ng.length d1)∧wn.cell? ⟨gp,0,none⟩=some (.pointer (some ⟨gk,0,none⟩)) from fun wn C=>⟨(h9.kept C trivial).cell 0,(h9.kept C trivial).cell 1,(h9.kept C trivial).cell 2,(HX.2.2.1.kept C trivial).cell 0⟩);have o5:=oH h9;clear i0 h9;have ek:=o4.out W4 kR;obtain⟨b0,b1,b2,b3⟩:=ek;have fk:=HX.2.2.2.1.free 5;have ck:=HX.2.2.2.1.cell 5;simp only[gc] at ck;clear p0;go_upto_region 12 with fail;clear k4 m3;go_cut [] from 59 to 66 (fun wx=>∃A c,aa (fun k=>k≠gk) W4 wx∧al wx gk 101 #[.int .i64 b.params,.int .i64 b.vars,.slice B1 b.Ng.length d1,.slice A5 b.Ng.length c5,.slice (some ⟨rb,ro,none⟩) b.Ng.length c6,.slice A (jp b).length c]∧ev (fun k=>W4.heap.size≤k) wx (.slice A (jp b).length c) (jp b))
 case first=>(
 refine wp_region_noPanic ?_;go_region_with (go_at_call 55;refine(HD.out _ (kR.drew)).mono ?_;rintro e wq ⟨u,rfl,hkq,hu⟩;obtain⟨A,c,eu,_⟩:=id hu;subst eu;have b9:=(aa.refl All W4).drew.trans hkq;obtain⟨g0,g1,g2,g3⟩:=o4.out wq b9;have r7:=(HX.2.2.2.1.kept b9 trivial).free 5;have q7:=(HX.2.2.2.1.kept b9 trivial).cell 5;simp only[gc] at q7)
 all_goals
  refine NoPanic.normal ?_;go_wp2_with fail;go_meet;have e0:=(HX.2.2.2.1.kept b9 trivial).set 5 (.slice A (jp b).length c);simp only[ga] at e0;exact⟨A,c,b9.all.setCell (p:=⟨gk,5,none⟩) (.inl fun h=>h rfl) _,e0,bu.keep ((aa.refl (fun k=>W4.heap.size≤k) wq).setCell (p:=⟨gk,5,none⟩) (.inl (by have:=HX.2.2.2.1.lt;show¬(W4.heap.size≤gk);omega)) _) hu⟩)
 obtain⟨A7,c7,d7,e0,m4⟩:=hcut;have p8:=HX.2.2.2.1.lt;have k6:(jp b).length=b.vars.toNat:=by simp[jp]
 rw[k6] at e0 m4;have q8:=d7.size;have a7:rJ (fun k=>k<wc.heap.size) wc gk b tt:=⟨_,A5,c5,_,_,A7,c7,e0,ah.wide (fun k C=>by have:k<gk∧k≠gp:=C;omega) (ah.keep (d7.mono fun k (C:k<gk∧k≠gp)=>by show k≠gk;omega) HX.2.2.2.2.1),aq.wide (fun k C=>by have:k<gk∧k≠gp:=C;omega) (aq.keep (d7.mono fun k (C:k<gk∧k≠gp)=>by show k≠gk;omega) HX.2.2.2.2.2.1),xL m4⟩;have k7:gp≠gk:=fun e=>HX.2.2.2.2.2.2.2.1 e.symm;have k8:=HX.2.2.1.kept d7 k7;have i1:=o5.out.kept d7 (by have h1:=HW.2.2.1.lt;have h2:=R.2.size;have h3:=HX.2.2.2.2.2.2.2.2;show w.heap.size≠gk;omega);have m8:=J3 a7 k8 i1;have k9:aa All w wc:=am (((HW.2.1.trans R.2).trans HX.2.1).all.trans (d7.mono fun k (C:k<w.heap.size)=>by have h1:=HW.2.2.1.lt;have h2:=R.2.size;have h3:=HX.2.2.2.2.2.2.2.2;show k≠gk;omega));have d8:=oH k9;obtain⟨W7,e3⟩:=eQ ((wc.alloc (.cells #[.int .i64 0] 3)).alloc (.cells #[.int .i64 0] 33));have m9:aa All wc W7:=by rw[e3];exact(kR.alloc _).alloc _
 have o6:al W7 wc.heap.size 3 #[.int .i64 0]:=by rw[e3];exact(al.new _ _ _).alloc _
 have o7:al W7 (wc.heap.size+1) 33 #[.int .i64 0]:=by rw[e3];exact ac (by simp)
 have o8:W7.heap.size=wc.heap.size+2:=by rw[e3];simp
 have o9:=i1.kept m9 trivial;obtain⟨b0,b1,b2⟩:=o9.c3;have e4:=J5 e3 m9 o6 o7 o8;clear e3 m9 o6 o7 o8 o9 a7 k8 i1 d7 e0 m4 k9 q8 k6 k7 fk ck b3;go_wp2_with fail
 go_step3
 rw[←e4.1];go_wp2_with fail;refine(zk _ _ _ _ _ _).mono ?_;rintro e w' ⟨rfl,rfl⟩;obtain⟨wl,j2⟩:=eQ (W7.alloc (.cells #[.int .i64 b.params,.int .i64 b.vars,.slice B1 b.Ng.length d1] 48));have e5:aa All W7 wl:=by rw[j2];exact kR.alloc _
 have p1:al wl W7.heap.size 48 #[.int .i64 b.params,.int .i64 b.vars,.slice B1 b.Ng.length d1]:=by rw[j2];exact ac rfl
 have p2:iJ (fun g=>g<w.heap.size) w wl:=(iJ.refl _ _).kept ((d8.out.trans e4.2.1).trans e5).all;have n0:wc.heap.size+2≤wl.heap.size:=by have:=e5.size;have:=e4.2.2.2.2;omega
 have p3:EH b wc wl.heap.size [] wl:=⟨e4.2.2.1.kept e5 trivial,e4.2.2.2.1.kept e5 trivial,e4.2.1.trans e5,cf _,n0,fun u hu=>by cases hu⟩;rw[←j2];have HL:=J4 p1 p2 p3 n0;clear j2 e5 p1 p2 p3 n0 b0 b1 b2;go_wp2_with fail
 refine wpIn_wide.1 (lW (F:=Fence.wide) (n:=8) rfl (by omega) (gf:=85) (lb:=#[.pointer (some ⟨W7.heap.size,0,none⟩)]) rfl trivial (enters_of func85 (by kernel_rfl) rfl)
  (tM 7 (by omega) (fun g=>g<w.heap.size) w b.params b.vars B1 d1 b.Ng A F HG.2.1 p6 _ wl HL.2.1 HL.1) BY (BX _) (fun W o h=>h.kept (kR.alloc _)) (Below.refl _ _) (fun _=>rfl)
  (EH b wc wl.heap.size) (fun c pre W=>c=.exit 0∧JZ b wc wl.heap.size pre W) CY (fun c=>OwnFrom.and (ownFrom_pure _ _) CX) (fun pre W h=>h.2.2.2.1) HL.2.2.1
  14 15 107 52 (fun x=>#[.int .i64 (x.1.1:Nat),.int .i64 (x.1.2.1:Nat)]) (fun x=>#[.int .u8 x.1.2.2.kind,.int .u8 x.1.2.2.op,.int .i64 x.1.2.2.dst,.int .i64 x.1.2.2.ref,.int .i64 x.1.2.2.Ni,A x.1.1 x.1.2.1,F x.1.1 x.1.2.1,.int .i64 x.1.2.2.num,.int .i64 x.1.2.2.Nj]) ?assign ?body ?done ?stop)
 case assign=>(intro l x W K hK;obtain⟨⟨i,k,x⟩,row,a8,hx⟩:=x;obtain⟨⟨aA,cA,eA,_⟩,⟨aF,cF,eF,_⟩,_⟩:=HG.2.1.ints i row a8 k x hx;dsimp only at hK⊢;rw[eA,eF] at hK⊢;simp only[List.zip_toArray,List.zip_cons_cons,List.zip_nil_right,List.foldl_toArray',List.size_toArray,kI,List.length_nil,List.foldl_cons,List.foldl_nil,ga] at hK;gi_wp2;exact hK)
 case body=>(
 rintro l pre x b1 b2 W m0 r8 r9 e6 b6 ⟨hf,he,b4,hs,e7,Z⟩ _;obtain⟨⟨i,k,x⟩,row,a8,hx⟩:=x;obtain⟨i5,i6,_⟩:=HG.2.1.ints i row a8 k x hx;have hW:=d8.out.trans b4;have j5:=fun wn (C:aa All W wn)=>ah.keep (hW.trans C).all i5;have j6:=fun wn (C:aa All W wn)=>ah.keep (hW.trans C).all i6;obtain⟨aA,cA,eA,_,u2,_⟩:=i5;obtain⟨aF,cF,eF,_⟩:=i6;unfold maxLen at u2;dsimp only at e6 b6⊢;rw[eA] at b6 j5⊢;rw[eF] at b6 j6⊢;have j3:=mG a8;have j4:=mG hx;have p4:=(lS.1 a8).1;have a7:=fun wn (C:aa All W wn)=>m8.1.keep (b4.trans C) (fun _ _=>trivial) trivial;have j7:=(m8.2.1.kept b4 trivial).cell 0;obtain⟨x0,x1⟩:=e6.c2;obtain⟨y0,y1,y2,y3,y4,y5,y6,y7,y8⟩:=b6.c9;simp only[gc] at j7;have s0:=d8.out.size;have j8:∀z:iL,z∈(pre++[(⟨(i,k,x),row,a8,hx⟩:EK b.Ng)]).map Subtype.val→z∈pre.map Subtype.val∨z=(i,k,x):=fun z hz=>by
  rw[ic] at hz;rcases eD.1 hz with h|h;·exact .inl h
  exact .inr (cx.1 h)
 by_cases h3:x.kind=3;·(
 have t3:=yK x.kind 3 (by omega);have hC:=Ho _ _ _ gk b pl tt x _ _ i k W (a7 W kR) HG.1 HX.2.2.2.2.2.2.1 p4 (j5 W kR) (j6 W kR) (HG.1.phi row j3 x j4 h3) (HG.1.args row j3 x j4) (HG.1.Nh row j3 x j4);have b7:uo b i k x=mH b i x:=Ck h3;obtain⟨pf,p5⟩:=eR (mH b i x);rw[p5] at hC b7;have HC:=J6 hC b7 Z b4 hs j8;clear hC b7 p5 Z h3 a7 j5 j6 hW j8;by_cases hz:pf=0;·(
 have tz:(pf !=0)=false:=by rw[gj];exact hz
 gi_wp2_with (refine⟨trivial,?_⟩;gi_at_call 57;refine(CallsIn.inRound l (callsIn_wide.2 HC.1)).mono ?_;rintro e W8 ⟨rfl,I⟩;have fW:=hf.kept I trivial;have eW:=he.kept I trivial;have oW:=b6.kept I trivial;have q1:=eW.cell 0;have q2:=eW.free 0;have q3:=fW.cell 0;have q4:=fW.free 0;have q5:=oW.cell 8;simp only[gc] at q1 q3 q5;have l0:=I.size);refine⟨((KeepsOthers.of_kept I).trans (KeepsOthers.setCell _ _ _)).from _,fun h=>h.kept (I.all.setCell (p:=⟨wc.heap.size+1,0,none⟩) (.inl (by simp;omega)) _),fW.far (by simp) _,?_,(HC.2.2.2.1.trans I).setCell (p:=⟨wc.heap.size+1,0,none⟩) (.inr (by simp)) _,by simp;have:=HC.2.2.2.2.1;omega,e7,fun u hu=>?_⟩
 ·have:=eW.set 0 (.int .i64 0)
  simpa using this
 rcases HC.2.2.2.2.2 u hu with h|rfl;·exact HC.2.2.1 u h
 rw[HC.2.1];exact hz)
 have tz:(pf !=0)=true:=by rw[bne_iff_ne];exact hz
 gi_wp2_with (refine⟨trivial,?_⟩;gi_at_call 57;refine(CallsIn.inRound l (callsIn_wide.2 HC.1)).mono ?_;rintro e W8 ⟨rfl,I⟩;have fW:=hf.kept I trivial;have eW:=he.kept I trivial;have oW:=b6.kept I trivial;have q1:=eW.cell 0;have q2:=eW.free 0;have q3:=fW.cell 0;have q4:=fW.free 0;have q5:=oW.cell 8;simp only[gc] at q1 q3 q5;have l0:=I.size);refine⟨(((KeepsOthers.of_kept I).trans (KeepsOthers.setCell _ _ _)).trans (KeepsOthers.setCell _ _ _)).from _,rfl,pre,_,rfl,HC.2.2.1,by rw[HC.2.1];exact hz,?_,?_,((HC.2.2.2.1.trans I).setCell (p:=⟨wc.heap.size+1,0,none⟩) (.inr (by simp)) _).setCell (p:=⟨wc.heap.size,0,none⟩) (.inr (by simp)) _,by simp;have:=HC.2.2.2.2.1;omega,e7⟩
 ·have:=(fW.far (p:=⟨wc.heap.size+1,0,none⟩) (by simp) (.int .i64 pf)).set 0 (.int .i64 x.Nj)
  simpa using this
 have:=(eW.set 0 (.int .i64 pf)).far (p:=⟨wc.heap.size,0,none⟩) (by simp) (.int .i64 x.Nj);rw[HC.2.1];simpa using this)
 have t3:=nK x.kind 3 (by omega);have HJ:=J10 j5 a7 Z b4 hs j8 e6 b6 hf he;have H3:=oH h3;clear j5 j6 a7 Z h3 hW j8 j7 x0 x1 y1 y2 y3 y4 y6 y7 y8;gi_wp2
 gi_loopw [85] (fun s wr=>∃m:Nat,m≤x.args.length∧s=.int .i64 m∧aa All W wr∧∀(j:Nat) v,j<m→x.args[j]? =some v→iP b v i k) (fun s _=>x.args.length-(intOf s).toNat)
 ·exact⟨0,by omega,rfl,kR,fun j v hj=>by omega⟩
 obtain⟨m,hm,rfl,a1,c0⟩:=hrel;clear y0 y5;have e6:=HJ.2.2.2.2.2.2.1.kept a1 trivial;have b6:=HJ.2.2.2.2.2.2.2.1.kept a1 trivial;have hf:=HJ.2.2.2.2.2.2.2.2.1.kept a1 trivial;have he:=HJ.2.2.2.2.2.2.2.2.2.kept a1 trivial;have c1:=HJ.2.2.2.1.trans a1;have j7:=(m8.2.1.kept c1 trivial).cell 0;simp only[gc] at j7;obtain⟨x0,x1⟩:=e6.c2;have s3:=a1.size;have s4:=HJ.2.2.2.2.1;by_cases q9:m<x.args.length;·(
 obtain⟨v,hv⟩:=eG q9;have j9:=HG.1.args row j3 x j4 v (mG hv);obtain⟨vn,n1⟩:∃vn:Nat,v=vn:=⟨v.toNat,by omega⟩;rw[n1] at hv j9;obtain⟨vb,vo,vv,rfl,_,s5,rfl,_⟩:=bn (HJ.1 wr a1) hv;have e8:=Br _ gk b pl tt vn i k wr (HJ.2.1 wr a1) HG.1 HX.2.2.2.2.2.2.1 j9.2 p4;by_cases ht:iP b vn i k;·(
 rw[av ht] at e8;have Y:=J5 e8 ht hv c0 a1;clear e8 ht hv c0 a1 j9 n1 e6 b6 hf he c1;gi_wp2_with (refine⟨trivial,?_⟩;gi_at_call 58;refine(CallsIn.inRound l (callsIn_wide.2 Y.1)).mono ?_;rintro e W8 ⟨rfl,I⟩)
 go_roundw
 case rel=>
  refine⟨m+1,by omega,by simp,Y.2.2.2.2.trans I,fun j v hj n2=>?_⟩;by_cases e:j=m;·subst e;rw[Y.2.2.1] at n2;cases n2;exact Y.2.1
  exact Y.2.2.2.1 j v (by omega) n2
 case measure=>simp[intOf];omega)
 rw[au ht] at e8;have b7:uo b i k x=19:=Gt H3.out (mG hv) ht;have Y:=J3 e8 b7 a1;clear e8 ht hv c0 b7 j9 n1;gi_wp2_with (refine⟨trivial,?_⟩;gi_at_call 58;refine(CallsIn.inRound l (callsIn_wide.2 Y.1)).mono ?_;rintro e W8 ⟨rfl,I⟩;have fW:=hf.kept I trivial;have eW:=he.kept I trivial;have oW:=b6.kept I trivial;have q1:=eW.cell 0;have q2:=eW.free 0;have q3:=fW.cell 0;have q4:=fW.free 0;have q5:=oW.cell 8;simp only[gc] at q1 q3 q5;have l0:=I.size);refine⟨(((KeepsOthers.of_kept (a1.trans I)).trans (KeepsOthers.setCell _ _ _)).trans (KeepsOthers.setCell _ _ _)).from _,rfl,pre,_,rfl,HJ.2.2.1,by rw[Y.2.1];decide,?_,?_,((c1.trans I).setCell (p:=⟨wc.heap.size,0,none⟩) (.inr (by simp)) _).setCell (p:=⟨wc.heap.size+1,0,none⟩) (.inr (by simp)) _,by simp;omega,e7⟩
 ·have:=(fW.set 0 (.int .i64 x.Nj)).far (p:=⟨wc.heap.size+1,0,none⟩) (by simp) (.int .i64 19)
  simpa using this
 have:=(eW.far (p:=⟨wc.heap.size,0,none⟩) (by simp) (.int .i64 x.Nj)).set 0 (.int .i64 19);rw[Y.2.1];simpa using this)
 obtain rfl:m=x.args.length:=by omega
 have b7:uo b i k x=0:=Kq H3.out fun v hv=>by obtain⟨j,hj⟩:=cY.1 hv;exact c0 j v (lS.1 hj).1 hj
 have Y:=J5 b7 a1 hf he c1;clear b7 c0 a1 hf he c1;gi_wp2;refine⟨(KeepsOthers.of_kept Y.2.1).from _,fun h=>h.kept Y.2.1.all,Y.2.2.1,Y.2.2.2.1,Y.2.2.2.2,by omega,e7,fun u hu=>?_⟩;rcases HJ.2.2.2.2.2.1 u hu with h|rfl;·exact HJ.2.2.1 u h
 exact Y.1)
 case done=>(rintro D xs W hD hS ⟨hf,he,b4,hs,e7,Z⟩ hK;rw[hS] at Z;have HZ:=J3 (show oh b=(0,0) by rw[HN.out];exact CW Z) (d8.out.trans b4) hK;have qf:=hf.cell 0;have qe:=he.cell 0;simp only[gc] at qf qe;clear hf he b4 Z hS hK;go_wp2;go_quiet (fail);go_wp2;rw[Exit.noGoto_ret];refine⟨by simp,.inl ⟨_,_,rfl,run_takeDeferred HZ.2.2,?_⟩⟩;exact⟨.tuple #[.int .i64 0,.int .i64 0],by simp[results,Tryz.f36,go_sem],.of HZ.1 (aa.put (HZ.2.1.drewN _) (.inr (by have:=d8.out.size;have:=HL.2.2.2;omega)) _)⟩)
 rintro D c pre W hD hS ⟨rfl,r0,x,rfl,Z,hx,hf,he,b4,hs,e7⟩ hK;rw[ic] at hS;have HZ:=J3 (show oh b=(x.1.2.2.Nj,uo b x.1.1 x.1.2.1 x.1.2.2) by rw[HN.out];exact Ah hS Z hx) (d8.out.trans b4) hK;obtain⟨⟨i,k,x⟩,row,a8,s6⟩:=x;dsimp only at hf he HZ;obtain⟨z,hz⟩:=eR (uo b i k x);rw[hz] at he HZ;have qf:=hf.cell 0;have qe:=he.cell 0;simp only[gc] at qf qe;clear hf he b4 Z hS hK hx hz;rw[wpIn_wide];go_wp2;go_quiet (fail);go_wp2;rw[Exit.noGoto_ret];refine⟨by simp,.inl ⟨_,_,rfl,run_takeDeferred HZ.2.2,?_⟩⟩;exact⟨.tuple #[.int .i64 x.Nj,.int .i64 z],by simp[results,Tryz.f36,go_sem],.of HZ.1 (aa.put (HZ.2.1.drewN _) (.inr (by have:=d8.out.size;have:=HL.2.2.2;omega)) _)⟩
end
end Go.Proofs.YtceloincoomjeaaGreatDoor
