/- Part 40 of the proof (its last part says what is proved). No condition. -/
import Derived.Deep.RegionHeld3
import Derived.Test.YtccbbkopmlnkpaaGreatDoorK38
namespace Go.Proofs.YtccbbkopmlnkpaaGreatDoor
set_option maxRecDepth 100000
set_option maxHeartbeats 8000000
open Go.RowKit Go.Proofs.Tryz
section
open Go.RowKit Go.Shelf
attribute [local go_sem] Oper.semAt_some
theorem AV (S:Nat→Prop)(R:Option Addr)(d1:Nat)(b:av)(k Y:Nat)(w:World)(hb:fz S w (.slice R b.Nm.length d1) b.Nm)(j:al w Y 35 #[.int .i64 b.params,.int .i64 b.vars,.slice R b.Nm.length d1])(hG:jt b)(hk:k<b.Nm.length):
 Calls prog 33 #[.int .i64 k,.pointer (some ⟨Y,0,none⟩)] w fun e w'=>e=.returned (.int .i64 (dH b k))∧w=w':=by
 obtain⟨l,I⟩:=eG hk;have h1:=(hG.some_ l (mG I)).1;obtain⟨x,J⟩:∃x,l[0]? =some x:=⟨_,lG (by omega)⟩;have hp:=GC I J;obtain⟨rb,ro,rv,rfl,_,a1,o⟩:=de hb I;obtain⟨LA,lc,rfl,l1,l2,l3,_⟩:=id o;obtain⟨xb,xo,a6,rfl,_,_,C,xa,xf,rfl,_⟩:=bh o J;have z8:=C 8 _ rfl;rw[Nat.zero_mul,cJ] at z8;have b2:=j.cell 2;simp only[gc] at b2;have HP:=oH hp;unfold maxLen at l2;clear hb j hG I J hp o C;go_enter func33,ntmps33;go_wp2;go_ret;exact⟨by rw[HP.out];rfl,rfl⟩
theorem sF {S:Nat→Prop}{w:World}{v:Value}{l:List Int}{g:Nat}{t:TypeId}{p:Option Addr}(C:al w g t #[.pointer p])(h:bu S w v l):bu (fun k=>S k∧k≠g) w v l:=by obtain⟨a,cap,I,J,R,Y,h⟩:=h;refine⟨a,cap,I,J,R,Y,fun i x hx=>?_⟩;obtain⟨b,off,c,e,hs,j,rfl,hw⟩:=h i x hx;refine⟨b,off,_,e,⟨hs,fun o=>?_⟩,j,rfl,hw⟩;subst o;rw[C.cell] at j;generalize off+i=m at j;rcases m with _|n<;>simp at j
theorem AL {S:Nat→Prop}{w:World}{v:Value}{l:List (List Int)}{g:Nat}{t:TypeId}{p:Option Addr}(C:al w g t #[.pointer p])(h:Rows S w v l):Rows (fun k=>S k∧k≠g) w v l:=by obtain⟨a,cap,J,R,Y,h3,h⟩:=h;refine⟨a,cap,J,R,Y,h3,fun i x hx=>?_⟩;obtain⟨b,off,c,e,hs,j,I⟩:=h i x hx;refine⟨b,off,c,e,⟨hs,fun o=>?_⟩,j,sF C I⟩;subst o;obtain⟨_,_,rfl,_⟩:=I;rw[C.cell] at j;generalize off+i=m at j;rcases m with _|n<;>simp at j
def EE (b:av)(lo:Nat)(v:Value)(wn:World):Prop:=∃A c,v=.tuple #[.slice A (gB b).length c,.bool true]∧dJ (fun k=>lo≤k) wn (.slice A (gB b).length c) (gB b)
theorem EE.keep {b:av}{lo:Nat}{v:Value}{wn j:World}(o:aa All wn j)(h:EE b lo v wn):EE b lo v j:=by obtain⟨A,c,e,h⟩:=h;exact⟨A,c,e,cr.keep o.all h⟩
theorem xD {S:Nat→Prop}{w:World}{v:Value}{l:List (Int×Int)}(h:dJ S w v l):dJ (fun k=>k<w.heap.size) w v l:=by obtain⟨a,cap,o,C,I,J,h⟩:=h;refine⟨a,cap,o,C,I,J,fun i x R=>?_⟩;obtain⟨b,off,cs,e,hs,Y,j,rfl,h4⟩:=h i x R;exact⟨b,off,_,e,gx w _ (j 0 _ rfl),Y,j,rfl,h4⟩
def EH (b:av)(w6:World)(sz:Nat)(pre:List (EJ b.Nm))(W:World):Prop:=
 al W w6.heap.size 3 #[.int .i64 0]∧al W (w6.heap.size+1) 41 #[.int .i64 0]∧aa All w6 W∧sz≤W.heap.size∧w6.heap.size+2≤sz∧∀u∈pre.map Subtype.val,uj b u.1 u.2.1 u.2.2=0
def JT (b:av)(w6:World)(sz:Nat)(pre:List (EJ b.Nm))(W:World):Prop:=
 ∃pre' x,pre=pre'++[x]∧(∀u∈pre'.map Subtype.val,uj b u.1 u.2.1 u.2.2=0)∧uj b x.1.1 x.1.2.1 x.1.2.2≠0∧al W w6.heap.size 3 #[.int .i64 x.1.2.2.Np]∧al W (w6.heap.size+1) 41 #[.int .i64 (uj b x.1.1 x.1.2.1 x.1.2.2)]∧aa All w6 W∧sz≤W.heap.size∧w6.heap.size+2≤sz
theorem vj {sz:Nat}{W j:World}{row:Option Nat}(C:W.grownBy j row)(I:∀r,row=some r→sz≤r∧∃o:Obj,W.heap[r]? =some o∧o.isCells=false):aa (fun k=>k<sz) W j:=
 (aa.refl _ W).grown C fun k J=>.inl fun h=>by have:=(I k J).1;have h:k<sz:=h;omega
theorem CU {b:av}{j:World}{sz:Nat}:OwnFrom sz (EH b j sz):=by rintro s W W' row ⟨C,I,J,R,Y,h6⟩ o hr;have k:=vj o hr;exact⟨C.kept k (by omega),I.kept k (by omega),aq (J.all.trans (k.mono fun g (o:g<j.heap.size)=>by omega)),dA R k.size,Y,h6⟩
theorem CS {b:av}{o:World}{sz:Nat}:OwnFrom sz (JT b o sz):=by rintro s W W' row ⟨j,x,I,J,R,Y,h5,h6,h7,h8⟩ C hr;have k:=vj C hr;exact⟨j,x,I,J,R,Y.kept k (by omega),h5.kept k (by omega),aq (h6.all.trans (k.mono fun g (C:g<o.heap.size)=>by omega)),dA h7 k.size,h8⟩
def LI (n:Nat)(v:Value):Prop:=∃A c,v=.slice A n c
def JU (v:Value):Prop:=∃g,v=.pointer (some ⟨g,0,none⟩)
def sf (b:av)(v:Value)(wn:World):Prop:=∃tt pl,bu All wn v (ls b.Nm.length tt)∧mg (aM b) tt pl
def sh (b:av)(v:Value)(wn:World):Prop:=Rows All wn v (fF (aM b))
def LH (b:av)(bv:Value)(v:Value):Prop:=∃A3 c3 A4 c4,v=.agg #[.int .i64 b.params,.int .i64 b.vars,bv,.slice A3 b.Nm.length c3,.slice A4 b.Nm.length c4,.slice none 0 0]
def KA (b:av)(bv:Value)(v:Value)(wn:World):Prop:=∃A3 c3 A4 c4,v=.agg #[.int .i64 b.params,.int .i64 b.vars,bv,.slice A3 b.Nm.length c3,.slice A4 b.Nm.length c4,.slice none 0 0]∧sf b (.slice A3 b.Nm.length c3) wn∧sh b (.slice A4 b.Nm.length c4) wn
def EQ (b:av)(bv:Value)(lo:Nat)(v:Value)(wn:World):Prop:=∃g A3 c3 A4 c4,v=.pointer (some ⟨g,0,none⟩)∧lo≤g∧al wn g 88 #[.int .i64 b.params,.int .i64 b.vars,bv,.slice A3 b.Nm.length c3,.slice A4 b.Nm.length c4,.slice none 0 0]∧(∃tt pl,bu (fun k=>k<g) wn (.slice A3 b.Nm.length c3) (ls b.Nm.length tt)∧mg (aM b) tt pl)∧Rows (fun k=>k<g) wn (.slice A4 b.Nm.length c4) (fF (aM b))
def ER (lo:Nat)(v:Value)(wn:World):Prop:=∃g,v=.pointer (some ⟨g,0,none⟩)∧lo≤g∧al wn g 85 #[.pointer none]
def xB (b:av)(bv:Value)(lo:Nat)(t:Tmp)(v:Value)(wn:World):Prop:=if t=44 then sf b v wn else if t=46 then sh b v wn else if t=47 then KA b bv v wn else if t=48 then EQ b bv lo v wn else ER lo v wn
section
variable {b:av} {bv:Value} {lo:Nat} {wn wq:World} (hkq:aa All wn wq) {v:Value}
include hkq
theorem sf.keep (h:sf b v wn):sf b v wq:=by obtain⟨j,pl,o,C⟩:=h;exact⟨j,pl,ae.keep hkq o,C⟩
theorem sh.keep (h:sh b v wn):sh b v wq:=aE.keep hkq h
theorem xB.keep (t:Tmp)(h:xB b bv lo t v wn):xB b bv lo t v wq:=by
 unfold xB at h⊢;by_cases h1:t=44;·rw[am h1] at h⊢;exact h.keep hkq
 rw[ah h1] at h⊢;by_cases h2:t=46;·rw[am h2] at h⊢;exact h.keep hkq
 rw[ah h2] at h⊢;by_cases h3:t=47;·rw[am h3] at h⊢;obtain⟨j,o,C,I,e,g1,g2⟩:=h;exact⟨j,o,C,I,e,g1.keep hkq,g2.keep hkq⟩
 rw[ah h3] at h⊢;by_cases h4:t=48;·rw[am h4] at h⊢;obtain⟨g,j,o,C,I,e,J,R,⟨tt,pl,g1,Y⟩,g2⟩:=h;exact⟨g,j,o,C,I,e,J,R.kept hkq trivial,⟨tt,pl,ae.keep hkq.all g1,Y⟩,aE.keep hkq.all g2⟩
 rw[ah h4] at h⊢;obtain⟨g,e,J,R⟩:=h;exact⟨g,e,J,R.kept hkq trivial⟩
end
theorem Ea (S:Nat→Prop)(bv:Value)(b:av)(w:World)(hb:fz S w bv b.Nm)(hG:jt b)(k5:b.Nm.flatten.length≤4096):
 Calls prog 21 #[.agg #[.int .i64 b.params,.int .i64 b.vars,bv]] w (vV b w):=by
 have l5:=vy hb;have l6:=cu.la l5;obtain⟨B1,d1,rfl,m5,m6,m7,_⟩:=hb;obtain⟨A,F,hI⟩:=vh l5;have r5:=hG.blk.2;have s7:=hG.blk.1;have j1:=cB b;have o4:=ix hG;obtain⟨W0,j2⟩:=eQ (w.alloc (.cells #[.int .i64 b.params,.int .i64 b.vars,.slice B1 b.Nm.length d1] 35));have l7:aa All w W0:=by rw[j2];exact kR.alloc _
 have bB:al W0 w.heap.size 35 #[.int .i64 b.params,.int .i64 b.vars,.slice B1 b.Nm.length d1]:=by rw[j2];exact ac rfl
 obtain⟨b0,b1,b2⟩:=bB.c3;have o5:=BO _ (.slice B1 b.Nm.length d1) b W0 (l6 W0 l7) hG;have HG:=J4 hG hI k5 o4;have HW:=J5 j2 l7 bB l6 o5;have s8:∀(fn:Fn) (first cap:Array Value) (w:World),(Instr.makeFunc fn first cap).run prog w=.ok (.func fn first cap) w:=fun _ _ _ _=>rfl;clear hG hI k5 j2 l7 bB l6 o5 l5 m5 m6 m7 o4;refine(callsIn_wide (n:=8)).1 ?_;refine callsIn_of_wp_marks func21 rfl trivial ?_ rfl;simp only[ntmps21,List.size_toArray,lD,List.length_nil,Nat.reduceAdd,Nat.reduceSub,Array.replicate_succ,Array.replicate_zero,List.push_toArray,List.append_toArray,si,List.cons_append];rw[wpIn_wide];go_wp2
 go_step3
 go_upto_region 1 with fail;rw[←HW.1];go_wp2_with fail;refine HW.2.2.2.2.mono ?_;rintro e w1 ⟨u,rfl,h4,l8⟩;have o6:=lW h4;have j3:=aE.la o6;obtain⟨TA,tc,rfl,t1,t2,t3,_⟩:=h4;rw[j1] at t1 t3 j3⊢;unfold maxLen at t2;have c8:=sQ _ _ (aM b) w1 (j3 w1 kR) HG.2.2.2;rw[j1] at c8;have HT:=J5 j3 j1 c8 l8 (HW.2.1.trans l8);clear j3 j1 c8 l8 o6 b0 b1 b2;go_wp2_with fail;refine HT.2.2.1.mono ?_;rintro e w2 ⟨rfl,l9⟩;have e0:=J2 l9 (HT.2.2.2.1.trans l9);clear l9;have h5:=HW.2.2.1.kept e0.2 trivial;obtain⟨b0,b1,b2⟩:=h5.c3;clear h5;have o7:=fun wn (C:aa All W0 wn) k (r6:k<b.Nm.length)=>AV _ B1 d1 b k w.heap.size wn (HW.2.2.2.1 wn (HW.2.1.trans C)) (HW.2.2.1.kept C trivial) HG.1 r6;have n0:=oH o7;clear o7;rcases ji (kJ (aM b)) b.Nm.length with ⟨h0,a1⟩|⟨k,h0,C,_⟩
 case inr=>(
 rw[h0];have tk:decide ((0:Int)≤(k:Int))=true:=by simp
 have tm:max (k:Int) 0=(k:Int):=by omega
 have HN:=J2 (FC h0) (n0.out w2 e0.2 k C);clear h0;go_wp2_with fail;refine HN.2.mono ?_;rintro e w3 ⟨rfl,rfl⟩;go_wp2_with fail;rw[Exit.noGoto_ret];exact⟨.tuple #[.int .i64 (dH b k),.int .i64 16],by simp[results,Tryz.f21,go_sem],.of HN.1 (HW.2.1.trans e0.2)⟩)
 rw[h0];have H0:=J2 h0 a1;have n1:=vR _ _ (aM b) w2 (HT.1 w2 e0.1) HG.2.2.2;rw[HT.2.1] at n1;have HS:=oH n1;clear h0 n1 a1;go_wp2_with fail;refine HS.out.mono ?_;rintro e w3 ⟨rfl,n2⟩;have R:=J2 (e0.1.trans n2) (e0.2.trans n2);clear n2 b0 b1 b2;have h5:=HW.2.2.1.kept R.2 trivial;obtain⟨b0,b1,b2⟩:=h5.c3;clear h5;rcases ji (iK (aM b)) b.Nm.length with ⟨h0,_⟩|⟨k,h0,C,_⟩
 case inr=>(
 rw[h0];have tk:decide ((0:Int)≤(k:Int))=true:=by simp
 have tm:max (k:Int) 0=(k:Int):=by omega
 have HN:=J2 (CT H0.1 h0) (n0.out w3 R.2 k C);clear h0;go_wp2_with fail;refine HN.2.mono ?_;rintro e w4 ⟨rfl,rfl⟩;go_wp2_with fail;rw[Exit.noGoto_ret];exact⟨.tuple #[.int .i64 (dH b k),.int .i64 17],by simp[results,Tryz.f21,go_sem],.of HN.1 (HW.2.1.trans R.2)⟩)
 rw[h0];have H1:=oH h0;clear h0;have hL:∀k,k<(aM b).length→bm (aM b) 0 k:=fun k C=>Classical.byContradiction fun h=>H0.2 k (by rw[←HT.2.1];exact C) ⟨C,h⟩;have h6:=fun wn (C:aa All w1 wn)=>Hj _ _ (aM b) wn (HT.1 wn C) HG.2.2.2 hL;have h7:=fun wn (C:aa All w1 wn)=>pt _ _ (aM b) wn (HT.1 wn C) HG.2.2.2;have HR:=J2 h6 h7;clear h6 h7 hL;go_wp2_with fail;have HF:=oH (show∀wn,aa All w3 wn→wn.cell? ⟨w.heap.size,0,none⟩=some (.int .i64 b.params)∧wn.cell? ⟨w.heap.size,1,none⟩=some (.int .i64 b.vars)∧wn.cell? ⟨w.heap.size,2,none⟩=some (.slice B1 b.Nm.length d1) from fun wn C=>⟨(HW.2.2.1.kept (R.2.trans C) trivial).cell 0,(HW.2.2.1.kept (R.2.trans C) trivial).cell 1,(HW.2.2.1.kept (R.2.trans C) trivial).cell 2⟩);refine R1 8 w3 [44,46,47,48,11] (xB b (.slice B1 b.Nm.length d1) w3.heap.size) (fun i=>if i=2 then some (LI b.Nm.length) else if i=4 then some (LI b.Nm.length) else if i=5 then some (LH b (.slice B1 b.Nm.length d1)) else if i=6 then some JU else if i=7 then some JU else none) ?_;refine O4 HF.out ?_;refine O0 ?_;refine O6 (fun wn C hp=>?_) (fun wn C hp=>?_) ?_;·go_simp;refine(HR.1 wn (R.1.trans C)).mono ?_;rintro e wq ⟨u,tt,pl,rfl,hkq,a7,b6⟩;rw[HT.2.1] at a7;have J:bu All wq u (ls b.Nm.length tt):=ae.wide (fun _ _=>trivial) a7;obtain⟨A,c,eu,_⟩:=id J;rw[nW] at eu;subst eu;exact .inl ⟨rfl,_,rfl,⟨_,_,rfl⟩,C.trans hkq,fun t _ v h=>h.keep hkq t,fun d hd _=>by cases hd;exact⟨tt,pl,J,b6⟩⟩
 ·obtain⟨e,wq,_,⟨u,tt,pl,rfl,hkq,a7,b6⟩,_⟩:=(HR.1 wn (R.1.trans C)) [];rw[HT.2.1] at a7;have J:bu All wq u (ls b.Nm.length tt):=ae.wide (fun _ _=>trivial) a7;obtain⟨A,c,eu,_⟩:=id J;rw[nW] at eu;subst eu;exact⟨_,wq,⟨_,_,rfl⟩,C.trans hkq,fun t _ v h=>h.keep hkq t,fun d hd _=>by cases hd;exact⟨tt,pl,J,b6⟩⟩
 rintro v ⟨A3,c3,rfl⟩;simp only[PS];refine O0 ?_;refine O6 (fun wn C hp=>?_) (fun wn C hp=>?_) ?_;·go_simp;refine(HR.2 wn (R.1.trans C)).mono ?_;rintro e wq ⟨u,rfl,hkq,a7⟩;have J:Rows All wq u (fF (aM b)):=aE.wide (fun _ _=>trivial) a7;obtain⟨A,c,eu,_⟩:=id J;rw[eJ,HT.2.1] at eu;subst eu;exact .inl ⟨rfl,_,rfl,⟨_,_,rfl⟩,C.trans hkq,fun t _ v h=>h.keep hkq t,fun d hd _=>by cases hd;exact J⟩
 ·obtain⟨e,wq,_,⟨u,rfl,hkq,a7⟩,_⟩:=(HR.2 wn (R.1.trans C)) [];have J:Rows All wq u (fF (aM b)):=aE.wide (fun _ _=>trivial) a7;obtain⟨A,c,eu,_⟩:=id J;rw[eJ,HT.2.1] at eu;subst eu;exact⟨_,wq,⟨_,_,rfl⟩,C.trans hkq,fun t _ v h=>h.keep hkq t,fun d hd _=>by cases hd;exact J⟩
 rintro v ⟨A4,c4,rfl⟩;simp only[PS];refine O6 (fun wn C hp=>?_) (fun wn C hp=>?_) ?_
 ·have c9:=hp 44 (by decide) (by decide) _ rfl
  have d7:=hp 46 (by decide) (by decide) _ rfl;go_simp;exact⟨rfl,⟨_,_,_,_,rfl⟩,C,fun t _ v h=>h,fun d hd _=>by cases hd;exact⟨_,_,_,_,rfl,c9,d7⟩⟩
 ·have c9:=hp 44 (by decide) (by decide) _ rfl
  have d7:=hp 46 (by decide) (by decide) _ rfl;exact⟨.agg #[.int .i64 b.params,.int .i64 b.vars,.slice B1 b.Nm.length d1,.slice A3 b.Nm.length c3,.slice A4 b.Nm.length c4,.slice none 0 0],wn,⟨_,_,_,_,rfl⟩,C,fun t _ v h=>h,fun d hd _=>by cases hd;exact⟨_,_,_,_,rfl,c9,d7⟩⟩
 rintro v ⟨A5,c5,A6,c6,rfl⟩;simp only[PS];refine O6 (fun wn C hp=>?_) (fun wn C hp=>?_) ?_;·have n3:=hp 47 (by decide) (by decide) _ rfl;obtain⟨_,_,_,_,e,⟨tt,pl,c9,b6⟩,d7⟩:=n3;cases e;go_simp;exact⟨rfl,⟨_,rfl⟩,C.alloc _,fun t _ v h=>h.keep (kR.alloc _) t,fun d hd _=>by cases hd;exact⟨_,_,_,_,_,rfl,C.size,al.new _ _ _,⟨tt,pl,ae.keep (kR.alloc _) (jZ c9),b6⟩,aE.keep (kR.alloc _) (lW d7)⟩⟩
 ·have n3:=hp 47 (by decide) (by decide) _ rfl
  obtain⟨_,_,_,_,e,⟨tt,pl,c9,b6⟩,d7⟩:=n3;cases e;exact⟨.pointer (some ⟨wn.heap.size,0,none⟩),wn.alloc (.cells #[.int .i64 b.params,.int .i64 b.vars,.slice B1 b.Nm.length d1,.slice A5 b.Nm.length c5,.slice A6 b.Nm.length c6,.slice none 0 0] 88),⟨_,rfl⟩,C.alloc _,fun t _ v h=>h.keep (kR.alloc _) t,fun d hd _=>by cases hd;exact⟨_,_,_,_,_,rfl,C.size,al.new _ _ _,⟨tt,pl,ae.keep (kR.alloc _) (jZ c9),b6⟩,aE.keep (kR.alloc _) (lW d7)⟩⟩
 rintro v ⟨gk,rfl⟩;simp only[PS];refine O6 (fun wn C hp=>?_) (fun wn C hp=>?_) ?_
 ·go_simp
  exact⟨rfl,⟨_,rfl⟩,C.alloc _,fun t _ v h=>h.keep (kR.alloc _) t,fun d hd _=>by cases hd;exact⟨_,rfl,C.size,al.new _ _ _⟩⟩
 ·exact⟨.pointer (some ⟨wn.heap.size,0,none⟩),wn.alloc (.cells #[.pointer none] 85),⟨_,rfl⟩,C.alloc _,fun t _ v h=>h.keep (kR.alloc _) t,fun d hd _=>by cases hd;exact⟨_,rfl,C.size,al.new _ _ _⟩⟩
 rintro v ⟨gp,rfl⟩;simp only[PS];refine aD fun wt o8 hF=>?_;have o9:=hF 48 (by decide) _ rfl;have p1:=hF 11 (by decide) _ rfl;obtain⟨_,A5,c5,A6,c6,e1,p2,j4,⟨tt,pl,a7,b6⟩,p3⟩:EQ b (.slice B1 b.Nm.length d1) w3.heap.size _ wt:=o9;cases e1;obtain⟨_,e2,p4,b9⟩:ER w3.heap.size _ wt:=p1;cases e2;have n4:gk≠gp:=j4.ne b9 (by decide);have J:=sF b9 a7;have k6:=AL b9 p3;have p0:=b9.cell 0;have f0:=b9.free 0;simp only[gc] at p0;obtain⟨W4,j7⟩:=eQ (wt.setCell ⟨gp,0,none⟩ (.pointer (some ⟨gk,0,none⟩)));have h8:aa (fun k=>k≠gp) wt W4:=by rw[j7];exact kR.setCell (.inl fun h=>h rfl) _
 have r7:=j4.lt;have s9:=b9.lt;have k7:aa All w3 W4:=aq (o8.all.trans (h8.mono fun k (C:k<w3.heap.size)=>by omega));have n5:al W4 gp 85 #[.pointer (some ⟨gk,0,none⟩)]:=by rw[j7];exact b9.set 0 _
 have n6:=j4.kept h8 n4;have k8:=ae.keep (h8.mono fun k (C:k<gk∧k≠gp)=>C.2) J;have h9:=aE.keep (h8.mono fun k (C:k<gk∧k≠gp)=>C.2) k6;obtain⟨rb,ro,rv,rfl,r8,n7,p5⟩:=de h9 (mD (ll:=aM b) (k:=0) (by rw[HT.2.1];omega));rw[cJ] at n7;obtain⟨RA,rc,rfl,r1,r2,r3,_⟩:=id p5;unfold maxLen at r2;have p0:=n5.cell 0;have k4:=n6.cell 4;simp only[gc] at p0 k4;have HX:=J9 j7 k7 n5 n6 k8 h9 b6 n4 p2;clear hF p2 p4 j4 a7 p3 b9 J k6 h8 k7 n5 n6 k8 h9 b6 j7 o8 p5 r8;simp only[dK];go_upto_region 10 with fail;rw[←HX.1];obtain⟨L,hL⟩:=eR (cj (aM b) (aM b).length 0);rw[hL] at n7 r1 r3;by_cases r9:0<L.length;·obtain⟨y,hy⟩:∃y,y∈cj (aM b) (aM b).length 0:=⟨L[0],by rw[hL];exact jy r9⟩;obtain⟨i,_,_,hi⟩:=gX.1 hy;have k9:Calls prog 33 #[.int .i64 0,.pointer (some ⟨w.heap.size,0,none⟩)] W4 fun e w'=>e=.returned (.int .i64 (dH b 0))∧W4=w':=n0.out W4 (R.2.trans HX.2.1) 0 (by omega);have HN:=J2 (FD H0.1 H1.out hi) k9;clear hL hy hi k9;go_wp2_with fail;refine HN.2.mono ?_;rintro e w5 ⟨rfl,hw⟩;have s0:=hw.symm;subst s0;go_wp2_with fail;rw[Exit.noGoto_ret];exact⟨.tuple #[.int .i64 (dH b 0),.int .i64 18],by simp[results,Tryz.f21,go_sem],.of HN.1 ((HW.2.1.trans R.2).trans HX.2.1)⟩
 have HN:=oH (IM H0.1 H1.out fun i hi=>by have hm:(i:Int)∈cj (aM b) (aM b).length 0:=gX.2 ⟨i,rfl,mC hi,hi⟩;rw[hL,show L=[] from zv (by omega)] at hm;cases hm);clear hL;have i1:=HW.2.2.1.kept (R.2.trans HX.2.1) trivial;have i7:=fun wn (C:aa All W4 wn)=>vM _ (.slice B1 b.Nm.length d1) b wn (HW.2.2.2.1 wn ((HW.2.1.trans R.2).trans (HX.2.1.trans C))) HG.1 HG.2.2.1;have HD:=oH i7;have p6:=oH (show∀wn,aa All W4 wn→wn.cell? ⟨w.heap.size,0,none⟩=some (.int .i64 b.params)∧wn.cell? ⟨w.heap.size,1,none⟩=some (.int .i64 b.vars)∧wn.cell? ⟨w.heap.size,2,none⟩=some (.slice B1 b.Nm.length d1)∧wn.cell? ⟨gp,0,none⟩=some (.pointer (some ⟨gk,0,none⟩)) from fun wn C=>⟨(i1.kept C trivial).cell 0,(i1.kept C trivial).cell 1,(i1.kept C trivial).cell 2,(HX.2.2.1.kept C trivial).cell 0⟩);have p7:=oH i1;clear i7 i1;have ek:=p6.out W4 kR;obtain⟨b0,b1,b2,b3⟩:=ek;have fk:=HX.2.2.2.1.free 5;have ck:=HX.2.2.2.1.cell 5;simp only[gc] at ck;clear p0;go_upto_region 12 with fail;clear k4 n7;go_cut [] from 59 to 66 (fun wx=>∃A c,aa (fun k=>k≠gk) W4 wx∧al wx gk 88 #[.int .i64 b.params,.int .i64 b.vars,.slice B1 b.Nm.length d1,.slice A5 b.Nm.length c5,.slice (some ⟨rb,ro,none⟩) b.Nm.length c6,.slice A (gB b).length c]∧dJ (fun k=>W4.heap.size≤k) wx (.slice A (gB b).length c) (gB b))
 case first=>(
 refine wp_region_noPanic ?_;go_region_with (go_at_call 19;refine(HD.out _ (kR.drew)).mono ?_;rintro e wq ⟨u,rfl,hkq,hu⟩;obtain⟨A,c,eu,_⟩:=id hu;subst eu;have c0:=(aa.refl All W4).drew.trans hkq;obtain⟨g0,g1,g2,g3⟩:=p6.out wq c0;have u0:=(HX.2.2.2.1.kept c0 trivial).free 5;have s3:=(HX.2.2.2.1.kept c0 trivial).cell 5;simp only[gc] at s3)
 all_goals
  refine NoPanic.normal ?_;go_wp2_with fail;go_meet;have e3:=(HX.2.2.2.1.kept c0 trivial).set 5 (.slice A (gB b).length c);simp only[ga] at e3;exact⟨A,c,c0.all.setCell (p:=⟨gk,5,none⟩) (.inl fun h=>h rfl) _,e3,cr.keep ((aa.refl (fun k=>W4.heap.size≤k) wq).setCell (p:=⟨gk,5,none⟩) (.inl (by have:=HX.2.2.2.1.lt;show¬(W4.heap.size≤gk);omega)) _) hu⟩)
 obtain⟨A7,c7,d8,e3,n8⟩:=hcut;have r7:=HX.2.2.2.1.lt;have l0:(gB b).length=b.vars.toNat:=by simp[gB]
 rw[l0] at e3 n8;have s4:=d8.size;have a8:rR (fun k=>k<wc.heap.size) wc gk b tt:=⟨_,A5,c5,_,_,A7,c7,e3,ae.wide (fun k C=>by have:k<gk∧k≠gp:=C;omega) (ae.keep (d8.mono fun k (C:k<gk∧k≠gp)=>by show k≠gk;omega) HX.2.2.2.2.1),aE.wide (fun k C=>by have:k<gk∧k≠gp:=C;omega) (aE.keep (d8.mono fun k (C:k<gk∧k≠gp)=>by show k≠gk;omega) HX.2.2.2.2.2.1),xD n8⟩;have l1:gp≠gk:=fun e=>HX.2.2.2.2.2.2.2.1 e.symm;have l2:=HX.2.2.1.kept d8 l1;have j0:=p7.out.kept d8 (by have h1:=HW.2.2.1.lt;have h2:=R.2.size;have h3:=HX.2.2.2.2.2.2.2.2;show w.heap.size≠gk;omega);have n9:=J3 a8 l2 j0;have l3:aa All w wc:=aq (((HW.2.1.trans R.2).trans HX.2.1).all.trans (d8.mono fun k (C:k<w.heap.size)=>by have h1:=HW.2.2.1.lt;have h2:=R.2.size;have h3:=HX.2.2.2.2.2.2.2.2;show k≠gk;omega));have d9:=oH l3;obtain⟨W7,e4⟩:=eQ ((wc.alloc (.cells #[.int .i64 0] 3)).alloc (.cells #[.int .i64 0] 41));have o0:aa All wc W7:=by rw[e4];exact(kR.alloc _).alloc _
 have p8:al W7 wc.heap.size 3 #[.int .i64 0]:=by rw[e4];exact(al.new _ _ _).alloc _
 have p9:al W7 (wc.heap.size+1) 41 #[.int .i64 0]:=by rw[e4];exact ac (by simp)
 have q0:W7.heap.size=wc.heap.size+2:=by rw[e4];simp
 have q6:=j0.kept o0 trivial;obtain⟨b0,b1,b2⟩:=q6.c3;have e5:=J5 e4 o0 p8 p9 q0;clear e4 o0 p8 p9 q0 q6 a8 l2 j0 d8 e3 n8 l3 s4 l0 l1 fk ck b3;go_wp2_with fail
 go_step3
 rw[←e5.1];go_wp2_with fail;refine(yU _ _ _ _ _ _).mono ?_;rintro e w' ⟨rfl,rfl⟩;obtain⟨wl,j8⟩:=eQ (W7.alloc (.cells #[.int .i64 b.params,.int .i64 b.vars,.slice B1 b.Nm.length d1] 35));have e6:aa All W7 wl:=by rw[j8];exact kR.alloc _
 have q7:al wl W7.heap.size 35 #[.int .i64 b.params,.int .i64 b.vars,.slice B1 b.Nm.length d1]:=by rw[j8];exact ac rfl
 have q8:gJ (fun g=>g<w.heap.size) w wl:=(gJ.refl _ _).kept ((d9.out.trans e5.2.1).trans e6).all;have o1:wc.heap.size+2≤wl.heap.size:=by have:=e6.size;have:=e5.2.2.2.2;omega
 have q9:EH b wc wl.heap.size [] wl:=⟨e5.2.2.1.kept e6 trivial,e5.2.2.2.1.kept e6 trivial,e5.2.1.trans e6,bj _,o1,fun u hu=>by cases hu⟩;rw[←j8];have HL:=J4 q7 q8 q9 o1;clear j8 e6 q7 q8 q9 o1 b0 b1 b2;go_wp2_with fail
 refine wpIn_wide.1 (lx (F:=Fence.wide) (n:=8) rfl (by omega) (gf:=51) (lb:=#[.pointer (some ⟨W7.heap.size,0,none⟩)]) rfl trivial (enters_of func51 (by kernel_rfl) rfl)
  (tI 7 (by omega) (fun g=>g<w.heap.size) w b.params b.vars B1 d1 b.Nm A F HG.2.1 r5 _ wl HL.2.1 HL.1) BR (BQ _) (fun W o h=>h.kept (kR.alloc _)) (Below.refl _ _) (fun _=>rfl)
  (EH b wc wl.heap.size) (fun c pre W=>c=.exit 0∧JT b wc wl.heap.size pre W) CU (fun c=>OwnFrom.and (ownFrom_pure _ _) CS) (fun pre W h=>h.2.2.2.1) HL.2.2.1
  14 15 74 40 (fun x=>#[.int .i64 (x.1.1:Nat),.int .i64 (x.1.2.1:Nat)]) (fun x=>#[.int .u8 x.1.2.2.kind,.int .u8 x.1.2.2.op,.int .i64 x.1.2.2.dst,.int .i64 x.1.2.2.ref,.int .i64 x.1.2.2.No,A x.1.1 x.1.2.1,F x.1.1 x.1.2.1,.int .i64 x.1.2.2.num,.int .i64 x.1.2.2.Np]) ?assign ?body ?done ?stop)
 case assign=>(intro l x W K hK;obtain⟨⟨i,k,x⟩,row,b4,hx⟩:=x;obtain⟨⟨aA,cA,eA,_⟩,⟨aF,cF,eF,_⟩,_⟩:=HG.2.1.ints i row b4 k x hx;dsimp only at hK⊢;rw[eA,eF] at hK⊢;simp only[List.zip_toArray,List.zip_cons_cons,List.zip_nil_right,List.foldl_toArray',List.size_toArray,lD,List.length_nil,List.foldl_cons,List.foldl_nil,ga] at hK;gi_wp2;exact hK)
 case body=>(
 rintro l pre x b1 b2 W n4 u1 u3 e7 b7 ⟨hf,he,b5,hs,e8,a1⟩ _;obtain⟨⟨i,k,x⟩,row,b4,hx⟩:=x;obtain⟨i5,i6,_⟩:=HG.2.1.ints i row b4 k x hx;have hW:=d9.out.trans b5;have j5:=fun wn (C:aa All W wn)=>ae.keep (hW.trans C).all i5;have j6:=fun wn (C:aa All W wn)=>ae.keep (hW.trans C).all i6;obtain⟨aA,cA,eA,_,u2,_⟩:=i5;obtain⟨aF,cF,eF,_⟩:=i6;unfold maxLen at u2;dsimp only at e7 b7⊢;rw[eA] at b7 j5⊢;rw[eF] at b7 j6⊢;have j9:=mG b4;have k0:=mG hx;have r0:=(lS.1 b4).1;have a8:=fun wn (C:aa All W wn)=>n9.1.keep (b5.trans C) (fun _ _=>trivial) trivial;have k1:=(n9.2.1.kept b5 trivial).cell 0;obtain⟨x0,x1⟩:=e7.c2;obtain⟨y0,y1,y2,y3,y4,y5,y6,y7,y8⟩:=b7.c9;simp only[gc] at k1;have u4:=d9.out.size;have k2:∀z:gQ,z∈(pre++[(⟨(i,k,x),row,b4,hx⟩:EJ b.Nm)]).map Subtype.val→z∈pre.map Subtype.val∨z=(i,k,x):=fun z hz=>by
  rw[gU] at hz;rcases dV.1 hz with h|h;·exact .inl h
  exact .inr (ce.1 h)
 by_cases h3:x.kind=3;·(
 have t3:=yK x.kind 3 (by omega);have hC:=Hd _ _ _ gk b pl tt x _ _ i k W (a8 W kR) HG.1 HX.2.2.2.2.2.2.1 r0 (j5 W kR) (j6 W kR) (HG.1.phi row j9 x k0 h3) (HG.1.args row j9 x k0) (HG.1.Nn row j9 x k0);have b8:uj b i k x=tA b i x:=JA h3;obtain⟨pf,r4⟩:=eR (tA b i x);rw[r4] at hC b8;have HC:=J6 hC b8 a1 b5 hs k2;clear hC b8 r4 a1 h3 a8 j5 j6 hW k2;by_cases hz:pf=0;·(
 have tz:(pf !=0)=false:=by rw[ru];exact hz
 gi_wp2_with (refine⟨trivial,?_⟩;gi_at_call 35;refine(CallsIn.inRound l (callsIn_wide.2 HC.1)).mono ?_;rintro e W8 ⟨rfl,I⟩;have fW:=hf.kept I trivial;have eW:=he.kept I trivial;have oW:=b7.kept I trivial;have q1:=eW.cell 0;have q2:=eW.free 0;have q3:=fW.cell 0;have q4:=fW.free 0;have q5:=oW.cell 8;simp only[gc] at q1 q3 q5;have l4:=I.size);refine⟨((KeepsOthers.of_kept I).trans (KeepsOthers.setCell _ _ _)).from _,fun h=>h.kept (I.all.setCell (p:=⟨wc.heap.size+1,0,none⟩) (.inl (by simp;omega)) _),fW.far (by simp) _,?_,(HC.2.2.2.1.trans I).setCell (p:=⟨wc.heap.size+1,0,none⟩) (.inr (by simp)) _,by simp;have:=HC.2.2.2.2.1;omega,e8,fun u hu=>?_⟩
 ·have:=eW.set 0 (.int .i64 0)
  simpa using this
 rcases HC.2.2.2.2.2 u hu with h|rfl;·exact HC.2.2.1 u h
 rw[HC.2.1];exact hz)
 have tz:(pf !=0)=true:=by rw[bne_iff_ne];exact hz
 gi_wp2_with (refine⟨trivial,?_⟩;gi_at_call 35;refine(CallsIn.inRound l (callsIn_wide.2 HC.1)).mono ?_;rintro e W8 ⟨rfl,I⟩;have fW:=hf.kept I trivial;have eW:=he.kept I trivial;have oW:=b7.kept I trivial;have q1:=eW.cell 0;have q2:=eW.free 0;have q3:=fW.cell 0;have q4:=fW.free 0;have q5:=oW.cell 8;simp only[gc] at q1 q3 q5;have l4:=I.size);refine⟨(((KeepsOthers.of_kept I).trans (KeepsOthers.setCell _ _ _)).trans (KeepsOthers.setCell _ _ _)).from _,rfl,pre,_,rfl,HC.2.2.1,by rw[HC.2.1];exact hz,?_,?_,((HC.2.2.2.1.trans I).setCell (p:=⟨wc.heap.size+1,0,none⟩) (.inr (by simp)) _).setCell (p:=⟨wc.heap.size,0,none⟩) (.inr (by simp)) _,by simp;have:=HC.2.2.2.2.1;omega,e8⟩
 ·have:=(fW.far (p:=⟨wc.heap.size+1,0,none⟩) (by simp) (.int .i64 pf)).set 0 (.int .i64 x.Np)
  simpa using this
 have:=(eW.set 0 (.int .i64 pf)).far (p:=⟨wc.heap.size,0,none⟩) (by simp) (.int .i64 x.Np);rw[HC.2.1];simpa using this)
 have t3:=nK x.kind 3 (by omega);have HJ:=J10 j5 a8 a1 b5 hs k2 e7 b7 hf he;have H3:=oH h3;clear j5 j6 a8 a1 h3 hW k2 k1 x0 x1 y1 y2 y3 y4 y6 y7 y8;gi_wp2
 gi_loopw [85] (fun s wr=>∃m:Nat,m≤x.args.length∧s=.int .i64 m∧aa All W wr∧∀(j:Nat) v,j<m→x.args[j]? =some v→ky b v i k) (fun s _=>x.args.length-(intOf s).toNat)
 ·exact⟨0,by omega,rfl,kR,fun j v hj=>by omega⟩
 obtain⟨m,hm,rfl,a6,c1⟩:=hrel;clear y0 y5;have e7:=HJ.2.2.2.2.2.2.1.kept a6 trivial;have b7:=HJ.2.2.2.2.2.2.2.1.kept a6 trivial;have hf:=HJ.2.2.2.2.2.2.2.2.1.kept a6 trivial;have he:=HJ.2.2.2.2.2.2.2.2.2.kept a6 trivial;have c2:=HJ.2.2.2.1.trans a6;have k1:=(n9.2.1.kept c2 trivial).cell 0;simp only[gc] at k1;obtain⟨x0,x1⟩:=e7.c2;have u5:=a6.size;have u6:=HJ.2.2.2.2.1;by_cases s5:m<x.args.length;·(
 obtain⟨v,hv⟩:=eG s5;have k3:=HG.1.args row j9 x k0 v (mG hv);obtain⟨vn,o2⟩:∃vn:Nat,v=vn:=⟨v.toNat,by omega⟩;rw[o2] at hv k3;obtain⟨vb,vo,vv,rfl,_,u7,rfl,_⟩:=de (HJ.1 wr a6) hv;have e9:=AZ _ gk b pl tt vn i k wr (HJ.2.1 wr a6) HG.1 HX.2.2.2.2.2.2.1 k3.2 r0;by_cases ht:ky b vn i k;·(
 rw[aw ht] at e9;have Y:=J5 e9 ht hv c1 a6;clear e9 ht hv c1 a6 k3 o2 e7 b7 hf he c2;gi_wp2_with (refine⟨trivial,?_⟩;gi_at_call 36;refine(CallsIn.inRound l (callsIn_wide.2 Y.1)).mono ?_;rintro e W8 ⟨rfl,I⟩)
 go_roundw
 case rel=>
  refine⟨m+1,by omega,by simp,Y.2.2.2.2.trans I,fun j v hj o3=>?_⟩;by_cases e:j=m;·subst e;rw[Y.2.2.1] at o3;cases o3;exact Y.2.1
  exact Y.2.2.2.1 j v (by omega) o3
 case measure=>simp[intOf];omega)
 rw[az ht] at e9;have b8:uj b i k x=19:=Lg H3.out (mG hv) ht;have Y:=J3 e9 b8 a6;clear e9 ht hv c1 b8 k3 o2;gi_wp2_with (refine⟨trivial,?_⟩;gi_at_call 36;refine(CallsIn.inRound l (callsIn_wide.2 Y.1)).mono ?_;rintro e W8 ⟨rfl,I⟩;have fW:=hf.kept I trivial;have eW:=he.kept I trivial;have oW:=b7.kept I trivial;have q1:=eW.cell 0;have q2:=eW.free 0;have q3:=fW.cell 0;have q4:=fW.free 0;have q5:=oW.cell 8;simp only[gc] at q1 q3 q5;have l4:=I.size);refine⟨(((KeepsOthers.of_kept (a6.trans I)).trans (KeepsOthers.setCell _ _ _)).trans (KeepsOthers.setCell _ _ _)).from _,rfl,pre,_,rfl,HJ.2.2.1,by rw[Y.2.1];decide,?_,?_,((c2.trans I).setCell (p:=⟨wc.heap.size,0,none⟩) (.inr (by simp)) _).setCell (p:=⟨wc.heap.size+1,0,none⟩) (.inr (by simp)) _,by simp;omega,e8⟩
 ·have:=(fW.set 0 (.int .i64 x.Np)).far (p:=⟨wc.heap.size+1,0,none⟩) (by simp) (.int .i64 19)
  simpa using this
 have:=(eW.far (p:=⟨wc.heap.size,0,none⟩) (by simp) (.int .i64 x.Np)).set 0 (.int .i64 19);rw[Y.2.1];simpa using this)
 obtain rfl:m=x.args.length:=by omega
 have b8:uj b i k x=0:=Ms H3.out fun v hv=>by obtain⟨j,hj⟩:=fB.1 hv;exact c1 j v (lS.1 hj).1 hj
 have Y:=J5 b8 a6 hf he c2;clear b8 c1 a6 hf he c2;gi_wp2;refine⟨(KeepsOthers.of_kept Y.2.1).from _,fun h=>h.kept Y.2.1.all,Y.2.2.1,Y.2.2.2.1,Y.2.2.2.2,by omega,e8,fun u hu=>?_⟩;rcases HJ.2.2.2.2.2.1 u hu with h|rfl;·exact HJ.2.2.1 u h
 exact Y.1)
 case done=>(rintro D xs W hD hS ⟨hf,he,b5,hs,e8,a1⟩ hK;rw[hS] at a1;have HZ:=J3 (show oK b=(0,0) by rw[HN.out];exact CR a1) (d9.out.trans b5) hK;have qf:=hf.cell 0;have qe:=he.cell 0;simp only[gc] at qf qe;clear hf he b5 a1 hS hK;go_wp2;go_quiet (fail);go_wp2;rw[Exit.noGoto_ret];refine⟨by simp,.inl ⟨_,_,rfl,run_takeDeferred HZ.2.2,?_⟩⟩;exact⟨.tuple #[.int .i64 0,.int .i64 0],by simp[results,Tryz.f21,go_sem],.of HZ.1 (aa.put (HZ.2.1.drewN _) (.inr (by have:=d9.out.size;have:=HL.2.2.2;omega)) _)⟩)
 rintro D c pre W hD hS ⟨rfl,s6,x,rfl,a1,hx,hf,he,b5,hs,e8⟩ hK;rw[gU] at hS;have HZ:=J3 (show oK b=(x.1.2.2.Np,uj b x.1.1 x.1.2.1 x.1.2.2) by rw[HN.out];exact zR hS a1 hx) (d9.out.trans b5) hK;obtain⟨⟨i,k,x⟩,row,b4,u9⟩:=x;dsimp only at hf he HZ;obtain⟨z,hz⟩:=eR (uj b i k x);rw[hz] at he HZ;have qf:=hf.cell 0;have qe:=he.cell 0;simp only[gc] at qf qe;clear hf he b5 a1 hS hK hx hz;rw[wpIn_wide];go_wp2;go_quiet (fail);go_wp2;rw[Exit.noGoto_ret];refine⟨by simp,.inl ⟨_,_,rfl,run_takeDeferred HZ.2.2,?_⟩⟩;exact⟨.tuple #[.int .i64 x.Np,.int .i64 z],by simp[results,Tryz.f21,go_sem],.of HZ.1 (aa.put (HZ.2.1.drewN _) (.inr (by have:=d9.out.size;have:=HL.2.2.2;omega)) _)⟩
end
theorem tJ (S:Nat→Prop)(pv cv:Value)(p:aI)(c:aU)(w:World)(hp:gR S w pv p)(hc:mu S w cv c)(hl:cP w)(hS:∀b,S b→b<w.heap.size)(b9:jU p)(c0:iH c)(hN:eN p c↔eT p c):
 Calls prog 9 #[pv,cv] w (rB p c w):=by
 have c3:=bG.la hp;have c4:=fJ.la hc;obtain⟨h2,vu,vi,vo,rfl,e1,e2,e3,e4,e5⟩:=hp;obtain⟨a1,n1,rfl,l1,l2,_⟩:=e1;obtain⟨a2,n2,rfl,_⟩:=e2;obtain⟨a3,n3,rfl,_⟩:=e3;obtain⟨a4,n4,rfl,_⟩:=e4;obtain⟨ka,kf,rfl,e6,c5,e7⟩:=hc;have c6:=cE.la c5;obtain⟨A1,c1,rfl,m1,m2,m3,_⟩:=e6;obtain⟨A2,c2,rfl,m4,m5,m6,_⟩:=c5;unfold maxLen at*;obtain⟨W0,R⟩:=eQ ((w.alloc (.cells #[.slice a1 p.Ng.length n1,.slice a2 p.up.length n2,.slice a3 p.Ni.length n3,.slice a4 p.Nh.length n4,.int .i64 p.Nj] 26)).alloc (.cells #[.slice A1 c.Nk.length c1,.slice A2 c.Nl.length c2,.int .i64 c.main] 30));have J:aa All w W0:=by rw[R];exact(kR.alloc _).alloc _
 have bP:al W0 w.heap.size 26 #[.slice a1 p.Ng.length n1,.slice a2 p.up.length n2,.slice a3 p.Ni.length n3,.slice a4 p.Nh.length n4,.int .i64 p.Nj]:=by rw[R];exact(al.new _ _ _).alloc _
 have bK:al W0 (w.heap.size+1) 30 #[.slice A1 c.Nk.length c1,.slice A2 c.Nl.length c2,.int .i64 c.main]:=by rw[R];exact ac (by simp)
 obtain⟨p0,p1,p2,p3,p4⟩:=bP.c5;obtain⟨k0,k1,k2⟩:=bK.c3;have HW:=J5 R J bP bK c6;have b7:=Am S _ _ p c W0 (c3 W0 J) (c4 W0 J) (hl.keep J) (fun b hb=>by have:=hS b hb;have:=J.size;omega) b9 c0;rw[mU hN] at b7;have HR:=oH b7;clear b7 hN hl hS b9 c0;clear R J bP bK c3 c4 c6 e5 e7;go_enter func9,ntmps9;go_upto_region 1 with fail;rw[←HW.1];go_wp2_with fail;refine HR.out.mono ?_;rintro e w1 ⟨rfl,b8⟩;have c7:=oH b8;have c8:=oH (HW.2.1.trans b8);clear b8 p0 p1 p2 p3 p4 k0 k1 k2;have Y:=HW.2.2.2.1.kept c7.out trivial;obtain⟨k0,k1,k2⟩:=Y.c3;clear Y;by_cases o:eT p c
 case neg=>(rw[az o];have HN:=oH (BF o);clear o;go_wp2_with fail;exact bodyPost_ret (v:=.tuple #[.int .i64 0,.int .i64 0,.int .i64 1]) (by simp[results,Tryz.f9,go_sem]) rfl (.of HN.out c8.out))
 rw[aw o];have h3:=o.2.2.1;have a8:=oH o;clear o;go_wp2_with fail;go_loopg [18] c.Nl.length (fun g s wr=>∃j:Nat,j≤c.Nl.length∧g=c.Nl.length-j∧s=.int .i64 j∧aa All w1 wr∧∀i:Nat,i<j→∀b,c.Nl[i]? =some b→(oK b).2=0);·exact⟨0,by omega,by omega,rfl,kR,fun i hi=>by omega⟩
 obtain⟨j,hj,rfl,rfl,a6,I⟩:=hrel;have a7:=c8.out.trans a6;clear k0 k1 k2;have Y:=(HW.2.2.2.1.kept c7.out trivial).kept a6 trivial;obtain⟨k0,k1,k2⟩:=Y.c3;clear Y;by_cases e8:j<c.Nl.length;·(
 obtain⟨b,hb⟩:=eG e8;obtain⟨gb,go,h4,rfl,e9,c9,b0,bv,rfl,d7,h0,C⟩:=bh (HW.2.2.2.2 wr a7) hb;have b6:=cu.la d7;obtain⟨vA,vc,rfl,_⟩:=d7;obtain⟨W5,b1⟩:=eQ (wr.alloc (.cells #[.int .i64 b.params,.int .i64 b.vars,.slice vA b.Nm.length vc] 35));have b3:aa All wr W5:=by rw[b1];exact kR.alloc _
 have b5:al W5 wr.heap.size 35 #[.int .i64 b.params,.int .i64 b.vars,.slice vA b.Nm.length vc]:=by rw[b1];exact ac rfl
 obtain⟨y0,y1,y2⟩:=b5.c3;have d8:b.Nm.flatten.length≤4096:=dA (sJ (dt.2 ⟨b,mG hb,rfl⟩)) a8.2.2.2.2.2.2.2.2;have b4:=Ea S _ b W5 (b6 W5 b3) (Kd (a8.2.2.2.2.2.2.2.1 b (mG hb))) d8;have z0:=b0 0 _ rfl;rw[cJ] at z0;have z1:=b0 1 _ rfl;have z2:=b0 2 _ rfl;obtain⟨fx,fy,hf⟩:∃fx fy,oK b=(fx,fy):=⟨_,_,rfl⟩;unfold vV at b4;rw[hf] at b4;have HC:=J6 b4 (a6.trans b3) (a7.trans b3) I hb hf;have h1:=oH b1;clear b4 a6 a7 I hb hf b0 h0 C e9 c9 b1 b3 b5 b6 d8;go_upto_region 6 with fail;rw[←h1.out];clear z0 z1 z2 k0 k1 k2;go_wp2_with fail;refine HC.1.mono ?_;rintro e w2 ⟨rfl,d9⟩;have e0:=oH d9;clear d9;by_cases hz:fy=0;·(
 have tz:(fy !=0)=false:=by rw[ru];exact hz
 have HZ:=oH (show(oK b).2=0 by rw[HC.2.2.2.2.2];exact hz);clear hz;go_wp2_with fail;go_roundg (c.Nl.length-(j+1))
 ·refine⟨j+1,by omega,rfl,by go_num,HC.2.1.trans e0.out,fun i hi b2 C=>?_⟩
  by_cases e:i=j;·subst e;rw[HC.2.2.2.2.1] at C;cases C;exact HZ.out
  exact HC.2.2.2.1 i (by omega) b2 C
 omega)
 have tz:(fy !=0)=true:=by rw[bne_iff_ne];exact hz
 have HZ:=oH (show kV p c=((j:Int),fx,fy) by rw[kW a8.out,xP HC.2.2.2.2.1 (fun i hi b2 C=>HC.2.2.2.1 i hi b2 C) (by rw[HC.2.2.2.2.2];exact hz),HC.2.2.2.2.2,dU]);clear hz;go_wp2_with fail;exact bodyPost_ret (v:=.tuple #[.int .i64 j,.int .i64 fx,.int .i64 fy]) (by simp[results,Tryz.f9,go_sem]) rfl (.of HZ.out (HC.2.2.1.trans e0.out)))
 obtain rfl:j=c.Nl.length:=by omega
 have HZ:=oH (show kV p c=(0,0,0) by rw[kW a8.out];exact oD fun b hb=>by obtain⟨i,hi⟩:=fB.1 hb;exact I i (lS.1 hi).1 b hi);have HK:=oH a7;clear a6 a7 I;go_wp2_with fail;exact bodyPost_ret (v:=.tuple #[.int .i64 0,.int .i64 0,.int .i64 0]) (by simp[results,Tryz.f9,go_sem]) rfl (.of HZ.out HK.out)
theorem AW (S:Nat→Prop)(pv cv:Value)(p:aI)(c:aU)(w:World)(hp:gR S w pv p)(hc:mu S w cv c)(hl:cP w)(hS:∀b,S b→b<w.heap.size)(J:jU p)(R:iH c)(hN:eN p c↔eT p c):
 Calls prog 14 #[pv,cv] w fun e w'=>e=.returned (.bool (pB (eT p c∧Bx c)))∧aa All w w':=by
 have Y:=bG.la hp;have a6:=fJ.la hc;obtain⟨b9,vu,vi,vo,rfl,b1,b2,b3,b4,b5⟩:=hp;obtain⟨a1,n1,rfl,l1,l2,_⟩:=b1;obtain⟨a2,n2,rfl,_⟩:=b2;obtain⟨a3,n3,rfl,_⟩:=b3;obtain⟨a4,n4,rfl,_⟩:=b4;obtain⟨ka,kf,rfl,b6,a7,b7⟩:=hc;have a8:=cE.la a7;obtain⟨A1,c1,rfl,m1,m2,m3,_⟩:=b6;obtain⟨A2,c2,rfl,m4,m5,m6,_⟩:=a7;unfold maxLen at*;obtain⟨I,o⟩:=eQ ((w.alloc (.cells #[.slice a1 p.Ng.length n1,.slice a2 p.up.length n2,.slice a3 p.Ni.length n3,.slice a4 p.Nh.length n4,.int .i64 p.Nj] 26)).alloc (.cells #[.slice A1 c.Nk.length c1,.slice A2 c.Nl.length c2,.int .i64 c.main] 30));have j:aa All w I:=by rw[o];exact(kR.alloc _).alloc _
 have bP:al I w.heap.size 26 #[.slice a1 p.Ng.length n1,.slice a2 p.up.length n2,.slice a3 p.Ni.length n3,.slice a4 p.Nh.length n4,.int .i64 p.Nj]:=by rw[o];exact(al.new _ _ _).alloc _
 have bK:al I (w.heap.size+1) 30 #[.slice A1 c.Nk.length c1,.slice A2 c.Nl.length c2,.int .i64 c.main]:=by rw[o];exact ac (by simp)
 obtain⟨p0,p1,p2,p3,p4⟩:=bP.c5;obtain⟨k0,k1,k2⟩:=bK.c3;have HW:=J5 o j bP bK a8;have HR:=oH (tJ S _ _ p c I (Y I j) (a6 I j) (hl.keep j) (fun b hb=>by have:=hS b hb;have:=j.size;omega) J R hN);clear hN hl hS J R;clear o j bP bK Y a6 a8 b5 b7;have hz:=CF (p:=p) (c:=c);unfold rB at HR;obtain⟨x,y,z,hx⟩:∃x y z,kV p c=(x,y,z):=⟨_,_,_,rfl⟩;rw[hx] at HR hz;have C:(z==0)=pB (eT p c∧Bx c):=by
  by_cases h:z=0;·rw[aw (hz.1 h)];simpa using h
  rw[az fun h'=>h (hz.2 h')];simpa using h
 obtain⟨q,hq⟩:=eR ((z==0));rw[hq] at C;have HZ:=oH C;clear hz C hx;go_enter func14,ntmps14;go_upto_region 1 with fail;rw[←HW.1];go_wp2_with fail;refine HR.out.mono ?_;rintro e w1 ⟨rfl,b0⟩;have b8:=oH (HW.2.1.trans b0);clear b0;go_wp2_with fail;go_ret;exact⟨by rw[←HZ.out]<;>rfl,b8.out⟩
end Go.Proofs.YtccbbkopmlnkpaaGreatDoor
