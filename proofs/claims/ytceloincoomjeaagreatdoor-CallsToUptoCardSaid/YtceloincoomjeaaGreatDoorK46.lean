/- Part 47 of the proof of CallsTo (its last part says what is proved). No condition. -/
import Derived.ProofKit
import Derived.OpenShut
import Derived.Lib.LaidTab
import Derived.Test.YtceloincoomjeaaGreatDoorK45
namespace Go.Proofs.YtceloincoomjeaaGreatDoor
set_option maxRecDepth 100000
set_option maxHeartbeats 8000000
open Go.RowKit Go.Proofs.Tryz
def pe:List (List Int):=[[1,2],[2],[]]
theorem yi:aP pe:=by decide
theorem Ae {a b:Nat}(h:dH pe a b):a<b∧b<3:=by
 obtain⟨row,j,l⟩:=h
 match a,j with
 |0,j=>cases j;simp at l;omega
 |1,j=>cases j;simp at l;omega
 |2,j=>cases j;simp at l
theorem Kl {a b:Nat}(h:aQ pe a b):a≤b:=by
 induction h with
 |refl=>exact cf _
 |step _ e j=>have:=Ae e;omega
theorem FD:dH pe 0 1:=⟨_,rfl,by decide⟩
theorem Mm:dH pe 0 2:=⟨_,rfl,by decide⟩
theorem Kk:dH pe 1 2:=⟨_,rfl,by decide⟩
theorem ir {a b:Nat}(o:b<3):ay pe a b=decide (a≤b):=by
 cases h:decide (a≤b) with
 |false=>
  cases j:ay pe a b with
  |false=>rfl
  |true=>have:=Kl (aY.1 j);simp at h;omega
 |true=>
  have l:a≤b:=by simpa using h
  refine aY.2 ?_;by_cases e:a=b;·subst e;exact .refl
  have:(a=0∧b=1)∨(a=0∧b=2)∨(a=1∧b=2):=by omega
  rcases this with ⟨rfl,rfl⟩|⟨rfl,rfl⟩|⟨rfl,rfl⟩;·exact .step .refl FD
  ·exact .step .refl Mm
  exact .step .refl Kk
theorem CU:bC pe=[[2],[1],[0]]:=by
 have hl:pe.length=3:=rfl;have hr:List.range 3=[0,1,2]:=rfl;have j:ay pe 0 0=true:=by rw[ir (by decide)];rfl
 have l:ay pe 0 1=true:=by rw[ir (by decide)];rfl
 have o:ay pe 0 2=true:=by rw[ir (by decide)];rfl
 have C:ay pe 1 0=false:=by rw[ir (by decide)];rfl
 have I:ay pe 1 1=true:=by rw[ir (by decide)];rfl
 have J:ay pe 1 2=true:=by rw[ir (by decide)];rfl
 have R:ay pe 2 0=false:=by rw[ir (by decide)];rfl
 have Y:ay pe 2 1=false:=by rw[ir (by decide)];rfl
 have Z:ay pe 2 2=true:=by rw[ir (by decide)];rfl
 simp[bC,gm,hl,hr,dm,eC,nk,Al,eB,j,l,o,C,I,J,R,Y,Z,List.find?,List.filter]
theorem KY {m i:Nat}(h:rt pe 0 m i):m≤i+1:=by
 induction h with
 |one=>omega
 |step _ e j=>have:=Ae e;omega
theorem KX (i:Nat):¬mD pe 0 i:=by rintro⟨k,_,_,⟨j,e,l⟩,_⟩;have:=Ae e;have:=Kl l;omega
theorem sy {i:Nat}(h:rt pe 0 (i+1) i):gy pe 0 i=i+1:=
 nh ⟨fun x=>absurd x (KX i),fun x=>absurd h.reach x,fun _ _=>⟨i+1,by simp,h,fun m hm=>KY hm⟩⟩
theorem Af:cZ pe 0=[1,2,3]:=by show [gy pe 0 0,gy pe 0 1,gy pe 0 2]=_;rw[sy .one,sy (.step .one FD),sy (.step (.step .one FD) Kk)];rfl
theorem FY (S T:Nat→Prop)(va vb:Value)(l lb:List Int)(w:World)(ha:aK S w va l)(hb:aK T w vb lb):
 Calls prog 18 #[va,vb] w fun e w'=>e=.returned (.bool (decide (l=lb)))∧aa All w w':=by
 obtain⟨a,cap,rfl,h1,h2,_,h⟩:=ha;obtain⟨b,b8,rfl,h3,h4,_,h'⟩:=hb;unfold maxLen at h2 h4;have hl:l.length≤9223372036854775807:=by omega
 have b9:lb.length≤9223372036854775807:=by omega
 have H:=oH h;have H':=oH h';clear h h' h1 h2 h3 h4;by_cases j:l.length=lb.length;·(
 have C:=oH j;have c0:l.length≤lb.length:=by omega
 have b4:(l.length !=lb.length)=false:=by simpa using j
 clear j;go_enter func18,ntmps18;go_wp2
 go_loopw [5] (fun i wr=>∃k:Nat,k≤l.length∧i=.int .i64 k∧l.take k=lb.take k∧aa All w wr) (fun i _=>l.length-(intOf i).toNat)
 ·exact⟨0,by omega,rfl,by simp,kR⟩
 obtain⟨k,hk,rfl,I,o⟩:=hrel;by_cases Z:k<l.length;·(
 have J:k<lb.length:=by omega
 obtain⟨b1,o1,c1,rfl,c3,a1,rfl,c4⟩:=H.out k l[k] (lG Z);obtain⟨b2,o2,c2,rfl,c5,a6,rfl,c6⟩:=H'.out k lb[k] (lG J);have c7:=o.cell (p:=⟨b1,o1+k,none⟩) trivial a1;have c8:=o.cell (p:=⟨b2,o2+k,none⟩) trivial a6;have a7:=qH Z J I;have a8:=oH I;have b5:=oH a7;have R:l[k]≠lb[k]→l≠lb:=fun h e=>h (by subst e;rfl);have b0:=oH R;clear a1 a6 I a7 R;generalize l[k]=x at*;generalize lb[k]=y at*;by_cases Y:x=y
 ·have b6:(x !=y)=false:=by simpa using Y
  have Hy:=oH Y;clear Y;go_wp2;go_quiet (fail);go_wp2
  go_roundw
  case rel=>exact⟨k+1,by omega,by go_num,b5.2 Hy.out,by repeat(first|assumption|apply aa.drewN|apply aa.drew)⟩
  case measure=>simp[intOf];omega
 have b6:(x !=y)=true:=by simpa using Y
 have Hy:=oH Y;clear Y;go_wp2;go_quiet (fail);go_wp2;go_ret;exact⟨by rw[cI (b0.out Hy.out)];rfl,by repeat(first|assumption|apply aa.drewN|apply aa.drew)⟩)
 have b3:k=l.length:=by omega
 have a8:=oH I;have b7:=oH b3;clear I b3;go_wp2;go_ret;exact⟨by have:=a8.out;rw[b7.out,dZ,C.out,dZ] at this;simp[this],o⟩)
 have b4:(l.length !=lb.length)=true:=by simpa using j
 have C:=oH j;clear j;go_enter func18,ntmps18;go_wp2;go_ret;exact⟨by rw[cI (fun e=>C.out (by rw[e]))];rfl,kR⟩
theorem lN {w:World}{g n:Nat}{l:List Int}(h:al w g 3 (aI l).toArray)(o:n=l.length)(C:l.length≤1000)(hw:∀x∈l,(Lit.int .i64 x).wf=true):aK All w (.slice (some ⟨g,0,none⟩) n n) l:=by subst o;refine Sl.of_blk h trivial (cf _) (by unfold maxLen;omega) (by omega) fun i x j=>⟨.int .i64 x,?_,rfl,hw x (mG j)⟩;simp[aI,j]
theorem zi {w:World}{g n:Nat}{cs:List Value}{ll:List (List Int)}(h:al w g 50 cs.toArray)(j:n=ll.length)(I:ll.length≤1000)(hw:∀(i:Nat) x,ll[i]? =some x→∃c,cs[i]? =some c∧aK All w c x):Rows All w (.slice (some ⟨g,0,none⟩) n n) ll:=by subst j;refine Sl.of_blk h trivial (cf _) (by unfold maxLen;omega) (by omega) fun i x l=>?_;obtain⟨c,o,C⟩:=hw i x l;exact⟨c,by simpa using o,C⟩
abbrev LQ (w:World):World:=((w.alloc (.cells #[.int .i64 1,.int .i64 2] 3)).alloc (.cells #[.int .i64 2] 3)).alloc (.cells #[.slice (some ⟨w.heap.size,0,none⟩) 2 2,.slice (some ⟨w.heap.size+1,0,none⟩) 1 1,.slice none 0 0] 50)
theorem BP (w:World):Rows All (LQ w) (.slice (some ⟨w.heap.size+1+1,0,none⟩) 3 3) pe:=by
 have l:al (LQ w) w.heap.size 3 (aI [1,2]).toArray:=((al.new _ _ _).alloc _).alloc _;have o:al (LQ w) (w.heap.size+1) 3 (aI [2]).toArray:=(ac (by simp)).alloc _;have C:al (LQ w) (w.heap.size+1+1) 50 [Value.slice (some ⟨w.heap.size,0,none⟩) 2 2,.slice (some ⟨w.heap.size+1,0,none⟩) 1 1,.slice none 0 0].toArray:=ac (by simp);refine zi C rfl (by decide) fun i x j=>?_
 match i,j with
 |0,j=>cases j;exact⟨_,rfl,lN l rfl (by decide) (by decide)⟩
 |1,j=>cases j;exact⟨_,rfl,lN o rfl (by decide) (by decide)⟩
 |2,j=>cases j;exact⟨_,rfl,Sl.nil⟩
abbrev Ad (w:World):World:=(((w.alloc (.cells #[.int .i64 2] 3)).alloc (.cells #[.int .i64 1] 3)).alloc (.cells #[.int .i64 0] 3)).alloc (.cells #[.slice (some ⟨w.heap.size,0,none⟩) 1 1,.slice (some ⟨w.heap.size+1,0,none⟩) 1 1,.slice (some ⟨w.heap.size+1+1,0,none⟩) 1 1] 50)
theorem FE (w:World):Rows All (Ad w) (.slice (some ⟨w.heap.size+1+1+1,0,none⟩) 3 3) [[2],[1],[0]]:=by
 have l:al (Ad w) w.heap.size 3 (aI [2]).toArray:=(((al.new _ _ _).alloc _).alloc _).alloc _;have o:al (Ad w) (w.heap.size+1) 3 (aI [1]).toArray:=((ac (by simp)).alloc _).alloc _;have C:al (Ad w) (w.heap.size+1+1) 3 (aI [0]).toArray:=(ac (by simp)).alloc _;have I:al (Ad w) (w.heap.size+1+1+1) 50 [Value.slice (some ⟨w.heap.size,0,none⟩) 1 1,.slice (some ⟨w.heap.size+1,0,none⟩) 1 1,.slice (some ⟨w.heap.size+1+1,0,none⟩) 1 1].toArray:=ac (by simp);refine zi I rfl (by decide) fun i x j=>?_
 match i,j with
 |0,j=>cases j;exact⟨_,rfl,lN l rfl (by decide) (by decide)⟩
 |1,j=>cases j;exact⟨_,rfl,lN o rfl (by decide) (by decide)⟩
 |2,j=>cases j;exact⟨_,rfl,lN C rfl (by decide) (by decide)⟩
theorem uF (w:World):Calls prog 10 #[] w fun e w'=>e=.returned (.bool true)∧aa All w w':=by go_enter func10,ntmps10;go_wp2_with fail;refine(Am All _ pe (LQ w) (BP w) yi).mono ?_;rintro e Z ⟨u,rfl,J,o⟩;rw[CU] at o;have a1:aa All w (LQ w):=(((aa.refl _ w).alloc _).alloc _).alloc _;have j:=aq.keep J.all (BP w);have a6:=o;obtain⟨Au,cu,rfl,_⟩:=a6;have H1:=J3 (a1.trans J) j o;clear J o a1 j;go_wp2_with fail;have C:aa All Z (Ad Z):=((((aa.refl _ Z).alloc _).alloc _).alloc _).alloc _;refine(zp _ _ _ _ _ _ (Ad Z) (aq.keep C.all H1.2.2) (FE Z)).mono ?_;rintro e w2 ⟨rfl,R⟩;have H2:=J2 (H1.1.trans (C.trans R)) (aq.keep (C.trans R).all H1.2.1);clear C R;have hd:decide ([[2],[1],[0]]=([[2],[1],[0]]:List (List Int)))=true:=rfl;rw[hd];go_wp2_with fail;refine(qW All _ pe 0 w2 H2.2 yi (by decide)).mono ?_;rintro e w3 ⟨u3,rfl,a7,I⟩;rw[Af] at I;have a8:=I;obtain⟨b2,b3,rfl,_⟩:=a8;have H3:=J2 (H2.1.trans a7) I;clear a7 I;go_wp2_with fail;have Y:aa All w3 (w3.alloc (.cells #[.int .i64 1,.int .i64 2,.int .i64 3] 3)):=(aa.refl _ w3).alloc _;refine(FY _ All _ _ _ [1,2,3] _ (ah.keep Y.all H3.2) (lN (l:=[1,2,3]) (al.new _ _ _) rfl (by decide) (by decide))).mono ?_;rintro e w4 ⟨rfl,b0⟩;have b1:decide ([1,2,3]=([1,2,3]:List Int))=true:=rfl;rw[b1];have H4:=oH (H3.1.trans (Y.trans b0));clear Y b0;go_wp2_with fail;go_ret;exact⟨rfl,H4.out⟩
theorem kj.sz {p:aH}(h:kj p):xF p:=
 ⟨fun s l=>fR (h.MZ s l) (by decide),fun x j=>fR (h.Nb x j) (by decide),fun x j=>fR (h.Na x j) (by decide)⟩
def kg {α:Type}(E:bT α)(ok:Prop)(x:α)(v:Value)(wn:World):Prop:=(ok∧∃A n k,v=.tuple #[.slice A n k,.int .i64 0]∧E All wn (.slice A n k) x)∨(¬ok∧v=.tuple #[.slice none 0 0,.int .i64 1])
theorem kg.keep {α:Type}{E:bT α}{ok:Prop}{x:α}{v:Value}{wn j:World}(g:bT.Good E)(l:aa All wn j)(h:kg E ok x v wn):kg E ok x v j:=by
 rcases h with ⟨o,A,n,k,e,C⟩|h;·exact .inl ⟨o,A,n,k,e,g.keep l C⟩
 exact .inr h
def EJ (v:Value):Prop:=∃A n k e,v=.tuple #[.slice A n k,.int .i64 e]
theorem kg.is {α:Type}{E:bT α}{ok:Prop}{x:α}{v:Value}{wn:World}(h:kg E ok x v wn):EJ v:=by
 rcases h with ⟨_,A,n,k,e,_⟩|⟨_,e⟩;·exact⟨A,n,k,0,e⟩
 exact⟨none,0,0,1,e⟩
def Ct (p:aH)(c:aE)(tp tc:Tmp)(R:Value→World→Prop)(t:Tmp)(v:Value)(wn:World):Prop:=if t=tp then dJ (fun b=>b<wn.heap.size) wn v p else if t=tc then cQ (fun b=>b<wn.heap.size) wn v c else R v wn
theorem Ct.keep {p:aH}{c:aE}{tp o:Tmp}{R:Value→World→Prop}(J:∀ {v wn j},aa All wn j→R v wn→R v j){wn j:World}(l:aa All wn j)(t:Tmp){v:Value}(h:Ct p c tp o R t v wn):Ct p c tp o R t v j:=by
 have Z:=l.size;unfold Ct at h⊢;by_cases C:t=tp
 ·rw[ap C] at h⊢
  exact cB.wide (fun b (Y:b<wn.heap.size)=>show b<j.heap.size by omega) (cB.keep l.all h)
 rw[ae C] at h⊢;by_cases I:t=o
 ·rw[ap I] at h⊢
  exact dc.wide (fun b (Y:b<wn.heap.size)=>show b<j.heap.size by omega) (dc.keep l.all h)
 rw[ae I] at h⊢;exact J l h
theorem zL.ans {p:aH}{c:aE}{w j:World}{e:Ending}(h:zL p c w e j):∃v,e=.returned v∧aa All w j∧kg Rows (bJ p c∧jH c) (cG c) v j:=by
 rcases h with ⟨h,u,l,o,I⟩|⟨h,l,o⟩
 ·have C:=aq.wide (fun _ _=>trivial) I
  obtain⟨A,k,rfl,_⟩:=id I;exact⟨_,l,o,.inl ⟨h,_,_,_,rfl,C⟩⟩
 exact⟨_,l,o,.inr ⟨h,rfl⟩⟩
theorem rL.ans {p:aH}{c:aE}{w j:World}{e:Ending}(h:rL p c w e j):∃v,e=.returned v∧aa All w j∧kg gD (bJ p c∧jH c) (iq p.Nc (cZ (cG c) c.main.toNat)) v j:=by
 rcases h with ⟨h,u,l,o,I⟩|⟨h,l,o⟩
 ·have C:=cR.wide (fun _ _=>trivial) I
  obtain⟨A,k,rfl,_⟩:=id I;exact⟨_,l,o,.inl ⟨h,_,_,_,rfl,C⟩⟩
 exact⟨_,l,o,.inr ⟨h,rfl⟩⟩
def In (w:World)(e:Ending)(w':World):Prop:=e=.returned (.bool true)∧aa All w w'
theorem xS (S:Nat→Prop)(pv cv:Value)(p:aH)(c:aE)(w:World)(C:dJ S w pv p)(hc:cQ S w cv c)(hl:gz w)(hS:∀b,S b→b<w.heap.size)(e0:kj p)(e9:lY c)(e7:rK c):
 Calls prog 3 #[pv,cv] w (In w):=by
 have hN:=Dr (p:=p) names e7;have i0:=e0.sz;have e1:=cB.la C;have b6:=dc.la hc;obtain⟨l0,vu,vi,vo,rfl,j5,j6,j7,j8,j9⟩:=C;obtain⟨a1,n1,rfl,_⟩:=j5;obtain⟨a2,n2,rfl,_⟩:=j6;obtain⟨a3,n3,rfl,_⟩:=j7;obtain⟨a4,n4,rfl,_⟩:=j8;obtain⟨ka,kf,rfl,k0,k1,k2⟩:=hc;obtain⟨A1,c1,rfl,_⟩:=k0;obtain⟨A2,c2,rfl,_⟩:=k1;obtain⟨W0,c6⟩:=eQ ((w.alloc (.cells #[.slice a1 p.MZ.length n1,.slice a2 p.up.length n2,.slice a3 p.Nb.length n3,.slice a4 p.Na.length n4,.int .i64 p.Nc] 26)).alloc (.cells #[.slice A1 c.Nd.length c1,.slice A2 c.Nf.length c2,.int .i64 c.main] 30));have o:aa All w W0:=by rw[c6];exact(kR.alloc _).alloc _
 have bP:al W0 w.heap.size 26 #[.slice a1 p.MZ.length n1,.slice a2 p.up.length n2,.slice a3 p.Nb.length n3,.slice a4 p.Na.length n4,.int .i64 p.Nc]:=by rw[c6];exact(al.new _ _ _).alloc _
 have bK:al W0 (w.heap.size+1) 30 #[.slice A1 c.Nd.length c1,.slice A2 c.Nf.length c2,.int .i64 c.main]:=by rw[c6];exact ac (by simp)
 have c7:=oH (fun wn (j:aa All W0 wn)=>Hk S _ c wn (b6 wn (o.trans j)));have c8:=oH (fun wn (j:aa All W0 wn)=>yR S _ p wn (e1 wn (o.trans j)));have c9:=oH (fun(hf:MH c) wn (j:aa All W0 wn)=>wD S _ c wn (b6 wn (o.trans j)) (fun b hb=>by have:=hS b hb;have:=(o.trans j).size;omega) hf);have h0:=oH (fun wn (j:aa All W0 wn) u v (hu:dJ (fun b=>b<wn.heap.size) wn u p) (hv:cQ (fun b=>b<wn.heap.size) wn v c)=>(qT _ u v p c wn hu hv (hl.keep (o.trans j)) (fun b hb=>hb) e0 e9 hN).mono fun _ _ h=>h.ans);have h1:=oH (fun wn (j:aa All W0 wn) u v (hu:dJ (fun b=>b<wn.heap.size) wn u p) (hv:cQ (fun b=>b<wn.heap.size) wn v c)=>(CH _ u v p c wn hu hv (hl.keep (o.trans j)) (fun b hb=>hb) e0 e9 hN).mono fun _ _ h=>h.ans);have i1:=oH (fun wn (j:aa All W0 wn)=>uw S _ _ p c wn (e1 wn (o.trans j)) (b6 wn (o.trans j)) i0);have i2:=oH (fun(b1:bJ p c) wn (j:aa All W0 wn)=>yY S _ _ p c wn (e1 wn (o.trans j)) (b6 wn (o.trans j)) b1);have i4:=oH (fun(hn:c.Nf.length≤256) wn (j:aa All W0 wn)=>vP S _ c wn (b6 wn (o.trans j)) hn);have HF:=oH (show∀wn,aa All W0 wn→wn.cell? ⟨w.heap.size,0,none⟩=some (.slice a1 p.MZ.length n1)∧wn.cell? ⟨w.heap.size,1,none⟩=some (.slice a2 p.up.length n2)∧wn.cell? ⟨w.heap.size,2,none⟩=some (.slice a3 p.Nb.length n3)∧wn.cell? ⟨w.heap.size,3,none⟩=some (.slice a4 p.Na.length n4)∧wn.cell? ⟨w.heap.size,4,none⟩=some (.int .i64 p.Nc)∧wn.cell? ⟨w.heap.size+1,0,none⟩=some (.slice A1 c.Nd.length c1)∧wn.cell? ⟨w.heap.size+1,1,none⟩=some (.slice A2 c.Nf.length c2)∧wn.cell? ⟨w.heap.size+1,2,none⟩=some (.int .i64 c.main) from fun wn j=>⟨(bP.kept j trivial).cell 0,(bP.kept j trivial).cell 1,(bP.kept j trivial).cell 2,(bP.kept j trivial).cell 3,(bP.kept j trivial).cell 4,(bK.kept j trivial).cell 0,(bK.kept j trivial).cell 1,(bK.kept j trivial).cell 2⟩);have HW:=J2 c6 o;clear c6 o bP bK e1 b6 j9 k2 hl hS e0 e9 hN i0 e7;go_enter func3,ntmps3;go_upto_region 1 with fail;rw[←HW.1];obtain⟨I,J,R,Y,Z,a6,a7,a8⟩:=HF.out W0 kR;go_wp2_with fail;refine(c7.out W0 kR).mono ?_;rintro e w1 ⟨bf,rfl,d7,e2⟩;clear I J R Y Z a6 a7 a8;cases bf
 case false=>(have b0:=oH e2;clear e2 d7;go_wp2_with fail;go_ret;exact⟨rfl,HW.2.trans b0.out⟩)
 have b5:=oH (d7 rfl);have b0:=oH e2;clear e2 d7;go_wp2_with fail;refine R1 10 w1 [16,18,19] (Ct p c 16 18 (kg Rows (bJ p c∧jH c) (cG c))) (fun i=>if i=1 then some (fun _=>True) else if i=3 then some (fun _=>True) else if i=4 then some EJ else none) ?_;refine O3 (fun wn j C=>by(obtain⟨I,J,R,Y,Z,a6,a7,a8⟩:=HF.out wn (b0.out.trans j);go_simp;with_reducible rfl)) ?_;refine O6 (fun wn j C=>?_) (fun wn j C=>?_) ?_
 ·go_simp
  refine(c8.out wn (b0.out.trans j)).mono ?_;rintro e wq ⟨u,rfl,l,hu⟩;exact .inl ⟨rfl,_,rfl,trivial,j.trans l,fun t _ v h=>h.keep (fun j h=>kg.keep aq j h) l t,fun d hd _=>by cases hd;exact cB.wide (fun b hb=>hb.2) hu⟩
 ·obtain⟨e,wq,_,⟨u,rfl,l,hu⟩,_⟩:=(c8.out wn (b0.out.trans j)) []
  exact⟨u,wq,trivial,j.trans l,fun t _ v h=>h.keep (fun j h=>kg.keep aq j h) l t,fun d hd _=>by cases hd;exact cB.wide (fun b hb=>hb.2) hu⟩
 rintro vp _;simp only[PS];refine O3 (fun wn j C=>by(obtain⟨I,J,R,Y,Z,a6,a7,a8⟩:=HF.out wn (b0.out.trans j);go_simp;with_reducible rfl)) ?_;refine O6 (fun wn j C=>?_) (fun wn j C=>?_) ?_
 ·go_simp
  refine(c9.out b5.out wn (b0.out.trans j)).mono ?_;rintro e wq ⟨u,rfl,l,hu⟩;exact .inl ⟨rfl,_,rfl,trivial,j.trans l,fun t _ v h=>h.keep (fun j h=>kg.keep aq j h) l t,fun d hd _=>by cases hd;exact dc.wide (fun b hb=>hb.2) hu⟩
 ·obtain⟨e,wq,_,⟨u,rfl,l,hu⟩,_⟩:=(c9.out b5.out wn (b0.out.trans j)) []
  exact⟨u,wq,trivial,j.trans l,fun t _ v h=>h.keep (fun j h=>kg.keep aq j h) l t,fun d hd _=>by cases hd;exact dc.wide (fun b hb=>hb.2) hu⟩
 rintro vc _;simp only[PS];refine O6 (fun wn j C=>?_) (fun wn j C=>?_) ?_;·have b2:=C 16 (by decide) (by decide) _ rfl;have b3:=C 18 (by decide) (by decide) _ rfl;go_simp;refine(h0.out wn (b0.out.trans j) _ _ b2 b3).mono ?_;rintro e wq ⟨u,rfl,l,hu⟩;exact .inl ⟨rfl,_,rfl,hu.is,j.trans l,fun t _ v h=>h.keep (fun j h=>kg.keep aq j h) l t,fun d hd _=>by cases hd;exact hu⟩
 ·have b2:=C 16 (by decide) (by decide) _ rfl
  have b3:=C 18 (by decide) (by decide) _ rfl;obtain⟨e,wq,_,⟨u,rfl,l,hu⟩,_⟩:=(h0.out wn (b0.out.trans j) _ _ b2 b3) [];exact⟨u,wq,hu.is,j.trans l,fun t _ v h=>h.keep (fun j h=>kg.keep aq j h) l t,fun d hd _=>by cases hd;exact hu⟩
 rintro v ⟨A3,m3,c3,e3,rfl⟩;simp only[PS];iterate 5 refine O0 ?_
 refine aG fun wt b7 hF=>?_;simp only[dK];have HT:=oH (b0.out.trans b7);have i5:kg Rows (bJ p c∧jH c) (cG c) (.tuple #[.slice A3 m3 c3,.int .i64 e3]) wt:=hF 19 (by decide) _ rfl;have i6:=oH i5;clear b7 hF i5;go_wp2_with fail;refine R1 10 wt [24,26,27] (Ct p c 24 26 (kg gD (bJ p c∧jH c) (iq p.Nc (cZ (cG c) c.main.toNat)))) (fun i=>if i=1 then some (fun _=>True) else if i=3 then some (fun _=>True) else if i=4 then some EJ else none) ?_;refine O3 (fun wn j C=>by(obtain⟨I,J,R,Y,Z,a6,a7,a8⟩:=HF.out wn (HT.out.trans j);go_simp;with_reducible rfl)) ?_;refine O6 (fun wn j C=>?_) (fun wn j C=>?_) ?_
 ·go_simp
  refine(c8.out wn (HT.out.trans j)).mono ?_;rintro e wq ⟨u,rfl,l,hu⟩;exact .inl ⟨rfl,_,rfl,trivial,j.trans l,fun t _ v h=>h.keep (fun j h=>kg.keep cR j h) l t,fun d hd _=>by cases hd;exact cB.wide (fun b hb=>hb.2) hu⟩
 ·obtain⟨e,wq,_,⟨u,rfl,l,hu⟩,_⟩:=(c8.out wn (HT.out.trans j)) []
  exact⟨u,wq,trivial,j.trans l,fun t _ v h=>h.keep (fun j h=>kg.keep cR j h) l t,fun d hd _=>by cases hd;exact cB.wide (fun b hb=>hb.2) hu⟩
 rintro l1 _;simp only[PS];refine O3 (fun wn j C=>by(obtain⟨I,J,R,Y,Z,a6,a7,a8⟩:=HF.out wn (HT.out.trans j);go_simp;with_reducible rfl)) ?_;refine O6 (fun wn j C=>?_) (fun wn j C=>?_) ?_
 ·go_simp
  refine(c9.out b5.out wn (HT.out.trans j)).mono ?_;rintro e wq ⟨u,rfl,l,hu⟩;exact .inl ⟨rfl,_,rfl,trivial,j.trans l,fun t _ v h=>h.keep (fun j h=>kg.keep cR j h) l t,fun d hd _=>by cases hd;exact dc.wide (fun b hb=>hb.2) hu⟩
 ·obtain⟨e,wq,_,⟨u,rfl,l,hu⟩,_⟩:=(c9.out b5.out wn (HT.out.trans j)) []
  exact⟨u,wq,trivial,j.trans l,fun t _ v h=>h.keep (fun j h=>kg.keep cR j h) l t,fun d hd _=>by cases hd;exact dc.wide (fun b hb=>hb.2) hu⟩
 rintro l2 _;simp only[PS];refine O6 (fun wn j C=>?_) (fun wn j C=>?_) ?_;·have b2:=C 24 (by decide) (by decide) _ rfl;have b3:=C 26 (by decide) (by decide) _ rfl;go_simp;refine(h1.out wn (HT.out.trans j) _ _ b2 b3).mono ?_;rintro e wq ⟨u,rfl,l,hu⟩;exact .inl ⟨rfl,_,rfl,hu.is,j.trans l,fun t _ v h=>h.keep (fun j h=>kg.keep cR j h) l t,fun d hd _=>by cases hd;exact hu⟩
 ·have b2:=C 24 (by decide) (by decide) _ rfl
  have b3:=C 26 (by decide) (by decide) _ rfl;obtain⟨e,wq,_,⟨u,rfl,l,hu⟩,_⟩:=(h1.out wn (HT.out.trans j) _ _ b2 b3) [];exact⟨u,wq,hu.is,j.trans l,fun t _ v h=>h.keep (fun j h=>kg.keep cR j h) l t,fun d hd _=>by cases hd;exact hu⟩
 rintro v ⟨A4,m4,c4,e4,rfl⟩;simp only[PS];iterate 5 refine O0 ?_
 refine aG fun h2 b7 hF=>?_;simp only[dK];have e5:=oH (HT.out.trans b7);have i7:kg gD (bJ p c∧jH c) (iq p.Nc (cZ (cG c) c.main.toNat)) (.tuple #[.slice A4 m4 c4,.int .i64 e4]) h2:=hF 27 (by decide) _ rfl;have e6:=J2 (i6.out.keep aq b7) i7;clear b7 hF i7 i6;obtain⟨I,J,R,Y,Z,a6,a7,a8⟩:=HF.out h2 e5.out;go_wp2_with fail;refine(i1.out h2 e5.out).mono ?_;rintro e w5 ⟨rfl,b8⟩;clear I J R Y Z a6 a7 a8;rcases e6.1 with ⟨b1,A,n,k,ee,hr⟩|⟨b9,ee⟩
 case inr=>(
 rw[au b9];cases ee;obtain⟨b1,_⟩|⟨_,ee⟩:=e6.2
 case inl=>exact absurd b1 b9
 cases ee;have k3:=oH (e5.out.trans b8);have HN:=oH b9;clear b8 b9;go_wp2_with fail;refine(uF _).mono ?_;rintro e w6 ⟨rfl,c0⟩;have k4:=oH c0;clear c0;go_wp2_with fail;go_ret;exact⟨rfl,HW.2.trans (k3.out.trans k4.out)⟩)
 rw[av b1];cases ee;obtain⟨_,A5,n5,k5,ee,h3⟩|⟨b9,_⟩:=e6.2
 case inr=>exact absurd b1 b9
 cases ee;have d8:c.Nf.length≤256:=by have:=b1.1.2.2.1;omega
 obtain⟨DL,h4⟩:=eR (iq p.Nc (cZ (cG c) c.main.toNat));have h5:=i2.out b1.1;have l3:DL.length≤64:=by rw[←h4];have:=b1.1.2.2.1;simp[iq,cZ,cG];omega
 rw[h4] at h3 h5;have e8:=J2 h5 (i4.out d8);have b4:=J3 (e5.out.trans b8) (fun wn (j:aa All w5 wn)=>aq.keep (b8.trans j) hr) (fun wn (j:aa All w5 wn)=>cR.keep (b8.trans j) h3);obtain⟨_,_,ee,_⟩:=hr;cases ee;obtain⟨_,_,ee,d1,d2,d3,_⟩:=h3;cases ee;unfold maxLen at d2;clear h5 b8 b1 d8 h4 i2 i4 e6 h0 h1 i1 c8 c9 c7;obtain⟨I,J,R,Y,Z,a6,a7,a8⟩:=HF.out w5 b4.1;go_wp2_with fail;refine(e8.1 w5 b4.1).mono ?_;rintro e w6 ⟨u2,rfl,c0,j0⟩;clear I J R Y Z a6 a7 a8;have d9:=J2 c0 (cR.la j0);obtain⟨A6,k6,rfl,f1,f2,f3,_⟩:=j0;unfold maxLen at f2;obtain⟨I,J,R,Y,Z,a6,a7,a8⟩:=HF.out w6 (b4.1.trans c0);clear c0;go_wp2_with fail;refine(e8.2 w6 (b4.1.trans d9.1)).mono ?_;rintro e w7 ⟨u7,rfl,h6,j1⟩;clear I J R Y Z a6 a7 a8;have k7:=oH h6;have h7:=zp All _ _ u7 (cG c) (cG c) w7 (b4.2.1 w7 (d9.1.trans h6)) j1;rw[bL (rfl:cG c=cG c)] at h7;have j2:=oH h7;clear h7;clear h6 j1;go_wp2_with fail;refine j2.out.mono ?_;rintro e w8 ⟨rfl,j3⟩;have h8:=oH (k7.out.trans j3);clear j3 j2;have tq:((DL.length:Int) !=(DL.length:Int))=false:=by simp
 go_wp2_with fail;go_loopg [10] DL.length (fun gg s wn=>∃k:Nat,k≤DL.length∧gg=DL.length-k∧s=.int .i64 k∧aa All w8 wn);·exact⟨0,by omega,by omega,rfl,kR⟩
 obtain⟨k,j,rfl,rfl,c5⟩:=hrel;by_cases k8:k<DL.length
 ·obtain⟨x,hx⟩:=eG k8;obtain⟨g1,o1,_,rfl,_,l4,rfl⟩:=bn (b4.2.2 wr (d9.1.trans (h8.out.trans c5))) hx;obtain⟨g2,o2,_,rfl,_,l5,rfl⟩:=bn (d9.2 wr (h8.out.trans c5)) hx;have t:(x !=x)=false:=by simp
  have h9:=oH c5;clear c5 hx;go_wp2_with fail;go_quiet (fail);go_wp2_with fail;go_roundg (DL.length-(k+1));·exact⟨k+1,by omega,rfl,by go_num,h9.out.drewN _⟩
  omega
 obtain rfl:k=DL.length:=by omega
 have h9:=oH c5;clear c5;go_wp2_with fail;refine(uF _).mono ?_;rintro e w9 ⟨rfl,j4⟩;have k9:=oH j4;clear j4;go_wp2_with fail;go_ret;exact⟨rfl,HW.2.trans (b4.1.trans (d9.1.trans (h8.out.trans (h9.out.trans k9.out))))⟩
section
section
variable {H:Type} {enc:TypeId×Value→H} {w:World}
def jm (w:World)(b:Nat):Prop:=b<w.heap.size
def fB {α:Type}(enc:TypeId×Value→H)(w:World)(t:TypeId)(E:cO α)(Q:α→Prop):Prop:=
 ∀fuel cs d ps,DataW.trod enc prog w 0 (fun _=>true) true fuel t cs=some (d,ps)→Rows.uptoBulk d≤1048576→∃x,E (jm w) w cs x∧Q x
theorem uJ {d:DataW H}{l:List (DataW H)}(h:d∈l):Rows.uptoBulk d≤Rows.uptoBulkAll l:=by
 induction l with
 |nil=>cases h
 |cons x r j=>
  simp only[Rows.uptoBulkAll];cases fX.1 h with
  |inl e=>subst e;omega
  |inr e=>have:=j e;omega
theorem Fc (d:DataW H):1≤Rows.uptoBulk d:=by
 cases d with
 |lit l=>cases l<;>simp[Rows.uptoBulk]
 |nil=>simp[Rows.uptoBulk]
 |ptr d=>simp[Rows.uptoBulk]
 |slice elems spare=>simp[Rows.uptoBulk]
 |agg parts=>simp[Rows.uptoBulk]
 |iface t d=>simp[Rows.uptoBulk]
 |map entries=>simp[Rows.uptoBulk]
 |held h=>simp[Rows.uptoBulk]
theorem Fb (l:List (DataW H)):l.length≤Rows.uptoBulkAll l:=by
 induction l with
 |nil=>simp[Rows.uptoBulkAll]
 |cons x r j=>have:=Fc x;simp only[Rows.uptoBulkAll,kI];omega
theorem Cc {α:Type}{P:Nat→α→Prop}:∀ {n:Nat},(∀i,i<n→∃x,P i x)→∃l:List α,l.length=n∧∀(i:Nat) x,l[i]? =some x→P i x
 |0,_=>⟨[],rfl,fun i x h=>by simp at h⟩
 |n+1,h=>by(
 obtain⟨l,o,C⟩:=Cc (n:=n) fun i hi=>h i (by omega);obtain⟨x,I⟩:=h n (by omega);refine⟨l++[x],by simp[o],fun i y j=>?_⟩;by_cases hi:i<n
 ·rw[ma (by omega)] at j
  exact C i y j
 rw[kH (by omega)] at j;have J:i-l.length=0:=by have:=(lS.1 j).1;simp at this;omega
 rw[J] at j;cases j;obtain rfl:i=n:=by omega
 exact I)
theorem nI (b o r:Nat):(⟨b,o,none⟩:Addr).add r=⟨b,o+r,none⟩:=by
 unfold Addr.add;split;·rename_i h;subst h;rfl
 rfl
theorem fB.mono {α:Type}{t:TypeId}{E:cO α}{Q R:α→Prop}(h:fB enc w t E Q)(j:∀x,Q x→R x):fB enc w t E R:=fun f cs d l o C=>by obtain⟨x,I,J⟩:=h f cs d l o C;exact⟨x,I,j x J⟩
theorem fi {α:Type}{t e:TypeId}{n bw:Nat}{E:cO α}{Q:α→Prop}(ht:prog.underlying t=some (.slice e))(hc:prog.cellsOf e=n)(hn:0<n)(a8:bw≤1000000)(o:fB enc w e E Q):
 fB enc w t (eT (rx n bw E)) fun l=>l.length≤1048576∧∀x∈l,Q x:=by
 intro b4 cs d ps h hb;rcases DataW.trod_slice ht h with ⟨rfl,J⟩|⟨a,len,cap,elems,rest,n',rfl,rfl,J,_,hl,hm,b5,Y,_,_⟩;·exact⟨[],⟨_,rfl,rx.nil⟩,by simp,by simp⟩
 injection J with hd _;subst hd;rw[hc] at Y;have b6:Rows.uptoBulkAll (elems.map (·.1))+1≤1048576:=by simp only[Rows.uptoBulk] at hb;omega
 have Z:=Fb (elems.map (·.1));rw[ce] at Z;obtain⟨l,b0,hP⟩:=Cc (n:=len) (P:=fun i x=>(∃ci,w.cells? 0 (a.add (i*n)) n=some ci∧E (jm w) w ci x)∧Q x) fun i hi=>by(
 have h1:=Y i hi;have h2:i<elems.length:=by omega
 rw[lG h2] at h1;obtain⟨ci,C,b1⟩:=Option.bind_eq_some_iff.1 h1;have b7:=uJ (d:=elems[i].1) (l:=elems.map (·.1)) (dr.2 ⟨elems[i],eL h2,rfl⟩);obtain⟨x,J,hq⟩:=o n' ci elems[i].1 elems[i].2 b1 (by omega);exact⟨x,⟨ci,C,J⟩,hq⟩)
 have b2:l.length*bw≤1048576*1000000:=Nat.mul_le_mul (by omega) a8;refine⟨l,⟨_,rfl,some a,cap,by rw[b0],by omega,hm,by omega,fun i x J=>?_⟩,by omega,fun x J=>?_⟩
 ·obtain⟨⟨ci,C,hE⟩,_⟩:=hP i x J;have hi:=(lS.1 J).1;obtain⟨⟨c0,R,_⟩,_⟩:=hP 0 _ (lG (show 0<l.length by omega));unfold World.cells? at C R;rw[ap (Nat.zero_le _)] at C R;obtain⟨b,off,sp⟩:=a;obtain rfl:sp=none:=by obtain⟨c,_,h0⟩:=Lib.mapM_at R 0 0 (by rw[ln hn]);have:=World.cell?_spot h0;simpa [Addr.add] using this
  have a1:=Lib.mapM_length C;rw[List.length_range] at a1;have a6:b<w.heap.size:=by obtain⟨c,_,h0⟩:=Lib.mapM_at R 0 0 (by rw[ln hn]);have:=jy w _ h0;rw[nI,nI] at this;exact this
  refine⟨b,off,ci,rfl,a6,a1,fun j c hj=>?_,hE⟩;have b3:j<n:=by have:=(lS.1 hj).1;omega
  obtain⟨c',a7,I⟩:=Lib.mapM_at C j j (by rw[ln b3]);rw[hj] at a7;cases a7;rw[nI,nI] at I;exact I
 obtain⟨i,hi⟩:=cY.1 J;exact(hP i x hi).2
theorem pR {α:Type}{t:TypeId}{bw:Nat}{E:bT α}{Q:List α→Prop}(h:fB enc w t (eT (rx 1 bw (eT E))) Q):fB enc w t (eT (Sl bw E)) Q:=by intro j cs d l o C;obtain⟨x,⟨v,e,I⟩,J⟩:=h j cs d l o C;exact⟨x,⟨v,e,jT I⟩,J⟩
theorem bm {α:Type}{t C:TypeId}{Z:Array Field}{m off:Nat}{E:cO α}{Q:α→Prop}(ht:prog.underlying t=some (.struct Z)){j:Nat}{cs:List Value}{d:DataW H}{ps:List MemPlace}
 (h:DataW.trod enc prog w 0 (fun _=>true) true j t cs=some (d,ps)) (hb:Rows.uptoBulk d≤1048576) (i:Nat) (f:Field) (hf:Z[i]? =some f) (I:f.type=C) (J:f.offset=off) (hm:prog.cellsOf C=m) (o:fB enc w C E Q):∃x,E (jm w) w ((cs.drop off).take m) x∧Q x:=by
 obtain⟨xs,n,rfl,hx,_,R,Y⟩:=DataW.trod_struct ht h;injection hx with hd _;subst hd;have h1:=Y i f hf;have hi:i<xs.length:=by rw[R];exact(mV.1 hf).1
 rw[lG hi,I,J,hm] at h1;have a1:=uJ (d:=xs[i].1) (l:=xs.map (·.1)) (dr.2 ⟨xs[i],eL hi,rfl⟩);simp only[Rows.uptoBulk] at hb;exact o n _ xs[i].1 xs[i].2 h1 (by omega)
theorem jV {t:TypeId}{l:Array Field}{m:Nat}(o:prog.underlying t=some (.struct l))(hm:prog.cellsOf t=m){j:Nat}{cs:List Value}{x:DataW H×List MemPlace}(h:DataW.trod enc prog w 0 (fun _=>true) true j t cs=some x):cs.length=m:=by obtain⟨_,_,_,_,C,_⟩:=DataW.trod_struct o h;rw[C,hm]
theorem mA:prog.cellsOf 3=1:=by kernel_rfl
theorem Mg:prog.cellsOf 2=1:=by kernel_rfl
theorem KS:prog.cellsOf 5=1:=by kernel_rfl
theorem Ml:prog.cellsOf 180=1:=by kernel_rfl
theorem Fi:prog.cellsOf 9=1:=by kernel_rfl
theorem Ff:prog.cellsOf 138=2:=by kernel_rfl
theorem Fe:prog.cellsOf 79=2:=by kernel_rfl
theorem Mh:prog.cellsOf 52=9:=by kernel_rfl
theorem Mj:prog.cellsOf 49=1:=by kernel_rfl
theorem Mi:prog.cellsOf 46=1:=by kernel_rfl
theorem Fd:prog.cellsOf 48=3:=by kernel_rfl
theorem KN:prog.cellsOf 28=1:=by kernel_rfl
theorem KO:prog.cellsOf 27=1:=by kernel_rfl
theorem Fh:prog.cellsOf 50=1:=by kernel_rfl
theorem KQ:prog.cellsOf 22=1:=by kernel_rfl
theorem KR:prog.cellsOf 23=1:=by kernel_rfl
theorem Fg:prog.cellsOf 24=1:=by kernel_rfl
theorem Mk:prog.cellsOf 26=5:=by kernel_rfl
theorem KP:prog.cellsOf 30=3:=by kernel_rfl
theorem mB:fB enc w 3 (eT rQ) fun n=>(Lit.int .i64 n).wf=true:=fun j cs d l h _=>by obtain⟨n,rfl,_,hw⟩:=DataW.trod_int underlying3 h;exact⟨n,⟨_,rfl,rfl,hw⟩,hw⟩
theorem Mw:fB enc w 2 (eT rQ) fun n=>(Lit.int .i64 n).wf=true:=fun j cs d l h _=>by obtain⟨n,rfl,_,hw⟩:=DataW.trod_int underlying2 h;exact⟨n,⟨_,rfl,rfl,hw⟩,hw⟩
def MT:cO Nat:=fun _ _ cs n=>cs=[.int .u8 n]
theorem MA:fB enc w 5 MT fun n=>n<256:=fun j cs d o h _=>by obtain⟨n,rfl,_,hw⟩:=DataW.trod_int underlying5 h;obtain⟨l,C⟩:=bounds_u8 hw;exact⟨n.toNat,by unfold MT;rw[Int.toNat_of_nonneg l],by omega⟩
theorem Kn:fB enc w 9 (eT EQ) fun s=>s.size≤1048576:=fun j cs d I h l=>by obtain⟨s,rfl,o,_⟩:=DataW.trod_string underlying9 h;injection o with C _;subst C;simp only[Rows.uptoBulk,Array.length_toList] at l;exact⟨s,⟨_,rfl,rfl⟩,by show s.data.size≤_;omega⟩
theorem Mz:fB enc w 180 (eT Cz) fun _=>True:=fun j cs d o h _=>by obtain⟨n,rfl,_,hw⟩:=DataW.trod_int underlying180 h;obtain⟨l,C⟩:=bounds_u64 hw;refine⟨BitVec.ofNat 64 n.toNat,⟨_,rfl,?_⟩,trivial⟩;show Value.int .u64 n=U (BitVec.ofNat 64 n.toNat);unfold U;rw[BitVec.toNat_ofNat,Nat.mod_eq_of_lt (by omega),Int.toNat_of_nonneg l]
theorem Gr:fB enc w 50 (eT aK) fun l=>l.length≤1048576∧∀x∈l,(Lit.int .i64 x).wf=true:=pR (fi underlying50 mA (by decide) (by decide) mB)
theorem Ln:fB enc w 22 (eT gB) fun l=>l.length≤1048576∧∀s∈l,s.size≤1048576:=pR (fi underlying22 Fi (by decide) (by decide) Kn)
theorem Lo:fB enc w 23 (eT nZ) fun l=>l.length≤1048576∧∀s∈l,True:=pR (fi underlying23 Ml (by decide) (by decide) Mz)
theorem Ms {cs:List Value}(h:cs.length=2):∃a b,cs=[a,b]:=by
 match cs,h with
 | [a,b],_=>exact⟨a,b,rfl⟩
theorem Mt {cs:List Value}(h:cs.length=3):∃a b c,cs=[a,b,c]:=by
 match cs,h with
 | [a,b,c],_=>exact⟨a,b,c,rfl⟩
theorem MO {cs:List Value}(h:cs.length=5):∃a b c d e,cs=[a,b,c,d,e]:=by
 match cs,h with
 | [a,b,c,d,e],_=>exact⟨a,b,c,d,e,rfl⟩
theorem MP {cs:List Value}(h:cs.length=9):∃a b c d e f g i j,cs=[a,b,c,d,e,f,g,i,j]:=by
 match cs,h with
 | [a,b,c,d,e,f,g,i,j],_=>exact⟨a,b,c,d,e,f,g,i,j,rfl⟩
theorem el {α:Type}{E:bT α}{c:Value}{x:α}(h:eT E (jm w) w [c] x):E (jm w) w c x:=by obtain⟨v,e,h⟩:=h;cases e;exact h
theorem Lm:fB enc w 138 uy fun x=>x.1.size≤1048576:=fun j cs d Z h l=>by obtain⟨a,b,rfl⟩:=Ms (jV underlying138 Ff h);obtain⟨s,o,C⟩:=bm underlying138 h l 0 _ rfl rfl rfl Fi Kn;obtain⟨n,I,J⟩:=bm underlying138 h l 1 _ rfl rfl rfl mA mB;have R:a=.string s:=el (c:=a) o;have Y:b=.int .i64 n:=(el (c:=b) I).1;subst R;subst Y;exact⟨(s,n),⟨rfl,J⟩,C⟩
theorem Ci:fB enc w 24 (eT kh) fun l=>l.length≤1048576∧∀x∈l,x.1.size≤1048576:=fi underlying24 Ff (by decide) (by decide) Lm
theorem gC {n:Int}(h:(Lit.int .i64 n).wf=true):aV n:=bounds_i64 h
theorem Lk:fB enc w 79 rI fun _=>True:=fun j cs d Z h l=>by obtain⟨a,b,rfl⟩:=Ms (jV underlying79 Fe h);obtain⟨m,o,C⟩:=bm underlying79 h l 0 _ rfl rfl rfl mA mB;obtain⟨n,I,J⟩:=bm underlying79 h l 1 _ rfl rfl rfl mA mB;have R:a=.int .i64 m:=(el (c:=a) o).1;have Y:b=.int .i64 n:=(el (c:=b) I).1;subst R;subst Y;exact⟨(m,n),⟨rfl,gC C,gC J⟩,trivial⟩
theorem MQ:fB enc w 52 KD fun x=>Cv x∧iM x:=fun I cs d ps h j=>by obtain⟨c0,c1,J,R,Y,l,o,Z,c8,rfl⟩:=MP (jV underlying52 Mh h);obtain⟨k,h0,q0⟩:=bm underlying52 h j 0 _ rfl rfl rfl KS MA;obtain⟨op,h1,q1⟩:=bm underlying52 h j 1 _ rfl rfl rfl KS MA;obtain⟨dst,h2,q2⟩:=bm underlying52 h j 2 _ rfl rfl rfl mA mB;obtain⟨ref,h3,q3⟩:=bm underlying52 h j 3 _ rfl rfl rfl mA mB;obtain⟨Ni,h4,q4⟩:=bm underlying52 h j 4 _ rfl rfl rfl mA mB;obtain⟨ar,h5,q5⟩:=bm underlying52 h j 5 _ rfl rfl rfl Fh Gr;obtain⟨fr,h6,q6⟩:=bm underlying52 h j 6 _ rfl rfl rfl Fh Gr;obtain⟨nm,h7,q7⟩:=bm underlying52 h j 7 _ rfl rfl rfl Mg Mw;obtain⟨pl,h8,q8⟩:=bm underlying52 h j 8 _ rfl rfl rfl mA mB;have e0:[c0]=[.int .u8 k]:=h0;have e1:[c1]=[.int .u8 op]:=h1;have e2:J=.int .i64 dst:=(el (c:=J) h2).1;have e3:R=.int .i64 ref:=(el (c:=R) h3).1;have e4:Y=.int .i64 Ni:=(el (c:=Y) h4).1;have e5:aK (jm w) w l ar:=el (c:=l) h5;have e6:aK (jm w) w o fr:=el (c:=o) h6;have e7:Z=.int .i64 nm:=(el (c:=Z) h7).1;have e8:c8=.int .i64 pl:=(el (c:=c8) h8).1;cases e0;cases e1;subst e2;subst e3;subst e4;subst e7;subst e8;exact⟨⟨k,op,dst,ref,Ni,ar,fr,nm,pl⟩,⟨l,o,rfl,e5,e6,⟨q0,q1,gC q2,gC q3,gC q4,gC q7,gC q8⟩⟩,⟨q5.1,q6.1⟩,⟨gC q2,gC q3,gC q4,fun a C=>gC (q5.2 a C),fun a C=>gC (q6.2 a C)⟩⟩
theorem My:fB enc w 49 (eT tZ) fun l=>l.length≤1048576∧∀x∈l,Cv x∧iM x:=fi underlying49 Mh (by decide) (by decide) MQ
theorem Mx:fB enc w 46 (eT bW) fun l=>l.length≤1048576∧∀x∈l,x.length≤1048576∧∀y∈x,Cv y∧iM y:=pR (fi underlying46 Mj (by decide) (by decide) My)
def LS (b:aw):Prop:=b.Ng.length≤1048576∧∀x∈b.Ng,x.length≤1048576∧∀y∈x,Cv y∧iM y
theorem Lj:fB enc w 48 qO LS:=fun o cs d ps h j=>by obtain⟨a,b,c,rfl⟩:=Mt (jV underlying48 Fd h);obtain⟨m,C,I⟩:=bm underlying48 h j 0 _ rfl rfl rfl mA mB;obtain⟨n,J,R⟩:=bm underlying48 h j 1 _ rfl rfl rfl mA mB;obtain⟨l,Y,Z⟩:=bm underlying48 h j 2 _ rfl rfl rfl Mi Mx;have e0:a=.int .i64 m:=(el (c:=a) C).1;have e1:b=.int .i64 n:=(el (c:=b) J).1;have e2:bW (jm w) w c l:=el (c:=c) Y;subst e0;subst e1;exact⟨⟨m,n,l⟩,⟨c,rfl,e2,gC I,gC R⟩,Z⟩
theorem Li:fB enc w 28 (eT mL) fun l=>l.length≤1048576∧∀b∈l,LS b:=fi underlying28 Fd (by decide) (by decide) Lj
theorem Ll:fB enc w 27 (eT ev) fun l=>l.length≤1048576∧∀b∈l,True:=fi underlying27 Fe (by decide) (by decide) Lk
theorem Gu {j:Nat}{xs:Array Value}{d:DataW H}{Y:List MemPlace}(h:DataW.trod enc prog w 0 (fun _=>true) true j 26 xs.toList=some (d,Y))(l:Rows.uptoBulk d≤1048576):∃p,dJ (jm w) w (.agg xs) p∧kj p:=by obtain⟨a,b,c,e,f,o⟩:=MO (jV underlying26 Mk h);rw[o] at h;obtain⟨C,Z,q0⟩:=bm underlying26 h l 0 _ rfl rfl rfl KQ Ln;obtain⟨I,h1,q1⟩:=bm underlying26 h l 1 _ rfl rfl rfl KR Lo;obtain⟨J,h2,q2⟩:=bm underlying26 h l 2 _ rfl rfl rfl Fg Ci;obtain⟨R,h3,q3⟩:=bm underlying26 h l 3 _ rfl rfl rfl Fg Ci;obtain⟨n,h4,q4⟩:=bm underlying26 h l 4 _ rfl rfl rfl mA mB;have e0:gB (jm w) w a C:=el (c:=a) Z;have e1:nZ (jm w) w b I:=el (c:=b) h1;have e2:kh (jm w) w c J:=el (c:=c) h2;have e3:kh (jm w) w e R:=el (c:=e) h3;have e4:f=.int .i64 n:=(el (c:=f) h4).1;subst e4;exact⟨⟨C,I,J,R,n⟩,⟨a,b,c,e,by rw[←Array.toArray_toList (xs:=xs),o],e0,e1,e2,e3,q4⟩,⟨q0.2,q2.2,q3.2⟩⟩
theorem DA {o:Nat}{xs:Array Value}{d:DataW H}{ps:List MemPlace}(h:DataW.trod enc prog w 0 (fun _=>true) true o 30 xs.toList=some (d,ps))(j:Rows.uptoBulk d≤1048576):∃c,cQ (jm w) w (.agg xs) c∧lY c∧rK c:=by obtain⟨a,b,c,C⟩:=Mt (jV underlying30 KP h);rw[C] at h;obtain⟨Y,h0,q0⟩:=bm underlying30 h j 0 _ rfl rfl rfl KO Ll;obtain⟨Z,h1,I⟩:=bm underlying30 h j 1 _ rfl rfl rfl KN Li;obtain⟨n,h2,q2⟩:=bm underlying30 h j 2 _ rfl rfl rfl mA mB;have e0:ev (jm w) w a Y:=el (c:=a) h0;have e1:mL (jm w) w b Z:=el (c:=b) h1;have e2:c=.int .i64 n:=(el (c:=c) h2).1;subst e2;refine⟨⟨Y,Z,n⟩,⟨a,b,by rw[←Array.toArray_toList (xs:=xs),C],e0,e1,gC q2⟩,⟨q0.1,I.1,fun b j=>(I.2 b j).1,fun b j l J=>((I.2 b j).2 l J).1,fun b j l J x R=>(((I.2 b j).2 l J).2 x R).1⟩,⟨gC q2,fun b j x R=>?_⟩⟩;obtain⟨l,J,R⟩:=List.mem_flatten.1 R;exact(((I.2 b j).2 l J).2 x R).2
end
end
end Go.Proofs.YtceloincoomjeaaGreatDoor
