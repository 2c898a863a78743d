/- Part 37 of the proof of CallsShallow (its last part says what is proved). No condition. -/
import Derived.Test.YtncdbjponknakaaGreatDoorK35
namespace Go.Proofs.YtncdbjponknakaaGreatDoor
set_option maxRecDepth 100000
set_option maxHeartbeats 8000000
open Go.RowKit Go.Proofs.Tryz
theorem lg {ll:List (List Int)}(h:aP ll){k:Nat}(j:k<ll.length):∀x∈ll[k],∃n:Nat,x=n∧n<ll.length:=by intro x l;obtain⟨o,C⟩:=gw h j x l;exact⟨x.toNat,by omega,by omega⟩
theorem qF {ll:List (List Int)}(h:aP ll)(j:Nat):∀x∈ll[j]?.getD [],∃n:Nat,x=n∧n<ll.length:=by
 intro x l;rcases Nat.lt_or_ge j ll.length with o|o;·rw[lG o] at l;exact lg h o x l
 rw[jz o] at l;simp at l
theorem gu {ll:List (List Int)}(h:aP ll):mN ll:=by rintro a b o ⟨row,j,l⟩;obtain⟨n,C,J⟩:=qF h a b (by rw[j];exact l);omega
noncomputable def cZ (ll:List (List Int))(s:Nat):List Int:=(List.range ll.length).map (gy ll s)
noncomputable def ou (ll:List (List Int))(s k:Nat):Nat→Bool:=fun j=>decide (j<k)&&kS ll s j
theorem sr {ll:List (List Int)}{s k:Nat}{b:Bool}(h:b=kS ll s k):(az ll.length (ou ll s k)).setIfInBounds k (.bool b)=az ll.length (ou ll s (k+1)):=by
 refine dg (by simp[ou,h]) (fun j _ l=>?_);unfold ou;have:(j<k+1)↔(j<k):=by omega
 simp[this]
theorem aa.low {w j:World}(h:aa (fun b=>b<w.heap.size) w j):aa All w j:=⟨h.os,h.output,h.size,fun b l _=>h.block b l l⟩
theorem wG {ll:List (List Int)}{s:Nat}{f:Nat→Int}(h:jJ ll s (nf ll (bC ll).length) f):(List.range ll.length).map f=cZ ll s:=by unfold cZ;refine List.map_congr_left fun i hi=>?_;exact(nh (Fy (Fx h) (fg.1 hi))).symm
structure Il (ll:List (List Int))(A:Option Addr)(cap:Nat)(Ab:Option Addr)(cb xb:Nat)(wr:World):Prop where
 been:al wr xb 79 #[.slice Ab ll.length cb]
 rows:Rows (fun b=>b<xb) wr (.slice A ll.length cap) ll
 tab:jE (fun b=>b<xb) wr (.slice Ab ll.length cb) (dB ll)
theorem Il.keep {ll:List (List Int)}{A:Option Addr}{cap:Nat}{o:Option Addr}{C j:Nat}{wr J:World}(h:Il ll A cap o C j wr)(k:aa (fun b=>b≤j) wr J):Il ll A cap o C j J:=
 ⟨h.been.kept k (cf _),aq.keep (k.mono fun _ l=>Nat.le_of_lt l) h.rows,er.keep (k.mono fun _ l=>Nat.le_of_lt l) h.tab⟩
theorem qW (S:Nat→Prop)(v:Value)(ll:List (List Int))(s:Nat)(w:World)(hv:Rows S w v ll)(hR:aP ll)(hs:s<ll.length):
 Calls prog 9 #[v,.int .i64 s] w fun e w'=>∃u,e=.returned u∧aa All w w'∧aK (fun b=>w.heap.size≤b) w' u (cZ ll s):=by
 have hl:ll.length≤256:=hR.2.1;have c0:=fun w1 (hk:aa All w w1)=>gt S v ll w1 (aq.keep hk.all hv);rw[bL hR] at c0;have e8:=fun w1 (hk:aa All w w1)=>rj S v ll w1 (aq.keep hk.all hv) hR;have c7:=fun w1 (hk:aa All w w1)=>sJ S v ll w1 (aq.keep hk.all hv) hR;have n7:=jh hv;obtain⟨A,cap,rfl,h1,h2,r5,h⟩:=hv;have HR:=J5 c0 e8 c7 hR n7;clear h h1 h2 r5 c0 e8 c7 hR n7;have x3:decide ((s:Int)<0)=false:=by simp
 have x4:decide ((ll.length:Int)≤s)=false:=by simp;omega
 go_enter func9,ntmps9;go_wp2_with fail;refine(HR.1 _ kR).mono ?_;rintro e w1 ⟨rfl,h5⟩;have HK:=oH h5;clear h5;go_wp2_with fail;refine(HR.2.1 _ HK.out).mono ?_;rintro e w2 ⟨vb,rfl,k5,n8⟩;have h8:=n8;obtain⟨Ab,cb,rfl,_⟩:=n8;rw[gU] at h8⊢;have HB:=J2 k5 h8;clear k5 h8;have n9:=wX ll.length (by omega) (w2.alloc (.cells #[.slice Ab ll.length cb] 79));have o0:=iy ll.length (by omega) ((w2.alloc (.cells #[.slice Ab ll.length cb] 79)).alloc (.cells (aN ll.length fun _=>0) 3));go_wp2_with fail;obtain⟨C,e3⟩:=eQ w2.heap.size;have o5:al (((w2.alloc (.cells #[.slice Ab ll.length cb] 79)).alloc (.cells (aN ll.length fun _=>0) 3)).alloc (.cells (az ll.length fun _=>false) 4)) (C+1) 3 (aN ll.length (nu ll s 0 0)):=by have e:(aN ll.length fun _=>0)=aN ll.length (nu ll s 0 0):=ex fun i _=>(Lv ll s i).symm;rw[e];subst e3;exact(ac (by simp)).alloc _
 have o7:al (((w2.alloc (.cells #[.slice Ab ll.length cb] 79)).alloc (.cells (aN ll.length fun _=>0) 3)).alloc (.cells (az ll.length fun _=>false) 4)) (C+1+1) 4 (az ll.length (ou ll s 0)):=by
  have e:(az ll.length fun _=>false)=az ll.length (ou ll s 0):=by congr 1
  rw[e];subst e3;exact ac (by simp)
 have k6:aa All w2 (((w2.alloc (.cells #[.slice Ab ll.length cb] 79)).alloc (.cells (aN ll.length fun _=>0) 3)).alloc (.cells (az ll.length fun _=>false) 4)):=((kR.alloc _).alloc _).alloc _;have l3:Il ll A cap Ab cb C (((w2.alloc (.cells #[.slice Ab ll.length cb] 79)).alloc (.cells (aN ll.length fun _=>0) 3)).alloc (.cells (az ll.length fun _=>false) 4)):=by(
 have e1:=HK.out.size;have e2:=HB.1.size;have k5:=(HK.out.trans HB.1).trans k6;refine⟨((by subst e3;exact al.new _ _ _:al _ C 79 #[.slice Ab ll.length cb]).alloc _).alloc _,?_,?_⟩;·exact aq.wide (fun b Y=>by omega) (aq.keep k5.all HR.2.2.2.2)
 exact er.wide (fun b Y=>by omega) (er.keep k6.all (pt HB.2)))
 have o9:(((w2.alloc (.cells #[.slice Ab ll.length cb] 79)).alloc (.cells (aN ll.length fun _=>0) 3)).alloc (.cells (az ll.length fun _=>false) 4)).heap.size=C+3:=by subst e3;simp
 have p0:aa All w (((w2.alloc (.cells #[.slice Ab ll.length cb] 79)).alloc (.cells (aN ll.length fun _=>0) 3)).alloc (.cells (az ll.length fun _=>false) 4)):=(HK.out.trans HB.1).trans k6;rw[←e3];generalize (((w2.alloc (.cells #[.slice Ab ll.length cb] 79)).alloc (.cells (aN ll.length fun _=>0) 3)).alloc (.cells (az ll.length fun _=>false) 4))=w3 at*;have x5:w.heap.size≤C:=by rw[e3];exact(HK.out.trans HB.1).size
 have H3:=J5 o5 o7 l3 p0 o9;clear o5 o7 l3 p0 o9 k6 n9 o0 e3;go_loopg [42] ll.length (fun gg x wr=>∃k:Nat,k≤ll.length∧gg=ll.length-k∧x=.int .i64 k∧aa (fun b=>b≤C+1) w3 wr∧al wr (C+1+1) 4 (az ll.length (ou ll s k)));·exact⟨0,by omega,by omega,rfl,kR,H3.2.1⟩
 obtain⟨k,hk,rfl,rfl,l,o⟩:=hrel;by_cases R:k<ll.length;·(
 have J:=lg HR.2.2.2.1 R;have h9:ll[k].length≤256:=by have:=du (HR.2.2.2.1.2.2 _ (eL R));omega
 have env:=H3.2.2.1.keep (l.mono fun b Y=>by omega);have p1:=l.size;rw[H3.2.2.2.2] at p1;obtain⟨a1,p2,m5,_,_,_,i0⟩:=env.rows;injection m5 with m6 _ m7;subst m6;subst m7;obtain⟨b1,o1,c1,rfl,r6,m8,i1⟩:=i0 k ll[k] (lG R);have m9:=i1;obtain⟨Ar,cr,rfl,_⟩:=m9;have i2:kS ll s k=(ay ll s k&&(ll[k]).any fun x=>ay ll x.toNat k):=by unfold kS;rw[lG R];rfl
 obtain⟨b2,o2,b3,o3,c3,r7,l4,h2,r8,l5,h3⟩:=io env.tab hs R;have c9:=J6 i2 env o i1 J l;have i4:=env.been.cell 0;have n0:=o.cell k;have r9:=o.free k;rw[bj R] at n0;simp only[gc] at i4;clear i2 env o i1 J l i0;subst r7;generalize ll[k]=row at*;go_upto_region 9 with fail;obtain⟨wq,i5⟩:=eQ (wr.alloc (.cells #[.int .i64 k] 3));have d7:aa All wr wq:=i5▸(aa.refl _ wr).alloc _;have i6:al wq wr.heap.size 3 #[.int .i64 k]:=i5▸al.new _ _ _;have q1:=d7.cell (p:=⟨C,0,none⟩) trivial i4;have q2:=d7.cell (p:=⟨b2,o2+s,none⟩) trivial h2;have q3:=d7.cell (p:=⟨b3,o3+k,none⟩) trivial h3;have q4:=d7.cell (p:=⟨C+1+1,k,none⟩) trivial n0;have q5:wq.frozen? ⟨C+1+1,k,none⟩=false:=(c9.2.2.1.kept d7 trivial).free k;have q6:=i6.cell 0;simp only[gc] at q6;have i7:∀wn,aa All wq wn→Calls prog 22 #[.slice Ar row.length cr,.func (.func 23) #[] #[.pointer (some ⟨C,0,none⟩),.pointer (some ⟨wr.heap.size,0,none⟩)]] wn fun e w'=>e=.returned (.bool (row.any fun x=>ay ll x.toNat k))∧∃n,w'=wn.drewN n:=by intro wn d8;have n1:aa All wr wn:=d7.trans d8;exact Ji _ _ ll _ _ row C wr.heap.size k wn (c9.2.1.been.kept n1 trivial) (i6.kept d8 trivial) (er.keep n1.all c9.2.1.tab) (ah.keep n1.all c9.2.2.2.1) c9.2.2.2.2.1 h9 R hl
 have HC:=J3 i7 i5 d7;have h6:=c9.1;rw[←i5];clear i7 d7 i5 i4 h2 h3 n0 r9 i6 m8;generalize wr.heap.size=xi at q6 HC p1⊢;cases hp:ay ll s k with
 |false=>
  rw[hp,Bool.false_and] at h6;rw[hp] at q3;have HP:=oH h6;clear hp h6
  go_region
  go_wp2;go_roundg (ll.length-(k+1));·(
 obtain⟨_,_,o,_,_,l⟩:=c9.out;refine⟨k+1,by omega,rfl,by go_num,?_,?_⟩
 ·have h5:aa (fun b=>b≤C+1) w3 wq:=l.trans HC.2.2.all
  exact(h5.setCell (.inl fun h=>by have:C+1+1≤C+1:=h;omega) _).drew
 rw[←sr HP.out.symm];exact((o.kept HC.2.2 trivial).set k _).drew)
  omega
 |true=>
  rw[hp,Bool.true_and] at h6;rw[hp] at q3;have HP:=oH h6;clear hp h6
  have hS:∀wn,aa (fun b=>b≠C+1+1) wq wn→aa (fun b=>b≠C+1+1) wq wn∧wn.cell? ⟨C,0,none⟩=some (.slice (some ⟨b2,o2,none⟩) ll.length cb)∧wn.cell? ⟨b2,o2+s,none⟩=some (.slice (some ⟨b3,o3,none⟩) ll.length c3)∧wn.cell? ⟨b3,o3+k,none⟩=some (.bool true)∧wn.cell? ⟨xi,0,none⟩=some (.int .i64 k):=
   fun wn d8=>⟨d8,d8.cell (p:=⟨C,0,none⟩) (by show C≠_;omega) q1,d8.cell (p:=⟨b2,o2+s,none⟩) (by have:b2<C:=l4;show b2≠_;omega) q2,d8.cell (p:=⟨b3,o3+k,none⟩) (by have:b3<C:=l5;show b3≠_;omega) q3,d8.cell (p:=⟨xi,0,none⟩) (by show xi≠_;omega) q6⟩
  go_region_held3 (fun wn=>aa (fun b=>b≠C+1+1) wq wn∧wn.cell? ⟨C,0,none⟩=some (.slice (some ⟨b2,o2,none⟩) ll.length cb)∧wn.cell? ⟨b2,o2+s,none⟩=some (.slice (some ⟨b3,o3,none⟩) ll.length c3)∧wn.cell? ⟨b3,o3+k,none⟩=some (.bool true)∧wn.cell? ⟨xi,0,none⟩=some (.int .i64 k))
   (exact hS _ (by repeat(first|exact kR|apply aa.drew|apply aa.drewN|(refine aa.setCell ?_ (.inl fun h=>h rfl) _))))
   (first|(go_at_call 22;refine(HC.1 _ (kR.drew)).mono ?_;rintro e w' ⟨rfl,n',rfl⟩))
  go_wp2;go_roundg (ll.length-(k+1));·(
 obtain⟨_,_,o,_,_,l⟩:=c9.out;refine⟨k+1,by omega,rfl,by go_num,?_,?_⟩
 ·have h5:aa (fun b=>b≤C+1) w3 wq:=l.trans HC.2.2.all
  exact(h5.drewN _).setCell (.inl fun h=>by have:C+1+1≤C+1:=h;omega) _
 rw[←sr HP.out.symm];exact(o.kept (HC.2.2.drewN (1+n')) trivial).set k _)
  omega)
 have d9:k=ll.length:=by omega
 subst d9;have j0:=H3.2.2.1.keep (l.mono fun b Y=>by omega);have l6:=H3.1.kept l (cf _);have l7:aa (fun b=>b<w.heap.size) w wr:=(H3.2.2.2.1.mono fun b Y=>trivial).trans (l.mono fun b Y=>by omega);have p3:=l.size;rw[H3.2.2.2.2] at p3;have e5:ou ll s ll.length=fun j=>decide (j<ll.length)&&kS ll s j:=rfl;have H5:=J4 j0 l6 l7 o;clear l o R hk j0 l6 l7 e5;clear H3;go_wp2_with fail;obtain⟨w5,rfl⟩:=eQ wr;go_loopg [65] ll.length (fun gg x wr=>∃i:Nat,i≤ll.length∧gg=ll.length-i∧x=.int .i64 i∧aa (fun b=>b≠C+1) w5 wr∧al wr (C+1) 3 (aN ll.length (nu ll s i 0)));·exact⟨0,by omega,by omega,rfl,kR,H5.2.1⟩
 obtain⟨i,hi,rfl,rfl,l,o⟩:=hrel;by_cases R:i<ll.length;·(
 have HQ:=J2 l o;clear l o;go_wp2_with fail;go_loopg [70] ll.length (fun gg x wr=>∃k:Nat,k≤ll.length∧gg=ll.length-k∧x=.int .i64 k∧aa (fun b=>b≠C+1) w5 wr∧al wr (C+1) 3 (aN ll.length (nu ll s i k)));·exact⟨0,by omega,by omega,rfl,HQ.1,HQ.2⟩
 clear HQ;obtain⟨k,hk,rfl,rfl,l,o⟩:=hrel;by_cases n2:k<ll.length;·(
 have env:=H5.1.keep (l.mono fun b Y=>by omega);have p4:=(H5.2.2.2.kept l (by show C+1+1≠C+1;omega)).cell k;have ec:ou ll s ll.length k=kS ll s k:=by simp[ou,n2]
 rw[bj n2,ec] at p4;obtain⟨b2,o2,b3,o3,c3,rfl,l4,h2,r8,l5,h3⟩:=io env.tab n2 R;have i4:=env.been.cell 0;simp only[gc] at i4;have s0:=o.cell i;have Z:=o.free i;rw[bI R] at s0;have HQ:=J4 l o (@JC ll s i k) (@Gz ll s i k);clear l o env ec;generalize kS ll s k=p at*;generalize ay ll k i=q at*;cases p with
 |false=>
  go_wp2;go_roundg (ll.length-(k+1));·exact⟨k+1,by omega,rfl,by go_num,HQ.1,by rw[HQ.2.2.1 rfl];exact HQ.2.1⟩
  omega
 |true=>
  cases q with
  |false=>
   go_wp2;go_roundg (ll.length-(k+1));·exact⟨k+1,by omega,rfl,by go_num,HQ.1,by rw[HQ.2.2.1 rfl];exact HQ.2.1⟩
   omega
  |true=>
   go_wp2;go_roundg (ll.length-(k+1));·refine⟨k+1,by omega,rfl,by go_num,HQ.1.setCell (.inl fun h=>h rfl) _,?_⟩;rw[←HQ.2.2.2 rfl,←fZ];exact HQ.2.1.set i _
   omega)
 have d9:k=ll.length:=by omega
 subst d9;have HQ:=J2 l o;clear l o;go_wp2_with fail;go_roundg (ll.length-(i+1));·exact⟨i+1,by omega,rfl,by go_num,HQ.1,by rw[←DD];exact HQ.2⟩
 omega)
 have a6:i=ll.length:=by omega
 subst a6;have c5:al wr (C+1) 3 (aN ll.length (kL ll s)):=by rw[←ex fun j hj=>Gy (s:=s) hj];exact o
 have p5:=c5.cell s;have s3:=c5.free s;rw[bI hs] at p5;have HQ:=J3 l c5 (zZ (s:=s) (qF HR.2.2.2.1));clear l o c5 R hi;go_upto_if 95 with fail;go_cut [] from 96 to 98 (fun wx=>aa (fun b=>b≠C+1) w5 wx∧al wx (C+1) 3 (aN ll.length (if kL ll s s=0 then lu (kL ll s) s 1 else kL ll s)))
 case first=>(
 by_cases h0:kL ll s s=0
 ·have s4:(kL ll s s==0)=true:=by simp[h0]
  go_wp2;go_meet;rw[ap h0];exact⟨HQ.1.setCell (.inl fun h=>h rfl) _,by rw[←fZ];exact HQ.2.1.set s _⟩
 have s4:(kL ll s s==0)=false:=by simp[h0]
 go_wp2;go_meet;rw[ae h0];exact⟨HQ.1,HQ.2.1⟩)
 have p6:aa All w wc:=(H5.2.2.1.trans (hcut.1.mono fun b Y=>by omega)).low;have x6:=hcut.1.size;have p7:=HQ.2.2;have l8:=H5.1.keep (hcut.1.mono fun b Y=>by omega);generalize (if kL ll s s=0 then lu (kL ll s) s 1 else kL ll s)=f0 at*;have HD:=J4 p6 hcut.2 p7 l8;clear p6 hcut p7 l8 p5 s3 HQ H5;go_wp2_with fail;refine(HR.2.2.1 _ HD.1).mono ?_;rintro e w6 ⟨u,B,rfl,k7,hB,ho,s5⟩;have p8:(bC ll).reverse.length=(bC ll).length:=List.length_reverse;have s6:=yu (ll:=ll) HR.2.2.2.1.1;have l9:=GU ho s6 s5;obtain⟨Ag,cg,rfl⟩:∃A c,u=.slice A (bC ll).length c:=by
  obtain⟨vs,hv,_⟩:=ho;rcases hv.2 with ⟨_,hn⟩|⟨g,cap,cur,rfl,_⟩;·omega
  exact⟨_,_,rfl⟩
 have j1:=HD.2.2.2.keep k7.all;have m0:=HD.2.1.kept k7 trivial;have H6:=J4 k7 l9 j1 m0;clear k7 l9 j1 m0 ho;go_wp2_with fail;refine(H6.2.1).mono ?_;rintro e w7 ⟨rfl,k8,j2⟩;generalize p9:(bC ll).length=n at*;have n3:=J2 p9 p8;clear p9 p8;have j3:=H6.2.2.1.keep (k8.mono fun b Y=>by omega);have m1:=H6.2.2.2.kept k8 (by omega);have m2:aa (fun b=>b<w.heap.size) w w7:=((HD.1.trans H6.1).mono fun _ _=>trivial).trans (k8.mono fun b Y=>by omega);have H7:=J4 j3 m1 m2 j2;clear j3 m1 m2 j2 k8 H6;go_wp2_with fail;go_loopg [105] n (fun gg x wr=>∃(r:Nat) (f:Nat→Int),r≤n∧gg=n-r∧x=.int .i64 r∧jJ ll s (nf ll r) f∧aa (fun b=>b≠C+1) w7 wr∧al wr (C+1) 3 (aN ll.length f));·exact⟨0,f0,by omega,by omega,rfl,HD.2.2.1,kR,H7.2.1⟩
 obtain⟨r,f,hr,rfl,rfl,hinv,l,o⟩:=hrel;by_cases q0:r<n;·(
 have q7:r<(bC ll).reverse.length:=by rw[n3.2];exact q0
 have hG:=lG q7;obtain⟨a1,p2,m5,_,_,_,i0⟩:=n3.2▸aq.keep (l.mono fun b Y=>by omega) H7.2.2.2;injection m5 with m6 _ m7;subst m6;subst m7;obtain⟨b1,o1,c1,rfl,r6,m8,e4⟩:=i0 r _ hG;have k9:=e4;obtain⟨Ar,cr,rfl,_,_,x7,_⟩:=k9;have J:∀x∈(bC ll).reverse[r],∃n:Nat,x=n∧n<ll.length:=wQ _ _ _ (List.mem_reverse.1 (eL q7));have HG:=J6 hG e4 J hinv l o;clear hG e4 J hinv l o i0;generalize (bC ll).reverse[r]=G at*;go_wp2_with fail;obtain⟨wg,rfl⟩:=eQ wr;go_loopg [111] G.length (fun gg x wr=>∃(q:Nat) (f:Nat→Int),q≤G.length∧gg=G.length-q∧x=.int .i64 q∧jJ ll s (fun p=>nf ll r p∨(p:Int)∈G.take q) f∧aa (fun b=>b≠C+1) w7 wr∧aa (fun b=>b≠C+1) wg wr∧al wr (C+1) 3 (aN ll.length f));·exact⟨0,f,by omega,by omega,rfl,HG.2.2.2.1.less (fun p hp _=>by rcases hp with h|h;exact h;simp at h),HG.2.2.2.2.1,kR,HG.2.2.2.2.2⟩
 obtain⟨q,f,hq,rfl,rfl,hinv,l,l0,o⟩:=hrel;have j4:=fun i hi=>hinv.bound (gu HR.2.2.2.1) hs (i:=i) hi;by_cases l1:q<G.length;·(
 obtain⟨i,j5,a6⟩:=HG.2.2.1 G[q] (eL l1);obtain⟨a2,x0,s7,_,_,_,q8⟩:=ah.keep (l0.mono fun b Y=>by omega) HG.2.1;injection s7 with s8 _ s9;subst s8;subst s9;obtain⟨b4,o4,c4,rfl,x8,q9,rfl,_⟩:=q8 q _ (lG l1);rw[j5] at q9;have i6:=j4 i a6;have j6:=o.cell i;rw[bI a6] at j6;have j7:(i:Int)∈G:=by rw[←j5];exact eL l1
 have b0:¬mD ll s i→∀m,rt ll s m i→(m:Int)≤f i:=fun Y=>uW hinv a6 Y fun p hp e=>.inl (Fw HG.1 j7 Y a6 p hp e);have j8:∀p,(nf ll r p∨(p:Int)∈G.take (q+1))→(nf ll r p∨(p:Int)∈G.take q)∨p=i:=by(
 intro p hp;rcases hp with hp|hp;·exact .inl (.inl hp)
 rw[cU,lG l1,j5] at hp;rcases eD.1 hp with hp|hp;·exact .inl (.inr hp)
 right;have:(p:Int)=i:=by simpa using hp
 omega)
 have HI:=J8 hinv l l0 o b0 j8 j7 j5;clear hinv l l0 o b0 j8 j7 j5 q8 j4;by_cases e0:f i<1
 ·have HL:=oH e0;have j9:decide (f i<1)=true:=by simpa using e0
  clear e0;generalize r0:f i=v at*;have HV:=oH r0;clear r0;go_wp2_with fail;go_roundg (G.length-(q+1))
  ·refine⟨q+1,f,by omega,rfl,by go_num,?_,HI.2.1,HI.2.2.1,HI.2.2.2.1⟩
   exact(HI.1.node (i:=i) (fun Y m hm=>by have:=HI.2.2.2.2.1 Y m hm;have:=HV.out;omega) (fun h1=>by have:=HL.out;have:=HV.out;omega)).less fun p hp _=>HI.2.2.2.2.2.1 p hp
  omega
 have j9:decide (f i<1)=false:=by simpa using e0
 have n4:1≤f i:=by omega
 have n5:=HI.1.not_bad a6 (by omega);have b0:=HI.2.2.2.2.1 n5;have env:=H7.1.keep (HI.2.1.mono fun b Y=>by omega);obtain⟨a5,x1,u0,_,_,_,r3⟩:=env.rows;injection u0 with u1 _ u2;subst u1;subst u2;obtain⟨b6,o6,c6,rfl,x9,u3,e6⟩:=r3 i ll[i] (lG a6);have l2:=e6;obtain⟨Ai,ci,rfl,_,_,_,_⟩:=l2;have J:=lg HR.2.2.2.1 a6;have m3:∀k:Nat,dH ll i k↔(k:Int)∈ll[i]:=fun k=>kQ a6;have h9:ll[i].length≤256:=by have:=du (HR.2.2.2.1.2.2 _ (eL a6));omega
 have e9:¬dH ll i i:=fun e=>n5 (sf a6 (HI.1.way a6 n4).reach e .refl);have HJ:=J6 J m3 e6 e9 b0 n4;clear J m3 e6 e9 b0 r3 env n5 e0 n4;generalize ll[i]=row at*;obtain⟨v,hv⟩:=eQ (f i);rw[←hv] at j6 j9 i6;have HV:=oH hv;clear hv;go_wp2_with fail;obtain⟨wi,rfl⟩:=eQ wr;clear j6 u3 q9 m8
 go_loopg [125] row.length (fun gg x wr=>∃(t:Nat) (f':Nat→Int),t≤row.length∧gg=row.length-t∧x=.int .i64 t∧jJ ll s (fun p=>nf ll r p∨(p:Int)∈G.take q) f'∧f' i=v∧
  (∀y∈row.take t,¬mD ll s y.toNat→v+1≤f' y.toNat)∧aa (fun b=>b≠C+1) wi wr∧al wr (C+1) 3 (aN ll.length f'))
 ·exact⟨0,f,by omega,by omega,rfl,HI.1,HV.out.symm,fun y hy=>by simp at hy,kR,HI.2.2.2.1⟩
 obtain⟨t,f',ht,rfl,rfl,hinv,Z,b7,a8,o⟩:=hrel;have e7:=fun i hi=>hinv.bound (gu HR.2.2.2.1) hs (i:=i) hi;by_cases R:t<row.length;·(
 obtain⟨k,k0,d9⟩:=HJ.1 row[t] (eL R);obtain⟨a7,x2,u4,_,_,_,n6⟩:=ah.keep (a8.mono fun b Y=>by omega) HJ.2.2.1;injection u4 with u5 _ u6;subst u5;subst u6;obtain⟨b8,o8,c8,rfl,y0,u7,rfl,_⟩:=n6 t _ (lG R);rw[k0] at u7;have k1:dH ll i k:=(HJ.2.1 k).2 (by rw[←k0];exact eL R);have u9:k≠i:=fun e=>HJ.2.2.2.1 (by rw[e] at k1;exact k1);have c1:=o.cell k;have c2:=o.cell i;have g1:=o.free k;rw[bI d9] at c1;rw[bI a6,Z] at c2;have h7:row.take (t+1)=row.take t++[(k:Int)]:=by rw[cU,lG R,k0];rfl
 have v7:=e7 k d9;by_cases k2:f' k<0;·(
 have k3:decide (0≤f' k)=false:=by simpa using k2
 have r4:mD ll s k:=by
  cases Classical.em (mD ll s k) with
  |inl h=>exact h
  |inr h=>have:=((hinv k d9).2 h).1;omega
 have b5:=J7 hinv Z b7 a8 o h7 r4;clear hinv Z b7 a8 o h7 r4 k2 n6 e7 k0 k1;generalize f' k=z at*;go_wp2_with fail;go_roundg (row.length-(t+1))
 ·refine⟨t+1,f',by omega,rfl,by go_num,b5.1,b5.2.1,fun y hy Y=>?_,b5.2.2.2.1,b5.2.2.2.2.1⟩;rw[b5.2.2.2.2.2.1] at hy;rcases eD.1 hy with hy|hy;·exact b5.2.2.1 y hy Y
  rw[cx.1 hy,dP] at Y;exact absurd b5.2.2.2.2.2.2 Y
 omega)
 have k3:decide (0≤f' k)=true:=by simp;omega
 have b9:=hinv.max a6 d9 k1 (by rw[Z];exact HV.out▸HJ.2.2.2.2.2) (by omega);rw[Z] at b9;have b5:=J7 hinv Z b7 a8 o h7 b9;clear hinv Z b7 a8 o h7 b9 k2 n6 e7 k0 k1;obtain⟨z,hz⟩:=eQ (f' k);rw[←hz] at c1 v7 k3;have HZ:=oH hz;clear hz;go_wp2_with fail
 go_region
 have m4:(if z<v+1 then v+1 else z)=Max.max z (v+1):=by split<;>omega
 generalize (if z<v+1 then v+1 else z)=mx at*;have HM:=oH m4;clear m4;go_wp2;go_roundg (row.length-(t+1))
 ·obtain⟨hinv,Z,b7,a8,o,h7,b9⟩:=b5.out;have v8:=HZ.out;have w0:=HM.out;rw[←v8] at b9;refine⟨t+1,lu f' k (Max.max z (v+1)),by omega,rfl,by go_num,b9,by rw[jS u9.symm];exact Z,fun y hy Y=>?_,(a8.setCell (.inl fun h=>h rfl) _).drew,?_⟩
  ·rw[h7] at hy;by_cases h4:y.toNat=k;·rw[h4,fM];omega
   rw[jS h4];rcases eD.1 hy with hy|hy;·exact b7 y hy Y
   rw[cx.1 hy,dP] at h4;exact absurd rfl h4
  rw[←fZ,←w0];exact(o.set k _).drew
 omega)
 have w4:t=row.length:=by omega
 subst w4;have b5:=J5 hinv Z b7 a8 o;clear hinv Z b7 a8 o e7 R;go_wp2_with fail;go_roundg (G.length-(q+1));·obtain⟨hinv,Z,b7,a8,o⟩:=b5.out;refine⟨q+1,f',by omega,rfl,by go_num,?_,HI.2.1.trans (a8.mono fun b Y=>Y),HI.2.2.1.trans (a8.mono fun b Y=>Y),o⟩;refine(hinv.node (i:=i) (fun Y m hm=>by rw[Z,HV.out];exact HJ.2.2.2.2.1 m hm) (fun _ k e Y=>?_)).less fun p hp _=>HI.2.2.2.2.2.1 p hp;rw[Z];have:=b7 (k:Int) (by rw[dZ];exact(HJ.2.1 k).1 e) (by rw[dP];exact Y);rw[dP] at this;exact this
 omega)
 have w8:q=G.length:=by omega
 subst w8;have HI:=J3 hinv l o;clear hinv l o l0 j4;go_wp2_with fail;go_roundg (n-(r+1))
 ·refine⟨r+1,f,by omega,rfl,by go_num,HI.1.less fun p hp _=>?_,HI.2.1,HI.2.2⟩
  rw[dZ];exact CN HG.1 p hp
 omega)
 have w9:r=n:=by omega
 subst w9;have e7:=fun i hi=>hinv.bound (gu HR.2.2.2.1) hs (i:=i) hi;have k4:=wG (n3.1▸hinv);have hk:=(H7.2.2.1.trans (l.mono fun b Y=>by omega)).low;have hE:=sL (S:=fun b=>w.heap.size≤b) o (by omega) (by omega) (fun i hi=>WalkArith.wf_i64 (by have:=e7 i hi;omega));rw[k4] at hE;have HE:=J2 hk hE;clear e7 k4 hk hE hinv l o;go_wp2_with fail;go_ret;exact⟨_,rfl,HE.1,HE.2⟩
theorem Rb {ll:List (List Int)}{s i m:Nat}{d:Int}(J:mN ll)(R:s<ll.length)(hw:rt ll s m i)(j:(iq d (cZ ll s))[i]? =some false):(m:Int)<d:=by
 unfold iq cZ at j;rw[cL,cL,oE] at j;obtain⟨v,C,j⟩:=j;rw[oE] at C;obtain⟨k,Y,rfl⟩:=C;have l:=(lS.1 Y);obtain⟨Z,he⟩:=l;rw[List.getElem_range] at he;subst he;rw[Bool.or_eq_false_iff,decide_eq_false_iff_not,decide_eq_false_iff_not] at j;have h:=yg (FB J R i);have o:¬mD ll s i:=fun o=>by have:=h.1 o;omega
 obtain⟨x,hx,_,hm⟩:=h.2.2 hw.reach o;have:=hm m hw;omega
theorem Qj {c:aE}{i k:Nat}{b:aw}{x:bz}(l:c.Nf[i]? =some b)(o:x∈b.Ng.flatten)(C:x.kind=7)(J:x.ref=(k:Int))(j:k<c.Nf.length):dH (cG c) i k:=by refine⟨_,qp l,?_⟩;unfold dL;refine dr.2 ⟨k,List.mem_filter.2 ⟨fg.2 j,?_⟩,rfl⟩;unfold ie;exact mW.2 ⟨x,o,by simp[C,J]⟩
theorem OI {c:aE}:mN (cG c):=by rintro a b _ ⟨row,j,l⟩;obtain⟨f,o,rfl⟩:=dr.1 (mG j);obtain⟨n,e,h⟩:=qR l;rw[dT];omega
section
def Pw (b:aw)(x:bz)(i:Nat):Prop:=∃a:Nat,x.args.getD i 0=a∧(a:Int)<b.vars
def RB (b:aw)(x:bz):Prop:=∃d:Nat,x.dst=d∧(d:Int)<b.vars
def Ob (x:bz)(n:Nat):Prop:=∃r:Nat,x.ref=r∧r<n
structure CA (p:aH)(c:aE)(b:aw)(x:bz):Prop where
 kinds:1≤x.kind∧x.kind≤13
 op:x.op≤12
 dst:x.kind=1∨x.kind=2∨x.kind=3∨x.kind=4∨x.kind=5∨x.kind=7∨x.kind=8∨x.kind=10→RB b x
 arg0:x.kind=2∨x.kind=4∨x.kind=5∨x.kind=6∨x.kind=9∨x.kind=10∨x.kind=12∨x.kind=13→Pw b x 0∧1≤x.args.length
 arg1:x.kind=2∨x.kind=6→Pw b x 1∧2≤x.args.length
 args:∀a∈x.args,0≤a∧a<b.vars
 arr:x.kind=4∨x.kind=5∨x.kind=6→Ob x c.Nd.length
 fn:x.kind=7→Ob x c.Nf.length
 Nb:x.kind=8→Ob x p.Nb.length
 Na:x.kind=9→Ob x p.Na.length
 lev:x.kind=10→Ob x p.MZ.length
 tgt:x.kind=11∨x.kind=12→Ob x b.Ng.length
 Ni:x.kind=12→∃r:Nat,x.Ni=r∧r<b.Ng.length
theorem OW {b:aw}{x:bz}(h:∀a∈x.args,0≤a∧a<b.vars){i:Nat}(hi:i<x.args.length):Pw b x i:=by have hm:=h x.args[i] (eL hi);refine⟨x.args[i].toNat,?_,by omega⟩;rw[iG,lG hi];show x.args[i]=_;omega
theorem Rh {k:Nat}{y}(h:cw k=some y):1≤k∧k≤13:=by
 match k with
 |0=>simp[cw] at h
 |1|2|3|4|5|6|7|8|9|10|11|12|13=>omega
 |k+14=>simp[cw] at h
theorem NW {p:aH}{c:aE}{b:aw}{l:List bz}{x:bz}(hb:qi p c b)(J:l∈b.Ng)(R:x∈l):CA p c b x:=by
 have G:=Kj hb;have j:=G.args l J x R;have Y:=G.dst l J x R;have hp:=G.par;obtain⟨k,hk⟩:=cY.1 (List.mem_flatten.2 ⟨l,J,R⟩);obtain⟨n,dst,ref,Ni,C,Z,h2,h3,h4,h5,h6,h7,h8,h9,_⟩:=hb.2.2.2.2.2.1 k x hk;have hK:=Rh C;have a8:0≤b.params+(cj (b.Ng.flatten.take k):Int):=by omega
 have dI:dst=true→RB b x:=fun e=>by(
 rw[e] at Z;have Z:x.dst=b.params+(cj (b.Ng.flatten.take k):Int):=Z;rcases Y with Y|Y;·omega
 exact⟨x.dst.toNat,by omega,by omega⟩)
 have aI:∀m:Nat,(x.args.length:Int)=m→∀i,i<m→Pw b x i:=fun m hm i hi=>OW j (by omega);have rI:∀m:Nat,ref=true→cW p c b x.kind=m→Ob x m:=fun m e hm=>by have:=h7 e;exact⟨x.ref.toNat,by omega,by omega⟩
 have a1:x.op≤12:=by
  by_cases e:x.kind=2;·have:=h6 e;omega
  have:=h5 e;omega
 have a6:x.kind≠3→x.Nh=[]∧(x.args.length:Int)=if x.kind=7 then(c.Nf.getD x.ref.toNat ⟨0,0,[]⟩).params else n:=fun e=>by rw[ae e] at h9;exact h9
 have o:x.kind=1∨x.kind=2∨x.kind=3∨x.kind=4∨x.kind=5∨x.kind=6∨x.kind=7∨x.kind=8∨x.kind=9∨x.kind=10∨x.kind=11∨x.kind=12∨x.kind=13:=by omega
 have a7:∀m:Nat,ref=true→cW p c b x.kind=m→Ob x m:=rI
 rcases o with e|e|e|e|e|e|e|e|e|e|e|e|e<;>rw[e] at C<;>simp only[cw,Option.some.injEq,Prod.mk.injEq] at C<;>obtain⟨rfl,rfl,rfl,rfl⟩:=C<;>
  refine⟨hK,a1,fun h=>?_,fun h=>?_,fun h=>?_,j,fun h=>?_,fun h=>?_,fun h=>?_,fun h=>?_,fun h=>?_,fun h=>?_,fun h=>?_⟩<;>
  first
  |(exfalso;omega)
  |exact dI rfl
  |exact rI _ rfl (by simp[cW,e])
  |(have:=(a6 (by omega)).2;rw[ae (by omega)] at this;exact⟨OW j (by omega),by omega⟩)
  |(have:=h8 rfl;exact⟨x.Ni.toNat,by omega,by omega⟩)
theorem Pa {l:List bz}(h:mQ (l.map fun x=>x.kind)):∃i z,l=i++[z]∧11≤z.kind∧Nv l=Nv i++[z]∧∀x∈i,x.kind<11:=by
 obtain⟨J,o,_⟩:=h;rcases List.eq_nil_or_concat l with rfl|⟨i,z,e⟩;·simp at J
 rw[List.concat_eq_append] at e;subst e;have R:11≤z.kind:=(o i.length z.kind (by simp)).2 (by simp);refine⟨i,z,rfl,R,?_,fun x Y=>?_⟩
 ·unfold Nv
  rw[mE,List.filter_cons_of_pos (by simp;omega),List.filter_nil]
 obtain⟨k,C⟩:=cY.1 Y;have j:=(lS.1 C).1;have:=o k x.kind (by rw[ic,ma (by simpa using j),cL,C];rfl);have Z:¬(k+1=((i++[z]).map fun x=>x.kind).length):=by simp;omega
 omega
theorem Pn {l:List bz}(h:mQ (l.map fun x=>x.kind)):∃x,(Nv l)[0]? =some x:=by obtain⟨i,z,rfl,_,e,_⟩:=Pa h;rw[e];exact⟨_,lG (by simp)⟩
theorem PU {l:List bz}(h:mQ (l.map fun x=>x.kind)){k:Nat}{x:bz}(j:(Nv l)[k]? =some x)(J:x.kind<11):∃y,(Nv l)[k+1]? =some y:=by
 obtain⟨i,z,rfl,R,e,_⟩:=Pa h;rw[e] at j⊢;have o:=(lS.1 j).1;rw[iQ,List.length_singleton] at o;by_cases C:k=(Nv i).length
 ·subst C
  rw[kH (cf _),Nat.sub_self] at j;cases j;omega
 exact⟨_,lG (by rw[iQ,List.length_singleton];omega)⟩
theorem Oq {l:List bz}{k:Nat}{x:bz}(h:(Nv l)[k]? =some x):x∈l∧x.kind≠3:=by have:=List.mem_filter.1 (mG h);exact⟨this.1,by simpa using this.2⟩
def OU (c:aE)(fs:List Fr):Prop:=∃f gs,fs=f::gs∧(∃x,Nw c f=some x)∧Ns c f.fn gs
theorem PC {c:aE}{f:Fr}{b:aw}{l:List bz}{x:bz}(j:c.Nf[f.fn]? =some b)(o:b.Ng[f.blk]? =some l)(C:(Nv l)[f.Nj]? =some x):Nw c f=some x:=by unfold Nw;rw[j];simp only[Option.bind_some];rw[o];simp only[Option.bind_some];exact C
theorem NA {c:aE}{f:Fr}{x:bz}(h:Nw c f=some x):∃b l,c.Nf[f.fn]? =some b∧b.Ng[f.blk]? =some l∧(Nv l)[f.Nj]? =some x:=by unfold Nw at h;obtain⟨b,j,h⟩:=Option.bind_eq_some_iff.1 h;obtain⟨l,o,h⟩:=Option.bind_eq_some_iff.1 h;exact⟨b,l,j,o,h⟩
section
variable {p:aH} {c:aE}
theorem Nr (j:bJ p c){i:Nat}{b:aw}(l:c.Nf[i]? =some b):qi p c b:=j.2.2.2.2.2.2.2.1 b (mG l)
theorem Nm (J:bJ p c){f:Fr}{j:List Fr}{x:bz}(h:Nw c f=some x)(R:x.kind<11)(Y:Ns c f.fn j)(g:Nat):OU c (⟨g,f.fn,f.blk,f.Nj+1⟩::j):=by obtain⟨b,l,o,C,Z⟩:=NA h;obtain⟨y,hy⟩:=PU ((Nr J o).2.2.2.2.1 l (mG C)) Z R;exact⟨_,j,rfl,⟨y,PC o C hy⟩,Y⟩
theorem Nz (C:bJ p c){fn t:Nat}{j:List Fr}{b:aw}(l:c.Nf[fn]? =some b)(J:t<b.Ng.length)(R:Ns c fn j)(g:Nat):OU c (⟨g,fn,t,0⟩::j):=by have o:b.Ng[t]? =some b.Ng[t]:=lG J;obtain⟨y,Y⟩:=Pn ((Nr C l).2.2.2.2.1 _ (mG o));exact⟨_,j,rfl,⟨y,PC l o Y⟩,R⟩
theorem Ql:∀l:List bz,cj l≤l.length:=fun _=>List.length_filter_le _ _
theorem Og:∀(l:List Nat) (n:Nat),n∈l→n≤l.sum
 |m::l,n,h=>by
  rw[List.sum_cons];rcases fX.1 h with rfl|h;·omega
  have:=Og l n h;omega
theorem Oi (l:bJ p c){i:Nat}{b:aw}(o:c.Nf[i]? =some b):0≤b.vars∧b.vars≤4102:=by have j:=Nr l o;have C:=j.1;have J:=j.2.1;have R:=j.2.2.2.2.2.2;have Y:=Ql b.Ng.flatten;have Z:=Og _ _ (dr.2 ⟨b,mG o,rfl⟩:ft b∈c.Nf.map ft);have h6:=l.2.2.2.2.2.2.2.2;have h7:ft b=b.Ng.flatten.length:=rfl;omega
theorem Pb (j:bJ p c){f:Fr}{x:bz}(h:Nw c f=some x):f.Nj<4096∧f.blk<64∧f.fn<64:=by
 obtain⟨b,l,o,C,J⟩:=NA h;have R:=Nr j o;have Z:=(lS.1 J).1;have h2:(Nv l).length≤l.length:=List.length_filter_le _ _;have h3:l.length≤ft b:=by unfold ft;rw[List.length_flatten];exact Og _ _ (dr.2 ⟨l,mG C,rfl⟩)
 have h5:=Og _ _ (dr.2 ⟨b,mG o,rfl⟩:ft b∈c.Nf.map ft);have h6:=j.2.2.2.2.2.2.2.2;have h7:=(lS.1 C).1;have h8:=R.2.2.2.1;have h9:=(lS.1 o).1;have Y:=j.2.2.1;exact⟨by omega,by omega,by omega⟩
end
end
namespace Go.Proofs.YtncdbjponknakaaGreatDoor.Ari
theorem Tg:Maps.Keyed prog 5:=Maps.int_keyed underlying5
def Py (l:List (Int×FuncId)):Array MapEntry:=(l.zipIdx.map fun(x,n)=>⟨.int .u8 x.1,.func (.func x.2) #[] #[],n⟩).toArray
def Oo (l:List (Int×FuncId))(a:Int):Option FuncId:=(l.find? fun x=>a==x.1).map (·.2)
theorem Oc (a:Int)(l:List (Int×FuncId))(n m:Nat):
 Instr.findNow (.int .u8) (.int .u8 a) (l.zipIdx m|>.map fun(x,n)=>(⟨.int .u8 x.1,.func (.func x.2) #[] #[],n⟩:MapEntry)) n=some ((l.findIdx? fun x=>a==x.1).bind fun i=>(Oo l a).map fun f=>(n+i,.func (.func f) #[] #[])):=by
 induction l generalizing n m with
 |nil=>rfl
 |cons x l j=>
  simp only[List.zipIdx_cons,List.map_cons,Instr.findNow,Instr.sameNow,ap,Oo,List.find?_cons,List.findIdx?_cons];cases h:a==x.1;·simp only[j,Oo];cases l.findIdx? fun x=>a==x.1<;>simp;cases l.find? fun x=>a==x.1<;>simp;omega
  simp
theorem Od (w:World)(a:Int)(l:List MapEntry)(r)(h:Instr.findNow (.int .u8) (.int .u8 a) l 0=some r):
 (Instr.findKey 5 (.int .u8 a) l).run prog w=.ok r w:=by
 unfold Instr.findKey;simp[run_underlying underlying5,h]
theorem Qm (l:List (Int×FuncId))(k:Int)(f:FuncId):(Py l).push ⟨.int .u8 k,.func (.func f) #[] #[],l.length⟩=Py (l++[(k,f)]):=by simp[Py,List.zipIdx_append]
theorem Pd (W:World)(b:Nat)(l:List (Int×FuncId))(k:Int)(f:FuncId)(hw:(Lit.int .u8 k).wf=true)
 (h:(l.findIdx? fun x=>k==x.1)=none) (o:W.heap[b]? =some (.map (Py l) l.length)):
 (Instr.mapUpdate 183 (.map (some b)) (.int .u8 k) (.func (.func f) #[] #[])).run prog W=.ok () {W with heap:=W.heap.setIfInBounds b (.map (Py (l++[(k,f)])) (l.length+1))}:=by
 have C:=Od W k (Py l).toList none (by have:=Oc k l 0 0;rw[h] at this;simpa [Py] using this);have j:=Tg.check W false (Maps.keyOf_int_mk underlying5 hw);unfold Instr.mapUpdate;simp[run_underlying underlying183,MapKept.run_getObj_map o,j,C,MapKept.run_setObj_map _ o,Result.andThen,Qm]
theorem Pt (w:World)(l:List (Int×FuncId))(c:Nat)(k:Int)(f:FuncId)(j:l.length=c)(hw:(Lit.int .u8 k).wf=true)
 (h:(l.findIdx? fun x=>k==x.1)=none):
 (Instr.mapUpdate 183 (.map (some w.heap.size)) (.int .u8 k) (.func (.func f) #[] #[])).run prog (w.alloc (.map (Py l) c))=.ok () (w.alloc (.map (Py (l++[(k,f)])) (c+1))):=by
 subst j;rw[Pd _ _ l k f hw h (by simp only[World.alloc];simp)];simp only[World.alloc];congr 2;apply Array.ext_getElem?;intro i;simp only[Array.getElem?_setIfInBounds,Array.getElem?_push,Array.size_push];by_cases hi:w.heap.size=i;·simp[hi]
 have:¬i=w.heap.size:=fun e=>hi e.symm;simp[hi,this]
theorem QL (w:World)(l:List (Int×FuncId))(c b:Nat)(k:Int)(J:w.heap[b]? =some (.map (Py l) c))(hw:(Lit.int .u8 k).wf=true):
 (Instr.lookup 183 (.map (some b)) (.int .u8 k) false).run prog w=.ok (match Oo l k with|some f=>.func (.func f) #[] #[]|none=>.nilFunc) w:=by
 have j:=Od w k (Py l).toList _ (by have:=Oc k l 0 0;simpa [Py] using this);have o:=Tg.check w (Py l).isEmpty (Maps.keyOf_int_mk underlying5 hw);have R:(zeroValue 182).run prog w=.ok .nilFunc w:=by kernel_rfl
 unfold Instr.lookup;simp[run_underlying underlying183,MapKept.run_getObj_map J,o,j,Result.andThen];cases h:l.findIdx? fun x=>k==x.1 with
 |none=>
  have:Oo l k=none:=by rw[List.findIdx?_eq_none_iff] at h;simp only[Oo,Option.map_eq_none_iff,List.find?_eq_none];intro x Y;simp[h x Y]
  simp[this,R]
 |some i=>
  obtain⟨f,j⟩:∃f,Oo l k=some f:=by(
 rw[List.findIdx?_eq_some_iff_getElem] at h;obtain⟨hi,Z,_⟩:=h;cases C:l.find? fun x=>k==x.1 with
 |none=>exact absurd Z (List.find?_eq_none.1 C _ (eL hi))
 |some f=>exact⟨f.2,by simp[Oo,C]⟩)
  simp[j]
def Tm:List (Int×FuncId):=[(1,108),(2,109),(3,110),(4,111),(5,112),(6,113),(7,114),(8,115),(9,116),(10,117),(11,118),(12,120)]
def mp (i:Nat):Obj:=.map (Py (Tm.take i)) i
theorem NL (w:World)(i:Nat)(k:Int)(f:FuncId)(hi:Tm[i]? =some (k,f))(j:0≤k)(l:k<256)(o:i<12)
 (h:((Tm.take i).findIdx? fun x=>k==x.1)=none):
 (Instr.mapUpdate 183 (.map (some w.heap.size)) (.int .u8 k) (.func (.func f) #[] #[])).run prog (w.alloc (mp i))=.ok () (w.alloc (mp (i+1))):=by
 have e:Tm.take (i+1)=Tm.take i++[(k,f)]:=by rw[cU,hi];rfl
 unfold mp;rw[e];exact Pt w (Tm.take i) i k f (by rw[fN];show min i 12=i;omega) (WalkArith.wf_u8 (by omega)) h
theorem ee (w:World):Calls prog 76 #[] w fun e j=>e=.returned (.map (some w.heap.size))∧w.alloc (mp 12)=j:=by have l:∀w,(Instr.makeMap 183 none).run prog w=.ok (.map (some w.heap.size)) (w.alloc (mp 0)):=@run_makeMap prog 183;have J:=fun w=>NL w 0 1 108 rfl (by decide) (by decide) (by decide) (by rfl);have R:=fun w=>NL w 1 2 109 rfl (by decide) (by decide) (by decide) (by rfl);have Y:=fun w=>NL w 2 3 110 rfl (by decide) (by decide) (by decide) (by rfl);have Z:=fun w=>NL w 3 4 111 rfl (by decide) (by decide) (by decide) (by rfl);have u4:=fun w=>NL w 4 5 112 rfl (by decide) (by decide) (by decide) (by rfl);have u5:=fun w=>NL w 5 6 113 rfl (by decide) (by decide) (by decide) (by rfl);have u6:=fun w=>NL w 6 7 114 rfl (by decide) (by decide) (by decide) (by rfl);have u7:=fun w=>NL w 7 8 115 rfl (by decide) (by decide) (by decide) (by rfl);have u8:=fun w=>NL w 8 9 116 rfl (by decide) (by decide) (by decide) (by rfl);have u9:=fun w=>NL w 9 10 117 rfl (by decide) (by decide) (by decide) (by rfl);have o:=fun w=>NL w 10 11 118 rfl (by decide) (by decide) (by decide) (by rfl);have C:=fun w=>NL w 11 12 120 rfl (by decide) (by decide) (by decide) (by rfl);go_enter func76,ntmps76;go_wp2;go_ret;exact⟨rfl,rfl⟩
theorem xq (w:World)(k:Int)(j:0≤k)(l:k<256):(Instr.lookup 183 (.map (some w.heap.size)) (.int .u8 k) false).run prog (w.alloc (mp 12))=.ok (match Oo Tm k with|some f=>.func (.func f) #[] #[]|none=>.nilFunc) (w.alloc (mp 12)):=
 QL _ Tm 12 _ k (by simp only[World.alloc];simp;rfl) (WalkArith.wf_u8 (by omega))
end Go.Proofs.YtncdbjponknakaaGreatDoor.Ari
end Go.Proofs.YtncdbjponknakaaGreatDoor
