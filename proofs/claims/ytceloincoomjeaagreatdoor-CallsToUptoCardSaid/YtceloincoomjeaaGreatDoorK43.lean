/- Part 44 of the proof of CallsTo (its last part says what is proved). No condition. -/
import Derived.Test.YtceloincoomjeaaGreatDoorK42
namespace Go.Proofs.YtceloincoomjeaaGreatDoor
set_option maxRecDepth 100000
set_option maxHeartbeats 8000000
open Go.RowKit Go.Proofs.Tryz
theorem lg {ll:List (List Int)}(h:aP ll){k:Nat}(j:k<ll.length):∀x∈ll[k],∃n:Nat,x=n∧n<ll.length:=by intro x l;obtain⟨o,C⟩:=gw h j x l;exact⟨x.toNat,by omega,by omega⟩
theorem qF {ll:List (List Int)}(h:aP ll)(j:Nat):∀x∈ll[j]?.getD [],∃n:Nat,x=n∧n<ll.length:=by
 intro x l;rcases Nat.lt_or_ge j ll.length with o|o;·rw[lG o] at l;exact lg h o x l
 rw[jz o] at l;simp at l
theorem gu {ll:List (List Int)}(h:aP ll):mN ll:=by rintro a b o ⟨row,j,l⟩;obtain⟨n,C,I⟩:=qF h a b (by rw[j];exact l);omega
noncomputable def cZ (ll:List (List Int))(s:Nat):List Int:=(List.range ll.length).map (gy ll s)
noncomputable def ou (ll:List (List Int))(s k:Nat):Nat→Bool:=fun j=>decide (j<k)&&kS ll s j
theorem sr {ll:List (List Int)}{s k:Nat}{b:Bool}(h:b=kS ll s k):(az ll.length (ou ll s k)).setIfInBounds k (.bool b)=az ll.length (ou ll s (k+1)):=by
 refine dg (by simp[ou,h]) (fun j _ l=>?_);unfold ou;have:(j<k+1)↔(j<k):=by omega
 simp[this]
theorem aa.low {w j:World}(h:aa (fun b=>b<w.heap.size) w j):aa All w j:=⟨h.os,h.output,h.size,fun b l _=>h.block b l l⟩
theorem wG {ll:List (List Int)}{s:Nat}{f:Nat→Int}(h:jJ ll s (nf ll (bC ll).length) f):(List.range ll.length).map f=cZ ll s:=by unfold cZ;refine List.map_congr_left fun i hi=>?_;exact(nh (Fy (Fx h) (fg.1 hi))).symm
structure Il (ll:List (List Int))(A:Option Addr)(cap:Nat)(Ab:Option Addr)(cb xb:Nat)(wr:World):Prop where
 been:al wr xb 61 #[.slice Ab ll.length cb]
 rows:Rows (fun b=>b<xb) wr (.slice A ll.length cap) ll
 tab:jE (fun b=>b<xb) wr (.slice Ab ll.length cb) (dB ll)
theorem Il.keep {ll:List (List Int)}{A:Option Addr}{cap:Nat}{o:Option Addr}{C j:Nat}{wr I:World}(h:Il ll A cap o C j wr)(k:aa (fun b=>b≤j) wr I):Il ll A cap o C j I:=
 ⟨h.been.kept k (cf _),aq.keep (k.mono fun _ l=>Nat.le_of_lt l) h.rows,er.keep (k.mono fun _ l=>Nat.le_of_lt l) h.tab⟩
theorem qW (S:Nat→Prop)(v:Value)(ll:List (List Int))(s:Nat)(w:World)(hv:Rows S w v ll)(hR:aP ll)(hs:s<ll.length):
 Calls prog 15 #[v,.int .i64 s] w fun e w'=>∃u,e=.returned u∧aa All w w'∧aK (fun b=>w.heap.size≤b) w' u (cZ ll s):=by
 have hl:ll.length≤256:=hR.2.1;have b9:=fun w1 (hk:aa All w w1)=>gt S v ll w1 (aq.keep hk.all hv);rw[bL hR] at b9;have e7:=fun w1 (hk:aa All w w1)=>rj S v ll w1 (aq.keep hk.all hv) hR;have c5:=fun w1 (hk:aa All w w1)=>sJ S v ll w1 (aq.keep hk.all hv) hR;have n6:=jh hv;obtain⟨A,cap,rfl,h1,h2,r4,h⟩:=hv;have HR:=J5 b9 e7 c5 hR n6;clear h h1 h2 r4 b9 e7 c5 hR n6;have x2:decide ((s:Int)<0)=false:=by simp
 have x3:decide ((ll.length:Int)≤s)=false:=by simp;omega
 go_enter func15,ntmps15;go_wp2_with fail;refine(HR.1 _ kR).mono ?_;rintro e w1 ⟨rfl,h4⟩;have HK:=oH h4;clear h4;go_wp2_with fail;refine(HR.2.1 _ HK.out).mono ?_;rintro e w2 ⟨vb,rfl,k4,n7⟩;have h7:=n7;obtain⟨Ab,cb,rfl,_⟩:=n7;rw[gU] at h7⊢;have HB:=J2 k4 h7;clear k4 h7;have n8:=wX ll.length (by omega) (w2.alloc (.cells #[.slice Ab ll.length cb] 61));have n9:=iy ll.length (by omega) ((w2.alloc (.cells #[.slice Ab ll.length cb] 61)).alloc (.cells (aN ll.length fun _=>0) 3));go_wp2_with fail;obtain⟨C,e0⟩:=eQ w2.heap.size;have o0:al (((w2.alloc (.cells #[.slice Ab ll.length cb] 61)).alloc (.cells (aN ll.length fun _=>0) 3)).alloc (.cells (az ll.length fun _=>false) 4)) (C+1) 3 (aN ll.length (nu ll s 0 0)):=by have e:(aN ll.length fun _=>0)=aN ll.length (nu ll s 0 0):=ex fun i _=>(Lv ll s i).symm;rw[e];subst e0;exact(ac (by simp)).alloc _
 have o5:al (((w2.alloc (.cells #[.slice Ab ll.length cb] 61)).alloc (.cells (aN ll.length fun _=>0) 3)).alloc (.cells (az ll.length fun _=>false) 4)) (C+1+1) 4 (az ll.length (ou ll s 0)):=by
  have e:(az ll.length fun _=>false)=az ll.length (ou ll s 0):=by congr 1
  rw[e];subst e0;exact ac (by simp)
 have k5:aa All w2 (((w2.alloc (.cells #[.slice Ab ll.length cb] 61)).alloc (.cells (aN ll.length fun _=>0) 3)).alloc (.cells (az ll.length fun _=>false) 4)):=((kR.alloc _).alloc _).alloc _;have l2:Il ll A cap Ab cb C (((w2.alloc (.cells #[.slice Ab ll.length cb] 61)).alloc (.cells (aN ll.length fun _=>0) 3)).alloc (.cells (az ll.length fun _=>false) 4)):=by(
 have e1:=HK.out.size;have e2:=HB.1.size;have k4:=(HK.out.trans HB.1).trans k5;refine⟨((by subst e0;exact al.new _ _ _:al _ C 61 #[.slice Ab ll.length cb]).alloc _).alloc _,?_,?_⟩;·exact aq.wide (fun b R=>by omega) (aq.keep k4.all HR.2.2.2.2)
 exact er.wide (fun b R=>by omega) (er.keep k5.all (pt HB.2)))
 have o7:(((w2.alloc (.cells #[.slice Ab ll.length cb] 61)).alloc (.cells (aN ll.length fun _=>0) 3)).alloc (.cells (az ll.length fun _=>false) 4)).heap.size=C+3:=by subst e0;simp
 have o9:aa All w (((w2.alloc (.cells #[.slice Ab ll.length cb] 61)).alloc (.cells (aN ll.length fun _=>0) 3)).alloc (.cells (az ll.length fun _=>false) 4)):=(HK.out.trans HB.1).trans k5;rw[←e0];generalize (((w2.alloc (.cells #[.slice Ab ll.length cb] 61)).alloc (.cells (aN ll.length fun _=>0) 3)).alloc (.cells (az ll.length fun _=>false) 4))=w3 at*;have x4:w.heap.size≤C:=by rw[e0];exact(HK.out.trans HB.1).size
 have H3:=J5 o0 o5 l2 o9 o7;clear o0 o5 l2 o9 o7 k5 n8 n9 e0;go_loopg [42] ll.length (fun gg x wr=>∃k:Nat,k≤ll.length∧gg=ll.length-k∧x=.int .i64 k∧aa (fun b=>b≤C+1) w3 wr∧al wr (C+1+1) 4 (az ll.length (ou ll s k)));·exact⟨0,by omega,by omega,rfl,kR,H3.2.1⟩
 obtain⟨k,hk,rfl,rfl,l,o⟩:=hrel;by_cases J:k<ll.length;·(
 have I:=lg HR.2.2.2.1 J;have h8:ll[k].length≤256:=by have:=du (HR.2.2.2.1.2.2 _ (eL J));omega
 have env:=H3.2.2.1.keep (l.mono fun b R=>by omega);have p0:=l.size;rw[H3.2.2.2.2] at p0;obtain⟨a1,p1,m4,_,_,_,h9⟩:=env.rows;injection m4 with m5 _ m6;subst m5;subst m6;obtain⟨b1,o1,c1,rfl,r5,m7,i0⟩:=h9 k ll[k] (lG J);have m8:=i0;obtain⟨Ar,cr,rfl,_⟩:=m8;have i1:kS ll s k=(ay ll s k&&(ll[k]).any fun x=>ay ll x.toNat k):=by unfold kS;rw[lG J];rfl
 obtain⟨b2,o2,b3,o3,c3,r6,l3,h2,r7,l4,h3⟩:=io env.tab hs J;have c7:=J6 i1 env o i0 I l;have i2:=env.been.cell 0;have m9:=o.cell k;have r8:=o.free k;rw[bj J] at m9;simp only[gc] at i2;clear i1 env o i0 I l h9;subst r6;generalize ll[k]=row at*;go_upto_region 9 with fail;obtain⟨wq,i4⟩:=eQ (wr.alloc (.cells #[.int .i64 k] 3));have c9:aa All wr wq:=i4▸(aa.refl _ wr).alloc _;have i5:al wq wr.heap.size 3 #[.int .i64 k]:=i4▸al.new _ _ _;have q1:=c9.cell (p:=⟨C,0,none⟩) trivial i2;have q2:=c9.cell (p:=⟨b2,o2+s,none⟩) trivial h2;have q3:=c9.cell (p:=⟨b3,o3+k,none⟩) trivial h3;have q4:=c9.cell (p:=⟨C+1+1,k,none⟩) trivial m9;have q5:wq.frozen? ⟨C+1+1,k,none⟩=false:=(c7.2.2.1.kept c9 trivial).free k;have q6:=i5.cell 0;simp only[gc] at q6;have i6:∀wn,aa All wq wn→Calls prog 23 #[.slice Ar row.length cr,.func (.func 24) #[] #[.pointer (some ⟨C,0,none⟩),.pointer (some ⟨wr.heap.size,0,none⟩)]] wn fun e w'=>e=.returned (.bool (row.any fun x=>ay ll x.toNat k))∧∃n,w'=wn.drewN n:=by intro wn d7;have n0:aa All wr wn:=c9.trans d7;exact Ji _ _ ll _ _ row C wr.heap.size k wn (c7.2.1.been.kept n0 trivial) (i5.kept d7 trivial) (er.keep n0.all c7.2.1.tab) (ah.keep n0.all c7.2.2.2.1) c7.2.2.2.2.1 h8 J hl
 have HC:=J3 i6 i4 c9;have h5:=c7.1;rw[←i4];clear i6 c9 i4 i2 h2 h3 m9 r8 i5 m7;generalize wr.heap.size=xi at q6 HC p0⊢;cases hp:ay ll s k with
 |false=>
  rw[hp,Bool.false_and] at h5;rw[hp] at q3;have HP:=oH h5;clear hp h5
  go_region
  go_wp2;go_roundg (ll.length-(k+1));·(
 obtain⟨_,_,o,_,_,l⟩:=c7.out;refine⟨k+1,by omega,rfl,by go_num,?_,?_⟩
 ·have h4:aa (fun b=>b≤C+1) w3 wq:=l.trans HC.2.2.all
  exact(h4.setCell (.inl fun h=>by have:C+1+1≤C+1:=h;omega) _).drew
 rw[←sr HP.out.symm];exact((o.kept HC.2.2 trivial).set k _).drew)
  omega
 |true=>
  rw[hp,Bool.true_and] at h5;rw[hp] at q3;have HP:=oH h5;clear hp h5
  have hS:∀wn,aa (fun b=>b≠C+1+1) wq wn→aa (fun b=>b≠C+1+1) wq wn∧wn.cell? ⟨C,0,none⟩=some (.slice (some ⟨b2,o2,none⟩) ll.length cb)∧wn.cell? ⟨b2,o2+s,none⟩=some (.slice (some ⟨b3,o3,none⟩) ll.length c3)∧wn.cell? ⟨b3,o3+k,none⟩=some (.bool true)∧wn.cell? ⟨xi,0,none⟩=some (.int .i64 k):=
   fun wn d7=>⟨d7,d7.cell (p:=⟨C,0,none⟩) (by show C≠_;omega) q1,d7.cell (p:=⟨b2,o2+s,none⟩) (by have:b2<C:=l3;show b2≠_;omega) q2,d7.cell (p:=⟨b3,o3+k,none⟩) (by have:b3<C:=l4;show b3≠_;omega) q3,d7.cell (p:=⟨xi,0,none⟩) (by show xi≠_;omega) q6⟩
  go_region_held3 (fun wn=>aa (fun b=>b≠C+1+1) wq wn∧wn.cell? ⟨C,0,none⟩=some (.slice (some ⟨b2,o2,none⟩) ll.length cb)∧wn.cell? ⟨b2,o2+s,none⟩=some (.slice (some ⟨b3,o3,none⟩) ll.length c3)∧wn.cell? ⟨b3,o3+k,none⟩=some (.bool true)∧wn.cell? ⟨xi,0,none⟩=some (.int .i64 k))
   (exact hS _ (by repeat(first|exact kR|apply aa.drew|apply aa.drewN|(refine aa.setCell ?_ (.inl fun h=>h rfl) _))))
   (first|(go_at_call 23;refine(HC.1 _ (kR.drew)).mono ?_;rintro e w' ⟨rfl,n',rfl⟩))
  go_wp2;go_roundg (ll.length-(k+1));·(
 obtain⟨_,_,o,_,_,l⟩:=c7.out;refine⟨k+1,by omega,rfl,by go_num,?_,?_⟩
 ·have h4:aa (fun b=>b≤C+1) w3 wq:=l.trans HC.2.2.all
  exact(h4.drewN _).setCell (.inl fun h=>by have:C+1+1≤C+1:=h;omega) _
 rw[←sr HP.out.symm];exact(o.kept (HC.2.2.drewN (1+n')) trivial).set k _)
  omega)
 have d8:k=ll.length:=by omega
 subst d8;have i7:=H3.2.2.1.keep (l.mono fun b R=>by omega);have l5:=H3.1.kept l (cf _);have l6:aa (fun b=>b<w.heap.size) w wr:=(H3.2.2.2.1.mono fun b R=>trivial).trans (l.mono fun b R=>by omega);have p2:=l.size;rw[H3.2.2.2.2] at p2;have e5:ou ll s ll.length=fun j=>decide (j<ll.length)&&kS ll s j:=rfl;have H5:=J4 i7 l5 l6 o;clear l o J hk i7 l5 l6 e5;clear H3;go_wp2_with fail;obtain⟨w5,rfl⟩:=eQ wr;go_loopg [65] ll.length (fun gg x wr=>∃i:Nat,i≤ll.length∧gg=ll.length-i∧x=.int .i64 i∧aa (fun b=>b≠C+1) w5 wr∧al wr (C+1) 3 (aN ll.length (nu ll s i 0)));·exact⟨0,by omega,by omega,rfl,kR,H5.2.1⟩
 obtain⟨i,hi,rfl,rfl,l,o⟩:=hrel;by_cases J:i<ll.length;·(
 have HQ:=J2 l o;clear l o;go_wp2_with fail;go_loopg [70] ll.length (fun gg x wr=>∃k:Nat,k≤ll.length∧gg=ll.length-k∧x=.int .i64 k∧aa (fun b=>b≠C+1) w5 wr∧al wr (C+1) 3 (aN ll.length (nu ll s i k)));·exact⟨0,by omega,by omega,rfl,HQ.1,HQ.2⟩
 clear HQ;obtain⟨k,hk,rfl,rfl,l,o⟩:=hrel;by_cases n1:k<ll.length;·(
 have env:=H5.1.keep (l.mono fun b R=>by omega);have p3:=(H5.2.2.2.kept l (by show C+1+1≠C+1;omega)).cell k;have ec:ou ll s ll.length k=kS ll s k:=by simp[ou,n1]
 rw[bj n1,ec] at p3;obtain⟨b2,o2,b3,o3,c3,rfl,l3,h2,r7,l4,h3⟩:=io env.tab n1 J;have i2:=env.been.cell 0;simp only[gc] at i2;have r9:=o.cell i;have Y:=o.free i;rw[bI J] at r9;have HQ:=J4 l o (@JC ll s i k) (@Gz ll s i k);clear l o env ec;generalize kS ll s k=p at*;generalize ay ll k i=q at*;cases p with
 |false=>
  go_wp2;go_roundg (ll.length-(k+1));·exact⟨k+1,by omega,rfl,by go_num,HQ.1,by rw[HQ.2.2.1 rfl];exact HQ.2.1⟩
  omega
 |true=>
  cases q with
  |false=>
   go_wp2;go_roundg (ll.length-(k+1));·exact⟨k+1,by omega,rfl,by go_num,HQ.1,by rw[HQ.2.2.1 rfl];exact HQ.2.1⟩
   omega
  |true=>
   go_wp2;go_roundg (ll.length-(k+1));·refine⟨k+1,by omega,rfl,by go_num,HQ.1.setCell (.inl fun h=>h rfl) _,?_⟩;rw[←HQ.2.2.2 rfl,←fZ];exact HQ.2.1.set i _
   omega)
 have d8:k=ll.length:=by omega
 subst d8;have HQ:=J2 l o;clear l o;go_wp2_with fail;go_roundg (ll.length-(i+1));·exact⟨i+1,by omega,rfl,by go_num,HQ.1,by rw[←DD];exact HQ.2⟩
 omega)
 have Z:i=ll.length:=by omega
 subst Z;have c0:al wr (C+1) 3 (aN ll.length (kL ll s)):=by rw[←ex fun j hj=>Gy (s:=s) hj];exact o
 have p4:=c0.cell s;have s0:=c0.free s;rw[bI hs] at p4;have HQ:=J3 l c0 (zZ (s:=s) (qF HR.2.2.2.1));clear l o c0 J hi;go_upto_if 95 with fail;go_cut [] from 96 to 98 (fun wx=>aa (fun b=>b≠C+1) w5 wx∧al wx (C+1) 3 (aN ll.length (if kL ll s s=0 then lu (kL ll s) s 1 else kL ll s)))
 case first=>(
 by_cases h0:kL ll s s=0
 ·have s3:(kL ll s s==0)=true:=by simp[h0]
  go_wp2;go_meet;rw[ap h0];exact⟨HQ.1.setCell (.inl fun h=>h rfl) _,by rw[←fZ];exact HQ.2.1.set s _⟩
 have s3:(kL ll s s==0)=false:=by simp[h0]
 go_wp2;go_meet;rw[ae h0];exact⟨HQ.1,HQ.2.1⟩)
 have p5:aa All w wc:=(H5.2.2.1.trans (hcut.1.mono fun b R=>by omega)).low;have x5:=hcut.1.size;have p6:=HQ.2.2;have l7:=H5.1.keep (hcut.1.mono fun b R=>by omega);generalize (if kL ll s s=0 then lu (kL ll s) s 1 else kL ll s)=f0 at*;have HD:=J4 p5 hcut.2 p6 l7;clear p5 hcut p6 l7 p4 s0 HQ H5;go_wp2_with fail;refine(HR.2.2.1 _ HD.1).mono ?_;rintro e w6 ⟨u,B,rfl,k6,hB,ho,s4⟩;have p7:(bC ll).reverse.length=(bC ll).length:=List.length_reverse;have s5:=yu (ll:=ll) HR.2.2.2.1.1;have l8:=GU ho s5 s4;obtain⟨Ag,cg,rfl⟩:∃A c,u=.slice A (bC ll).length c:=by
  obtain⟨vs,hv,_⟩:=ho;rcases hv.2 with ⟨_,hn⟩|⟨g,cap,cur,rfl,_⟩;·omega
  exact⟨_,_,rfl⟩
 have j0:=HD.2.2.2.keep k6.all;have l9:=HD.2.1.kept k6 trivial;have H6:=J4 k6 l8 j0 l9;clear k6 l8 j0 l9 ho;go_wp2_with fail;refine(H6.2.1).mono ?_;rintro e w7 ⟨rfl,k7,j1⟩;generalize p8:(bC ll).length=n at*;have n2:=J2 p8 p7;clear p8 p7;have j2:=H6.2.2.1.keep (k7.mono fun b R=>by omega);have m0:=H6.2.2.2.kept k7 (by omega);have m1:aa (fun b=>b<w.heap.size) w w7:=((HD.1.trans H6.1).mono fun _ _=>trivial).trans (k7.mono fun b R=>by omega);have H7:=J4 j2 m0 m1 j1;clear j2 m0 m1 j1 k7 H6;go_wp2_with fail;go_loopg [105] n (fun gg x wr=>∃(r:Nat) (f:Nat→Int),r≤n∧gg=n-r∧x=.int .i64 r∧jJ ll s (nf ll r) f∧aa (fun b=>b≠C+1) w7 wr∧al wr (C+1) 3 (aN ll.length f));·exact⟨0,f0,by omega,by omega,rfl,HD.2.2.1,kR,H7.2.1⟩
 obtain⟨r,f,hr,rfl,rfl,hinv,l,o⟩:=hrel;by_cases p9:r<n;·(
 have q0:r<(bC ll).reverse.length:=by rw[n2.2];exact p9
 have hG:=lG q0;obtain⟨a1,p1,m4,_,_,_,h9⟩:=n2.2▸aq.keep (l.mono fun b R=>by omega) H7.2.2.2;injection m4 with m5 _ m6;subst m5;subst m6;obtain⟨b1,o1,c1,rfl,r5,m7,e3⟩:=h9 r _ hG;have k8:=e3;obtain⟨Ar,cr,rfl,_,_,x6,_⟩:=k8;have I:∀x∈(bC ll).reverse[r],∃n:Nat,x=n∧n<ll.length:=wQ _ _ _ (List.mem_reverse.1 (eL q0));have HG:=J6 hG e3 I hinv l o;clear hG e3 I hinv l o h9;generalize (bC ll).reverse[r]=G at*;go_wp2_with fail;obtain⟨wg,rfl⟩:=eQ wr;go_loopg [111] G.length (fun gg x wr=>∃(q:Nat) (f:Nat→Int),q≤G.length∧gg=G.length-q∧x=.int .i64 q∧jJ ll s (fun p=>nf ll r p∨(p:Int)∈G.take q) f∧aa (fun b=>b≠C+1) w7 wr∧aa (fun b=>b≠C+1) wg wr∧al wr (C+1) 3 (aN ll.length f));·exact⟨0,f,by omega,by omega,rfl,HG.2.2.2.1.less (fun p hp _=>by rcases hp with h|h;exact h;simp at h),HG.2.2.2.2.1,kR,HG.2.2.2.2.2⟩
 obtain⟨q,f,hq,rfl,rfl,hinv,l,k9,o⟩:=hrel;have j3:=fun i hi=>hinv.bound (gu HR.2.2.2.1) hs (i:=i) hi;by_cases l0:q<G.length;·(
 obtain⟨i,j4,Z⟩:=HG.2.2.1 G[q] (eL l0);obtain⟨a2,w9,s6,_,_,_,q7⟩:=ah.keep (k9.mono fun b R=>by omega) HG.2.1;injection s6 with s7 _ s8;subst s7;subst s8;obtain⟨b4,o4,c4,rfl,x7,q8,rfl,_⟩:=q7 q _ (lG l0);rw[j4] at q8;have i5:=j3 i Z;have j5:=o.cell i;rw[bI Z] at j5;have j6:(i:Int)∈G:=by rw[←j4];exact eL l0
 have a8:¬mD ll s i→∀m,rt ll s m i→(m:Int)≤f i:=fun R=>uW hinv Z R fun p hp e=>.inl (Fw HG.1 j6 R Z p hp e);have j7:∀p,(nf ll r p∨(p:Int)∈G.take (q+1))→(nf ll r p∨(p:Int)∈G.take q)∨p=i:=by(
 intro p hp;rcases hp with hp|hp;·exact .inl (.inl hp)
 rw[cU,lG l0,j4] at hp;rcases eD.1 hp with hp|hp;·exact .inl (.inr hp)
 right;have:(p:Int)=i:=by simpa using hp
 omega)
 have HI:=J8 hinv l k9 o a8 j7 j6 j4;clear hinv l k9 o a8 j7 j6 j4 q7 j3;by_cases d9:f i<1
 ·have HL:=oH d9;have j8:decide (f i<1)=true:=by simpa using d9
  clear d9;generalize q9:f i=v at*;have HV:=oH q9;clear q9;go_wp2_with fail;go_roundg (G.length-(q+1))
  ·refine⟨q+1,f,by omega,rfl,by go_num,?_,HI.2.1,HI.2.2.1,HI.2.2.2.1⟩
   exact(HI.1.node (i:=i) (fun R m hm=>by have:=HI.2.2.2.2.1 R m hm;have:=HV.out;omega) (fun h1=>by have:=HL.out;have:=HV.out;omega)).less fun p hp _=>HI.2.2.2.2.2.1 p hp
  omega
 have j8:decide (f i<1)=false:=by simpa using d9
 have n3:1≤f i:=by omega
 have n4:=HI.1.not_bad Z (by omega);have a8:=HI.2.2.2.2.1 n4;have env:=H7.1.keep (HI.2.1.mono fun b R=>by omega);obtain⟨a5,x0,s9,_,_,_,r0⟩:=env.rows;injection s9 with u0 _ u1;subst u0;subst u1;obtain⟨b6,o6,c6,rfl,x8,u2,e4⟩:=r0 i ll[i] (lG Z);have l1:=e4;obtain⟨Ai,ci,rfl,_,_,_,_⟩:=l1;have I:=lg HR.2.2.2.1 Z;have m2:∀k:Nat,dH ll i k↔(k:Int)∈ll[i]:=fun k=>kQ Z;have h8:ll[i].length≤256:=by have:=du (HR.2.2.2.1.2.2 _ (eL Z));omega
 have e8:¬dH ll i i:=fun e=>n4 (sf Z (HI.1.way Z n3).reach e .refl);have HJ:=J6 I m2 e4 e8 a8 n3;clear I m2 e4 e8 a8 r0 env n4 d9 n3;generalize ll[i]=row at*;obtain⟨v,hv⟩:=eQ (f i);rw[←hv] at j5 j8 i5;have HV:=oH hv;clear hv;go_wp2_with fail;obtain⟨wi,rfl⟩:=eQ wr;clear j5 u2 q8 m7
 go_loopg [125] row.length (fun gg x wr=>∃(t:Nat) (f':Nat→Int),t≤row.length∧gg=row.length-t∧x=.int .i64 t∧jJ ll s (fun p=>nf ll r p∨(p:Int)∈G.take q) f'∧f' i=v∧
  (∀y∈row.take t,¬mD ll s y.toNat→v+1≤f' y.toNat)∧aa (fun b=>b≠C+1) wi wr∧al wr (C+1) 3 (aN ll.length f'))
 ·exact⟨0,f,by omega,by omega,rfl,HI.1,HV.out.symm,fun y hy=>by simp at hy,kR,HI.2.2.2.1⟩
 obtain⟨t,f',ht,rfl,rfl,hinv,Y,b5,a6,o⟩:=hrel;have e6:=fun i hi=>hinv.bound (gu HR.2.2.2.1) hs (i:=i) hi;by_cases J:t<row.length;·(
 obtain⟨k,j9,d8⟩:=HJ.1 row[t] (eL J);obtain⟨a7,x1,u3,_,_,_,n5⟩:=ah.keep (a6.mono fun b R=>by omega) HJ.2.2.1;injection u3 with u4 _ u5;subst u4;subst u5;obtain⟨b8,o8,c8,rfl,x9,u6,rfl,_⟩:=n5 t _ (lG J);rw[j9] at u6;have k0:dH ll i k:=(HJ.2.1 k).2 (by rw[←j9];exact eL J);have u7:k≠i:=fun e=>HJ.2.2.2.1 (by rw[e] at k0;exact k0);have c1:=o.cell k;have c2:=o.cell i;have g1:=o.free k;rw[bI d8] at c1;rw[bI Z,Y] at c2;have h6:row.take (t+1)=row.take t++[(k:Int)]:=by rw[cU,lG J,j9];rfl
 have u9:=e6 k d8;by_cases k1:f' k<0;·(
 have k2:decide (0≤f' k)=false:=by simpa using k1
 have r3:mD ll s k:=by
  cases Classical.em (mD ll s k) with
  |inl h=>exact h
  |inr h=>have:=((hinv k d8).2 h).1;omega
 have b0:=J7 hinv Y b5 a6 o h6 r3;clear hinv Y b5 a6 o h6 r3 k1 n5 e6 j9 k0;generalize f' k=z at*;go_wp2_with fail;go_roundg (row.length-(t+1))
 ·refine⟨t+1,f',by omega,rfl,by go_num,b0.1,b0.2.1,fun y hy R=>?_,b0.2.2.2.1,b0.2.2.2.2.1⟩;rw[b0.2.2.2.2.2.1] at hy;rcases eD.1 hy with hy|hy;·exact b0.2.2.1 y hy R
  rw[cx.1 hy,dP] at R;exact absurd b0.2.2.2.2.2.2 R
 omega)
 have k2:decide (0≤f' k)=true:=by simp;omega
 have b7:=hinv.max Z d8 k0 (by rw[Y];exact HV.out▸HJ.2.2.2.2.2) (by omega);rw[Y] at b7;have b0:=J7 hinv Y b5 a6 o h6 b7;clear hinv Y b5 a6 o h6 b7 k1 n5 e6 j9 k0;obtain⟨z,hz⟩:=eQ (f' k);rw[←hz] at c1 u9 k2;have HZ:=oH hz;clear hz;go_wp2_with fail
 go_region
 have m3:(if z<v+1 then v+1 else z)=Max.max z (v+1):=by split<;>omega
 generalize (if z<v+1 then v+1 else z)=mx at*;have HM:=oH m3;clear m3;go_wp2;go_roundg (row.length-(t+1))
 ·obtain⟨hinv,Y,b5,a6,o,h6,b7⟩:=b0.out;have v7:=HZ.out;have v8:=HM.out;rw[←v7] at b7;refine⟨t+1,lu f' k (Max.max z (v+1)),by omega,rfl,by go_num,b7,by rw[jS u7.symm];exact Y,fun y hy R=>?_,(a6.setCell (.inl fun h=>h rfl) _).drew,?_⟩
  ·rw[h6] at hy;by_cases e9:y.toNat=k;·rw[e9,fM];omega
   rw[jS e9];rcases eD.1 hy with hy|hy;·exact b5 y hy R
   rw[cx.1 hy,dP] at e9;exact absurd rfl e9
  rw[←fZ,←v8];exact(o.set k _).drew
 omega)
 have w0:t=row.length:=by omega
 subst w0;have b0:=J5 hinv Y b5 a6 o;clear hinv Y b5 a6 o e6 J;go_wp2_with fail;go_roundg (G.length-(q+1));·obtain⟨hinv,Y,b5,a6,o⟩:=b0.out;refine⟨q+1,f',by omega,rfl,by go_num,?_,HI.2.1.trans (a6.mono fun b R=>R),HI.2.2.1.trans (a6.mono fun b R=>R),o⟩;refine(hinv.node (i:=i) (fun R m hm=>by rw[Y,HV.out];exact HJ.2.2.2.2.1 m hm) (fun _ k e R=>?_)).less fun p hp _=>HI.2.2.2.2.2.1 p hp;rw[Y];have:=b5 (k:Int) (by rw[dZ];exact(HJ.2.1 k).1 e) (by rw[dP];exact R);rw[dP] at this;exact this
 omega)
 have w4:q=G.length:=by omega
 subst w4;have HI:=J3 hinv l o;clear hinv l o k9 j3;go_wp2_with fail;go_roundg (n-(r+1))
 ·refine⟨r+1,f,by omega,rfl,by go_num,HI.1.less fun p hp _=>?_,HI.2.1,HI.2.2⟩
  rw[dZ];exact CN HG.1 p hp
 omega)
 have w8:r=n:=by omega
 subst w8;have e6:=fun i hi=>hinv.bound (gu HR.2.2.2.1) hs (i:=i) hi;have k3:=wG (n2.1▸hinv);have hk:=(H7.2.2.1.trans (l.mono fun b R=>by omega)).low;have hE:=sL (S:=fun b=>w.heap.size≤b) o (by omega) (by omega) (fun i hi=>WalkArith.wf_i64 (by have:=e6 i hi;omega));rw[k3] at hE;have HE:=J2 hk hE;clear e6 k3 hk hE hinv l o;go_wp2_with fail;go_ret;exact⟨_,rfl,HE.1,HE.2⟩
theorem He {S:Nat→Prop}{w:World}{A:Option Addr}{n c:Nat}{ll:List (List Int)}(h:Rows S w (.slice A n c) ll){i:Nat}(hi:i<ll.length):
 ∃b o l j,A=some ⟨b,o,none⟩∧S b∧w.cell? ⟨b,o+i,none⟩=some (.slice l (ll[i]).length j)∧aK S w (.slice l (ll[i]).length j) ll[i]∧(ll[i]).length≤j∧j≤maxLen:=by
 obtain⟨a,cap,J,_,_,_,h⟩:=h;injection J with R e2 e3;subst R;obtain⟨b,o,c',rfl,Y,Z,I⟩:=h i _ (lG hi);have C:=I;obtain⟨l,j,rfl,h1,h2,_⟩:=C;exact⟨b,o,l,j,rfl,Y,Z,I,h1,h2⟩
theorem FX {S:Nat→Prop}{w:World}{A:Option Addr}{n c:Nat}{l:List Int}(h:aK S w (.slice A n c) l){i:Nat}(hi:i<l.length):∃b o,A=some ⟨b,o,none⟩∧S b∧w.cell? ⟨b,o+i,none⟩=some (.int .i64 l[i]):=by obtain⟨a,cap,j,_,_,_,h⟩:=h;injection j with C R Y;subst C;obtain⟨b,o,Z,rfl,I,J,rfl,_⟩:=h i _ (lG hi);exact⟨b,o,rfl,I,J⟩
theorem zR (S T:Nat→Prop)(ll:List (List Int))(v vb:Value)(i:Nat)(w:World)(hv:Rows S w v ll)(hb:jE T w vb (dB ll))(hR:aP ll)(hi:i<ll.length):
 Calls prog 33 #[v,vb,.int .i64 i] w fun e w'=>e=.returned (.bool ((ll[i]).any fun x=>ay ll x.toNat i))∧w=w':=by
 have hl:ll.length≤256:=hR.2.1;have l:=fun x hx=>gw hR hi x hx;have a1:ll[i].length≤256:=by have:=du (hR.2.2 _ (eL hi));omega
 have Z:=hv;have J:=hb;obtain⟨A,cap,rfl,_⟩:=hv;obtain⟨Ab,cb,rfl,_⟩:=hb;rw[gU] at J⊢;obtain⟨b1,o1,A2,c2,rfl,b6,b7,I,h1,h2⟩:=He Z hi;have H:=J3 l I J;clear l I J Z hR;generalize ll[i]=row at*;go_enter func33,ntmps33;go_wp2;go_loopg [7] row.length (fun g x wr=>∃k:Nat,k≤row.length∧g=row.length-k∧x=.int .i64 k∧w=wr∧∀y∈row.take k,ay ll y.toNat i=false);·exact⟨0,by omega,by omega,rfl,rfl,by simp⟩
 obtain⟨k,hk,rfl,rfl,rfl,o⟩:=hrel;have HN:=oH o;clear o;by_cases C:k<row.length;·(
 obtain⟨b3,o3,rfl,_,a6⟩:=FX H.2.1 C;obtain⟨a7,a8⟩:=H.1 row[k] (eL C);obtain⟨j,hj⟩:∃j:Nat,row[k]=j:=⟨(row[k]).toNat,by omega⟩;have b0:j<ll.length:=by omega
 obtain⟨b4,o4,b5,o5,c5,rfl,_,h4,b8,_,h5⟩:=io H.2.2 b0 hi;have HJ:=oH hj;rw[hj] at a6;clear hj a7 a8;cases R:ay ll j i with
 |true=>rw[R] at h5;have HP:=oH R;clear R;go_wp2;go_ret;have h1:row.any (fun x=>ay ll x.toNat i)=true:=mW.2 ⟨_,eL C,by rw[HJ.out];exact HP.out⟩;exact⟨by rw[h1];rfl,rfl⟩
 |false=>
  rw[R] at h5;have HP:=oH R;clear R;go_wp2;go_roundg (row.length-(k+1))
  ·refine⟨k+1,by omega,rfl,by go_num,rfl,fun y Y=>?_⟩;rw[cU,lG C,HJ.out] at Y;rcases eD.1 Y with Y|Y;·exact HN.out y Y
   rw[show y=(j:Int) by simpa using Y];exact HP.out
  omega)
 have b2:k=row.length:=by omega
 go_wp2;go_ret;have o:=HN.out;rw[b2,dZ] at o;have h1:row.any (fun x=>ay ll x.toNat i)=false:=List.any_eq_false.2 fun x hx=>by rw[o x hx];simp
 exact⟨by rw[h1];rfl,rfl⟩
theorem Ge (S T:Nat→Prop)(ll:List (List Int))(v vb:Value)(s t:Nat)(w:World)(hv:Rows S w v ll)(hb:jE T w vb (dB ll))(hR:aP ll)(hs:s<ll.length)(hr:aQ ll s t)(c8:¬mD ll s t):
 Calls prog 34 #[v,vb,.int .i64 s,.int .i64 t] w fun e w'=>e=.returned (.int .i64 (gy ll s t))∧aa All w w':=by
 have hl:ll.length≤256:=hR.2.1;have hC:=gu hR;have ht:=gO hC hs hr;have c9:=aq.wide (T:=fun b=>b<w.heap.size) (fun b hb=>hb) (jh hv);have c0:=pt hb;obtain⟨A,cap,rfl,_⟩:=hv;obtain⟨Ab,cb,rfl,_⟩:=hb;rw[gU] at c0⊢;have HR:=J6 hR hC hr c8 c9 c0;clear hR hC hr c8 c9 c0;have d7:=wX ll.length (by omega) w;have b8:(w.alloc (.cells (aN ll.length fun _=>0) 3)).cell? ⟨w.heap.size,s,none⟩=some (.int .i64 0):=by rw[(al.new _ _ _).cell,bI hs]
 have b9:(w.alloc (.cells (aN ll.length fun _=>0) 3)).frozen? ⟨w.heap.size,s,none⟩=false:=(al.new _ _ _).free s;have d8:al (w.alloc (.cells ((aN ll.length fun _=>0).setIfInBounds s (.int .i64 1)) 3)) w.heap.size 3 (aN ll.length (lu (fun _=>0) s 1)):=by rw[fZ];exact al.new _ _ _
 have d9:aa All w (w.alloc (.cells ((aN ll.length fun _=>0).setIfInBounds s (.int .i64 1)) 3)):=(aa.refl _ w).alloc _;have H0:=J2 d8 d9;clear d8 d9;go_enter func34,ntmps34;go_wp2_with fail;obtain⟨B,hB⟩:=eQ w.heap.size;rw[←hB] at H0 b8 b9 d7⊢;have HB:=oH hB;clear hB;generalize w.alloc (.cells ((aN ll.length fun _=>0).setIfInBounds s (.int .i64 1)) 3)=wz at*;clear b8 b9 d7;have HG:=J2 (lz.start (s:=s) HR.2.2.1) (rS.start (ll:=ll) (s:=s) (t:=t));go_loopg [10] ll.length (fun gg x wr=>∃(r:Nat) (n:Nat→Int),r≤ll.length∧gg=ll.length-r∧x=.int .i64 r∧lz ll s t n∧rS ll s t r n∧aa (fun b=>b<B) w wr∧al wr B 3 (aN ll.length n));·exact⟨0,_,by omega,by omega,rfl,HG.1,HG.2,H0.2.all,H0.1⟩
 clear HG;obtain⟨r,n0,hr,rfl,rfl,l,b2,o,I⟩:=hrel;have HD:=J4 l b2 o I;clear l b2 o I;by_cases h6:r<ll.length;·(
 go_wp2_with fail;go_loopg [11] ll.length (fun gg x wr=>∃(i:Nat) (n:Nat→Int),i≤ll.length∧gg=ll.length-i∧x=.int .i64 i∧lz ll s t n∧mw ll t n0 n i 0∧aa (fun b=>b<B) w wr∧al wr B 3 (aN ll.length n));·exact⟨0,n0,by omega,by omega,rfl,HD.1,.start,HD.2.2.1,HD.2.2.2⟩
 obtain⟨i,n,hi,rfl,rfl,l,C,o,I⟩:=hrel;have HE:=J4 l C o I;clear l C o I;by_cases a1:i<ll.length;·(
 have b6:=lG a1;have a8:=lg HR.1 a1;have c1:ll[i].length≤256:=by have:=du (HR.1.2.2 _ (eL a1));omega
 have HW:=J2 b6 a8;clear b6 a8;obtain⟨row,b7⟩:=eQ (ll[i]);rw[←b7] at HW c1;have e4:=oH b7;clear b7;go_wp2_with fail;go_loopg [12] row.length (fun gg x wr=>∃(k:Nat) (n:Nat→Int),k≤row.length∧gg=row.length-k∧x=.int .i64 k∧lz ll s t n∧mw ll t n0 n i k∧aa (fun b=>b<B) w wr∧al wr B 3 (aN ll.length n));·exact⟨0,n,by omega,by omega,rfl,HE.1,HE.2.1,HE.2.2.1,HE.2.2.2⟩
 clear HE;obtain⟨k,n,hk,rfl,rfl,l,C,o,I⟩:=hrel;have R:=aq.keep (o.mono fun b hb=>by have:=HB.out;omega) HR.2.2.2.2.1;have b0:=er.keep (o.mono fun b hb=>by have:=HB.out;omega) HR.2.2.2.2.2;obtain⟨b1,o1,A2,c2,rfl,h7,e5,J,h1,h2⟩:=He R a1;rw[←e4.out] at e5 J h1;have c3:=I.cell i;rw[bI a1] at c3;have e0:=l.bound HR.2.1 hs HR.2.2.2.1 a1;by_cases c4:k<row.length;·(
 by_cases Y:0<n i;·(
 have a6:decide (0<n i)=true:=by simpa using Y
 obtain⟨b3,o3,rfl,h8,e6⟩:=FX J c4;obtain⟨j,hj,c6⟩:=HW.2 row[k] (eL c4);rw[hj] at e6;have a7:row[k]? =some (j:Int):=by rw[lG c4,hj]
 obtain⟨b4,o4,b5,o5,c5,rfl,_,h4,h9,_,h5⟩:=io b0 c6 ht;have e1:=I.cell j;have i0:=I.free j;rw[bI c6] at e1;have e7:=l.bound HR.2.1 hs HR.2.2.2.1 c6;have Z:dH ll i j:=⟨row,HW.1,mG a7⟩;obtain⟨y,hy⟩:=eQ (n i);obtain⟨z,hz⟩:=eQ (n j);rw[←hy] at c3 e0 Y a6;rw[←hz] at e1 e7;have HI:=J8 l C o I Z a7 hy hz;clear l C o I Z a7 hy hz R b0 J hj;cases hp:ay ll j t with
 |false=>
  rw[hp] at h5;have HP:=oH hp;clear hp;go_wp2_with fail;go_quiet (fail);go_wp2;go_roundg (row.length-(k+1))
  ·refine⟨k+1,n,by omega,rfl,by go_num,HI.1,?_,HI.2.2.1.drewN _,HI.2.2.2.1⟩
   exact HI.2.1.more HW.1 HI.2.2.2.2.2.1 (fun x=>Int.le_refl _) fun hx=>by rw[aY.2 hx] at HP;cases HP.out
  omega
 |true=>
  rw[hp] at h5;have HP:=oH (aY.1 hp);clear hp;by_cases c7:z<y+1;·(
 have e2:decide (z<y+1)=true:=by simpa using c7
 go_wp2_with fail;go_quiet (fail);go_wp2;go_roundg (row.length-(k+1));·(
 obtain⟨l,C,o,I,Z,a7,hy,hz⟩:=HI.out;subst hy;subst hz;refine⟨k+1,lu n j (n i+1),by omega,rfl,by go_num,l.upd a1 Z HP.out Y c7,?_,(o.drewN _).setCell (.inl fun h=>Nat.lt_irrefl _ h) _,?_⟩
 ·refine C.more HW.1 a7 (fun x=>?_) fun _ h=>?_
  ·by_cases e:x=j;·subst e;rw[fM];omega
   rw[jS e];exact Int.le_refl _
  rw[fM];have:=C.1 i;omega
 rw[←fZ];exact(show al (wr.drewN nq) B 3 (aN ll.length n) from I).set j _)
 omega)
  have e2:decide (z<y+1)=false:=by simpa using c7
  go_wp2_with fail;go_quiet (fail);go_wp2;go_roundg (row.length-(k+1));·obtain⟨l,C,o,I,Z,a7,hy,hz⟩:=HI.out;subst hy;subst hz;refine⟨k+1,n,by omega,rfl,by go_num,l,?_,o.drewN _,I⟩;exact C.more HW.1 a7 (fun x=>Int.le_refl _) fun _ h=>by have:=C.1 i;omega
  omega)
 have a6:decide (0<n i)=false:=by simpa using Y
 have e3:=C.next HW.1 (.inr (by omega));have HI:=J4 l e3 o I;clear l C o I R b0 J Y e3;obtain⟨y,hy⟩:=eQ (n i);rw[←hy] at c3 e0 a6;clear hy;go_wp2_with fail;go_roundg (ll.length-(i+1));·exact⟨i+1,n,by omega,rfl,by go_num,HI.1,HI.2.1,HI.2.2.1,HI.2.2.2⟩
 omega)
 have e8:row.length≤k:=by omega
 have HI:=J4 l C o I;clear l C o I R b0 J;generalize n i=y at*;go_wp2_with fail;go_roundg (ll.length-(i+1));·exact⟨i+1,n,by omega,rfl,by go_num,HI.1,HI.2.1.next HW.1 (.inl e8),HI.2.2.1,HI.2.2.2⟩
 omega)
 have e9:i=ll.length:=by omega
 subst e9;go_wp2_with fail;go_roundg (ll.length-(r+1));·exact⟨r+1,n,by omega,rfl,by go_num,HE.1,HE.2.1.done HD.1 HD.2.1,HE.2.2.1,HE.2.2.2⟩
 omega)
 have h0:r=ll.length:=by omega
 subst h0;have h3:=HD.2.2.2.cell t;rw[bI ht,AA HR.2.1 hs HR.2.2.2.1 HR.2.2.1 HD.1 HD.2.1] at h3;go_wp2_with fail;go_ret;exact⟨rfl,(HB.out▸HD.2.2.1).low⟩
theorem EV {ll:List (List Int)}{s i k:Nat}(j:k<ll.length)(b:Bool)(l:b=(ll[k]).any fun x=>ay ll x.toNat k):pq ll s i (k+1)=(pq ll s i k||(ay ll s k&&ay ll k i&&b)):=by rw[qo];unfold kS;rw[lG j,l];congr 1;show(ay ll s k&&_&&ay ll k i)=_;rw[Bool.and_assoc,Bool.and_comm (List.any _ _),←Bool.and_assoc];rfl
theorem CR {ll:List (List Int)}{s i:Nat}(h:ay ll s i=false):gy ll s i=0:=by
 have j:¬aQ ll s i:=fun x=>by rw[aY.2 x] at h;cases h
 exact nh ⟨fun x=>absurd x.reach j,fun _=>rfl,fun x=>absurd x j⟩
theorem CQ {ll:List (List Int)}{s i:Nat}(h:mD ll s i):gy ll s i= -1:=
 nh ⟨fun _=>rfl,fun x=>absurd h.reach x,fun _ x=>absurd h x⟩
theorem FC {ll:List (List Int)}(j:aP ll){s i:Nat}(o:s<ll.length):(Lit.int .i64 (gy ll s i)).wf=true:=by
 have h:=yg (FB (gu j) o i);have I:=j.2.1;apply WalkArith.wf_i64;by_cases l:mD ll s i;·rw[h.1 l];decide
 by_cases C:aQ ll s i
 ·obtain⟨m,he,hm,_⟩:=h.2.2 C l
  have:=tS (gu j) o hm l;omega
 rw[h.2.1 C];decide
theorem wH (ll:List (List Int))(s i:Nat):(List.range (i+1)).map (gy ll s)=(List.range i).map (gy ll s)++[gy ll s i]:=by rw[List.range_succ,ic];rfl
theorem tC (S:Nat→Prop)(v:Value)(ll:List (List Int))(s:Nat)(w:World)(hv:Rows S w v ll)(hR:aP ll)(hs:s<ll.length):
 Calls prog 19 #[v,.int .i64 s] w fun e w'=>∃u,e=.returned u∧aa All w w'∧aK (fun b=>w.heap.size≤b) w' u (cZ ll s):=by
 have hl:ll.length≤256:=hR.2.1;have J:=fun w1 (hk:aa All w w1)=>pV S v ll w1 (aq.keep hk.all hv);rw[bL hR] at J;have Y:=fun w1 (hk:aa All w w1)=>tD S v ll w1 (aq.keep hk.all hv) hR;have c1:=jh hv;obtain⟨A,cap,rfl,h1,h2,e2,h⟩:=hv;obtain⟨i3,c2,c3,c4,c7⟩:=info_parts yw;have I3:=J4 c2 c3 c4 c7;have HR:=J4 J Y hR c1;clear h h1 h2 e2 J Y hR c1 c2 c3 c4 c7;have h0:decide ((s:Int)<0)=false:=by simp
 have h3:decide ((ll.length:Int)≤s)=false:=by simp;omega
 go_enter func19,ntmps19;go_wp2_with fail;refine(HR.1 _ kR).mono ?_;rintro e w1 ⟨rfl,c9⟩;have HK:=oH c9;clear c9;go_wp2_with fail;refine(HR.2.1 _ HK.out).mono ?_;rintro e w2 ⟨vb,rfl,b0,d7⟩;have Z:=aq.keep (HK.out.trans b0).all HR.2.2.2;have i0:=(HK.out.trans b0).size;have b3:=HK.out.trans b0;have a6:=d7;obtain⟨Ab,cb,rfl,_⟩:=d7;rw[gU] at a6⊢;have HB:=J3 b3 Z (pt a6);clear b0 a6 b3 Z;go_wp2_with fail;go_loopg [6,7] ll.length (fun gg o x wr=>∃i:Nat,i≤ll.length∧gg=ll.length-i∧x=.int .i64 i∧aa All w2 wr∧wr.ownsRow w2.heap.size 3 1 o i (aI ((List.range i).map (gy ll s))));·exact⟨0,by omega,by omega,rfl,kR,by simp[aI],.inl ⟨rfl,rfl⟩⟩
 obtain⟨i,hi,rfl,rfl,C,I⟩:=hrel;have R:=aq.keep C.all HB.2.1;have a1:=er.keep C.all (er.wide (fun _ _=>trivial) HB.2.2);by_cases d8:i<ll.length;·(
 obtain⟨b4,o4,b5,o5,c5,rfl,_,h4,i1,_,h5⟩:=io a1 hs d8;have HQ:=J4 C I R a1;clear C I R a1;obtain⟨wo,rfl⟩:=eQ wr;go_upto_if 37 with fail;go_cut [8,9] from 37 to 72 (fun n kk wx=>n=.int .i64 (gy ll s i)∧aa All wo wx)
 case first=>(
 cases hp:ay ll s i with
 |false=>rw[hp] at h5;have HP:=oH hp;clear hp;go_wp2_with fail;go_meet;exact⟨by rw[CR HP.out],kR⟩
 |true=>
  rw[hp] at h5;have HP:=oH hp;clear hp;go_wp2_with fail;go_loopg [8,9] ll.length (fun gg n x wr=>∃k:Nat,k≤ll.length∧gg=ll.length-k∧x=.int .i64 k∧n=.int .i64 (if pq ll s i k then-1 else 0)∧wo=wr);·exact⟨0,by omega,by omega,rfl,rfl,rfl⟩
  obtain⟨k,hk,rfl,rfl,rfl,rfl⟩:=hrel;by_cases b1:k<ll.length;·(
 obtain⟨e3,e4,b6,o6,c6,b7,_,h6,i2,_,h7⟩:=io HQ.2.2.2 hs b1;cases b7;rw[h4] at h6;cases h6;obtain⟨e3,e4,b8,o8,c8,b7,_,h8,i4,_,h9⟩:=io HQ.2.2.2 b1 d8;cases b7;have a7:=zR _ _ ll _ _ k wo HQ.2.2.1 HQ.2.2.2 HR.2.2.1 b1;have d9:=EV (s:=s) (i:=i) b1 _ rfl;generalize (ll[k]).any (fun x=>ay ll x.toNat k)=q at*;have HC:=J2 a7 d9;clear a7 d9;generalize ay ll s k=p1 at*;generalize ay ll k i=p2 at*;obtain⟨z,hz⟩:=eQ (if pq ll s i k then(-1:Int) else 0);rw[←hz];have HZ:=oH hz;clear hz;cases p1 with
 |false=>
  go_wp2_with fail;go_roundg (ll.length-(k+1));·exact⟨k+1,by omega,rfl,by go_num,by rw[HC.2,HZ.out];simp,rfl⟩
  omega
 |true=>
  cases p2 with
  |false=>
   go_wp2_with fail;go_roundg (ll.length-(k+1));·exact⟨k+1,by omega,rfl,by go_num,by rw[HC.2,HZ.out];simp,rfl⟩
   omega
  |true=>
   cases q with
   |false=>
    go_wp2_with (go_at_call 33;refine HC.1.mono ?_;rintro e w' ⟨rfl,rfl⟩);go_roundg (ll.length-(k+1));·exact⟨k+1,by omega,rfl,by go_num,by rw[HC.2,HZ.out];simp,rfl⟩
    omega
   |true=>
    go_wp2_with (go_at_call 33;refine HC.1.mono ?_;rintro e w' ⟨rfl,rfl⟩);go_roundg (ll.length-(k+1));·exact⟨k+1,by omega,rfl,by go_num,by rw[HC.2];simp,rfl⟩
    omega)
  have e5:k=ll.length:=by omega
  subst e5;have b2:=se (s:=s) (i:=i) (qF HR.2.2.1);cases hb:pq ll s i ll.length with
  |true=>have HE:=oH (CQ (b2.1 hb));clear b2 hb;go_wp2_with fail;go_meet;exact⟨by rw[HE.out],kR⟩
  |false=>
   have e0:¬mD ll s i:=fun h=>by rw[b2.2 h] at hb;cases hb
   have a8:=Ge _ _ ll _ _ s i wo HQ.2.2.1 HQ.2.2.2 HR.2.2.1 hs (aY.1 HP.out) e0;have HE:=oH a8;clear b2 hb e0 a8;go_wp2_with (go_at_call 34;refine HE.out.mono ?_;rintro e w' ⟨rfl,e6⟩);go_meet;exact⟨rfl,e6⟩)
 obtain⟨rfl,e1⟩:=hcut;have C:=HQ.1.trans e1;have hB:=C.size;have I:=be HQ.2.1 e1 (fun _ _=>trivial);have b9:(wc.alloc (.cells #[.int .i64 (gy ll s i)] 3)).ownsRow w2.heap.size 3 1 u6 i (aI ((List.range i).map (gy ll s))):=be I ((aa.refl All wc).alloc _) (fun _ _=>trivial);have HT:=J2 C I;clear C I;go_wp2_with (
  at_builtin;refine aR _ rfl (.tmp 73) (.tmp 75) 50 rfl w2.heap.size 3 i3 _ 1 8 underlying50 I3.1 I3.2.1 I3.2.2.1 I3.2.2.2 rfl (by decide) _ _ _ rfl b9 (some ⟨wc.heap.size,0,none⟩) 1 1 [.int .i64 (gy ll s i)] rfl rfl ?_ ?_ (by unfold maxLen;omega) (by omega) (by simp;omega) ?_;·intro _;exact⟨_,_,rfl,fun j u hu=>by rw[cN,al.cell (al.new _ _ _)];simpa using hu⟩
  ·intro u hu
   rw[cx.1 hu];rfl
  intro v2 w4 c0 e7 e9)
 go_roundg (ll.length-(i+1))
 ·refine⟨i+1,by omega,rfl,by go_num,(HT.1.alloc _).grown e7 fun g hg=>.inr (aD HT.2 hg).1,?_⟩
  rw[wH];simpa [aI] using c0
 omega)
 have e8:i=ll.length:=by omega
 subst e8;have HQ:=J2 C I;clear C I R a1;go_wp2_with fail;go_ret;exact⟨_,rfl,HB.1.trans HQ.1,jr (l:=(List.range ll.length).map (gy ll s)) HQ.2 (by simp) (by simp;omega) (fun g hg=>by have:=(aD HQ.2 hg).1;show w.heap.size≤g;omega) (fun x hx=>by obtain⟨j,_,rfl⟩:=dr.1 hx;exact FC HR.2.2.1 hs)⟩
end Go.Proofs.YtceloincoomjeaaGreatDoor
