/- Part 48 of the proof of CallsShallow (its last part says what is proved). No condition. -/
import Derived.Test.YtncdbjponknakaaGreatDoorK36
namespace Go.Proofs.YtncdbjponknakaaGreatDoor
set_option maxRecDepth 100000
set_option maxHeartbeats 8000000
open Go.RowKit Go.Proofs.Tryz
theorem rf {N B g:Nat}{w:World}{F:Nat→Value}{R:Nat→List Int}(h:ii N B g w F R)(Z:N≤256)(J:∀k,k<N→(R k).length≤1000)(hw:∀k,k<N→∀x∈R k,(Lit.int .i64 x).wf=true):
 Rows (fun b=>g≤b) w (.slice (some ⟨g,0,none⟩) N N) ((List.range N).map R):=by
 have j:((List.range N).map R).length=N:=by simp
 have hg:=h.low;have:=Sl.of_blk (bw:=24) (E:=Sl 8 rQ) (S:=fun b=>g≤b) (l:=(List.range N).map R) (cap:=N) h.tab (cf g) (by rw[j];omega) (by unfold maxLen;omega) (by rw[j];omega) (fun i x o=>by
  have hi:i<N:=by(
 rcases Nat.lt_or_ge i N with h|h;·exact h
 rw[jz (by rw[j];omega)] at o;cases o)
  rw[cL,ln hi] at o;cases o;refine⟨F i,cq hi,?_⟩;have C:=h.own i hi;exact jr C rfl (by have:=J i hi;omega) (fun k Y=>by have:=(aD C Y).1;omega) (hw i hi))
 rwa [j] at this
theorem re {N B g:Nat}{w l:World}{F:Nat→Value}{R:Nat→List Int}(h:ii N B g w F R)(o:aa All w l):ii N B g l F R:=by obtain⟨C,J,Y,Z⟩:=h;exact⟨C.kept o trivial,J,fun k j=>be (Y k j) o fun _ _=>trivial,Z⟩
theorem pS {N B g:Nat}{w:World}{F:Nat→Value}{R R':Nat→List Int}(h:ii N B g w F R)(e:∀k,R' k=R k):ii N B g w F R':=by rw[show R'=R from funext e];exact h
def dq (c:aE)(i m:Nat)(l:List bz)(k:Nat):List Int:=if k<i then(cG c).getD k [] else if k=i then dL l m else []
theorem zh (c:aE)(i:Nat)(l:List bz):dq c i 0 l=dq c i 0 []:=rfl
theorem rl {c:aE}{i:Nat}{b:aw}(h:c.Nf[i]? =some b):dq c i c.Nf.length b.Ng.flatten=dq c (i+1) 0 []:=by
 funext k;unfold dq;by_cases j:k<i;·rw[ap j,ap (by omega)]
 rw[ae j];by_cases l:k=i
 ·subst l
  rw[ap rfl,ap (by omega),iG,qp h];rfl
 rw[ae l,ae (by omega)];split<;>rfl
theorem dh (c:aE)(i m:Nat)(l:List bz):dq c i m l i=dL l m:=by unfold dq;rw[ae (Nat.lt_irrefl _),ap rfl]
theorem nV {c:aE}{i m j:Nat}{l:List bz}{k:Nat}(h:k≠i):dq c i m l k=dq c i j l k:=by unfold dq;rw[ae h,ae h]
theorem tI (c:aE):(List.range c.Nf.length).map (dq c c.Nf.length 0 [])=cG c:=by
 apply List.ext_getElem?;intro k;by_cases h:k<c.Nf.length
 ·rw[cL,ln h,Option.map_some]
  unfold dq;rw[ap h,iG,lG (by rw[dT];exact h)];rfl
 rw[jz (by simp;omega),jz (by rw[dT];omega)]
theorem tL {c:aE}{i k:Nat}{x:Int}(h:x∈dq c i 0 [] k):∃a:Nat,x=a∧a<c.Nf.length:=by
 unfold dq at h;split at h
 ·rename_i l;by_cases j:k<c.Nf.length
  ·rw[iG,qp (lG j)] at h
   exact qR h
  rw[iG,jz (by rw[dT];omega)] at h;cases h
 split at h<;>cases h
theorem tJ (c:aE)(i k:Nat):(dq c i 0 [] k).length≤c.Nf.length:=by
 unfold dq;split
 ·by_cases j:k<c.Nf.length
  ·rw[iG,qp (lG j)]
   exact mZ _ _
  rw[iG,jz (by rw[dT];omega)];exact Nat.zero_le _
 split;·exact Nat.zero_le _
 exact Nat.zero_le _
def zL (p:aH)(c:aE)(w:World)(e:Ending)(w':World):Prop:=
 ((bJ p c∧jH c)∧∃u,e=.returned (.tuple #[u,.int .i64 0])∧aa All w w'∧Rows (fun b=>w.heap.size≤b) w' u (cG c))∨(¬(bJ p c∧jH c)∧e=.returned (.tuple #[.slice none 0 0,.int .i64 1])∧aa All w w')
theorem qT (S:Nat→Prop)(pv cv:Value)(p:aH)(c:aE)(w:World)(hp:dJ S w pv p)(hc:cQ S w cv c)(hl:gz w)(hS:∀b,S b→b<w.heap.size)(h0:kj p)(h1:lY c)(hN:eM p c↔bJ p c):
 Calls prog 8 #[pv,cv] w (zL p c w):=by
 obtain⟨i3,h2,h3,h4,h5⟩:=info_parts kt;have I3:=J4 h2 h3 h4 h5;clear h2 h3 h4 h5;have h6:=cB.la hp;have h8:=dc.la hc;obtain⟨n7,vu,vi,vo,rfl,k3,k4,k5,k6,k7⟩:=hp;obtain⟨a1,n1,rfl,_⟩:=k3;obtain⟨a2,n2,rfl,_⟩:=k4;obtain⟨a3,n3,rfl,_⟩:=k5;obtain⟨a4,n4,rfl,_⟩:=k6;obtain⟨ka,kf,rfl,k8,h9,k9⟩:=hc;have i0:=bV.la h9;obtain⟨A1,c1,rfl,m1,m2,m3,_⟩:=k8;obtain⟨A2,c2,rfl,m4,m5,m6,_⟩:=h9;unfold maxLen at m2 m5;obtain⟨W0,c7⟩:=eQ ((w.alloc (.cells #[.slice a1 p.MZ.length n1,.slice a2 p.up.length n2,.slice a3 p.Nb.length n3,.slice a4 p.Na.length n4,.int .i64 p.Nc] 26)).alloc (.cells #[.slice A1 c.Nd.length c1,.slice A2 c.Nf.length c2,.int .i64 c.main] 30));have c4:aa All w W0:=by rw[c7];exact(kR.alloc _).alloc _
 have bP:al W0 w.heap.size 26 #[.slice a1 p.MZ.length n1,.slice a2 p.up.length n2,.slice a3 p.Nb.length n3,.slice a4 p.Na.length n4,.int .i64 p.Nc]:=by rw[c7];exact(al.new _ _ _).alloc _
 have bK:al W0 (w.heap.size+1) 30 #[.slice A1 c.Nd.length c1,.slice A2 c.Nf.length c2,.int .i64 c.main]:=by rw[c7];exact ac (by simp)
 obtain⟨p0,p1,p2,p3,p4⟩:=bP.c5;obtain⟨k0,k1,k2⟩:=bK.c3;have HR:=oH (Bq S _ _ p c W0 (h6 W0 c4) (h8 W0 c4) (hl.keep c4) (fun b hb=>by have:=hS b hb;have:=c4.size;omega) h0 h1 hN);have HW:=J5 c7 c4 bP bK i0;have HS:=oH hS;clear c7 c4 bP bK h6 h8 i0 k7 k9 hN hl hS h0 h1;go_enter func8,ntmps8;go_upto_region 1 with fail;rw[←HW.1];go_wp2_with fail;refine HR.out.mono ?_;rintro e w1 ⟨rfl,e7⟩;have a6:=J2 (HW.2.1.trans e7) e7;clear e7 p0 p1 p2 p3 p4 k0 k1 k2;by_cases b4:bJ p c∧jH c
 case neg=>(rw[au b4];have HN:=oH b4;clear b4;go_wp2_with fail;exact bodyPost_ret (v:=.tuple #[.slice none 0 0,.int .i64 1]) (by simp[results,Tryz.f8,go_sem]) rfl (.inr ⟨HN.out,rfl,a6.1⟩))
 rw[av b4];have n8:=b4.1.2.2.1;have l4:=fun w=>OE c.Nf.length (by omega) w;have l5:=fun w=>iy c.Nf.length (by omega) w;have i1:=oH b4;clear b4;have J:=HW.2.2.2.1.kept a6.2 trivial;obtain⟨k0,k1,k2⟩:=J.c3;clear J;have J:=HW.2.2.2.1.kept (a6.2.trans ((aa.refl _ w1).alloc (.cells (dM c.Nf.length fun _=>.slice none 0 0) 45))) trivial;obtain⟨l0,l1,l2⟩:=J.c3;clear J;go_wp2_with fail;clear l0 l1 l2;go_loopg [26] c.Nf.length (fun gg s wr=>∃(i:Nat) (F:Nat→Value),i≤c.Nf.length∧gg=c.Nf.length-i∧s=.int .i64 i∧aa All w1 wr∧w1.heap.size<wr.heap.size∧ii c.Nf.length (w1.heap.size+1) w1.heap.size wr F (dq c i 0 []))
 case atStart=>
  refine⟨0,fun _=>.slice none 0 0,by omega,by omega,rfl,kR.alloc _,by simp,al.new _ _ _,by omega,fun k hk=>?_,fun k k' b _ _ _ h=>by cases h⟩;have e:dq c 0 0 [] k=[]:=by unfold dq;rw[ae (by omega)];split<;>rfl
  rw[e];exact⟨rfl,.inl ⟨rfl,rfl⟩⟩
 clear l4;obtain⟨i,F,hi,rfl,rfl,o,e1,C⟩:=hrel;clear k0 k1 k2;have J:=HW.2.2.2.1.kept (a6.2.trans o) trivial;obtain⟨k0,k1,k2⟩:=J.c3;clear J;by_cases b6:i<c.Nf.length;·(
 obtain⟨b,hb⟩:=eG b6;obtain⟨gb,go,n9,rfl,_,_,e2,bv,rfl,i2,_,_⟩:=aZ (HW.2.2.2.2 wr (a6.1.trans o)) hb;have e5:=bg.la i2;have i4:=mG hb;have i5:=i1.1.2.2.2.2.2.2.2.1 b i4;obtain⟨B1,d1,rfl,q1,q2,q3,_⟩:=i2;unfold maxLen at q2;have z0:=e2 0 _ rfl;rw[dj] at z0;have z1:=e2 1 _ rfl;have z2:=e2 2 _ rfl;have J:=HW.2.2.2.1.kept ((a6.2.trans o).trans ((aa.refl _ wr).alloc (.cells #[.int .i64 b.params,.int .i64 b.vars,.slice B1 b.Ng.length d1] 43))) trivial;obtain⟨l0,l1,l2⟩:=J.c3;clear J;obtain⟨W5,c8⟩:=eQ ((wr.alloc (.cells #[.int .i64 b.params,.int .i64 b.vars,.slice B1 b.Ng.length d1] 43)).alloc (.cells (az c.Nf.length fun _=>false) 4));have i6:aa All wr W5:=by rw[c8];exact(kR.alloc _).alloc _
 have b5:al W5 wr.heap.size 43 #[.int .i64 b.params,.int .i64 b.vars,.slice B1 b.Ng.length d1]:=by rw[c8];exact(al.new _ _ _).alloc _
 have g5:al W5 (wr.heap.size+1) 4 (az c.Nf.length (ie (fe b.Ng 0 0))):=by rw[c8];exact ac (by simp)
 obtain⟨b0,b1,b2⟩:=b5.c3;have m9:=b5.lt;have n0:=g5.lt;have l6:=oH (show w1.heap.size<wr.heap.size from e1);have HB:=J9 hb i5 e5 c8 i6 b5 g5 o C;clear hb i5 e5 c8 i6 b5 g5 o C e2 i4;obtain⟨wo,rfl⟩:=eQ wr;go_upto_region 8 with fail;rw[←HB.2.2.2.1];clear z0 z1 z2 k0 k1 k2 l0 l1 l2 l5;go_wp2_with fail;go_loopg [38] b.Ng.length (fun gg s wr=>∃k:Nat,k≤b.Ng.length∧gg=b.Ng.length-k∧s=.int .i64 k∧aa (fun q=>q≠wo.heap.size+1) W5 wr∧al wr (wo.heap.size+1) 4 (az c.Nf.length (ie (fe b.Ng k 0))));·exact⟨0,by omega,by omega,rfl,kR,HB.2.2.2.2.2.2.1⟩
 clear b0 b1 b2;obtain⟨k,hk,rfl,rfl,o,Z⟩:=hrel;have b3:aa All wo wr:=am (HB.2.2.2.2.1.all.trans (o.mono fun q (hq:q<wo.heap.size)=>by show q≠_;omega));by_cases c9:k<b.Ng.length;·(
 obtain⟨l,hl⟩:=eG c9;obtain⟨rb,ro,rv,rfl,l7,l8,i7⟩:=bn (HB.2.2.1 wr b3) hl;have j0:=cT.la i7;obtain⟨LA,lc,rfl,l1,l2,l3,_⟩:=i7;unfold maxLen at l2;have j1:=mG hl;have HA:=J6 hl j0 o Z b3 j1;clear hl j0 l7 o Z b3 j1;obtain⟨wq,rfl⟩:=eQ wr;go_wp2_with fail;go_loopg [44] l.length (fun gg s wr=>∃m:Nat,m≤l.length∧gg=l.length-m∧s=.int .i64 m∧aa (fun q=>q≠wo.heap.size+1) wq wr∧al wr (wo.heap.size+1) 4 (az c.Nf.length (ie (fe b.Ng k m))));·exact⟨0,by omega,by omega,rfl,kR,HA.2.2.2.1⟩
 clear l8;obtain⟨m,hm,rfl,rfl,o,Z⟩:=hrel;have c5:aa (fun q=>q≠wo.heap.size+1) W5 wr:=HA.2.2.1.trans o;have o0:=c5.size;have b3:aa All wo wr:=am (HB.2.2.2.2.1.all.trans (c5.mono fun q (hq:q<wo.heap.size)=>by show q≠_;omega));have j2:aa All wo wq:=HA.2.2.2.2.1;by_cases j3:m<l.length;·(
 obtain⟨x,hx⟩:=eG j3;obtain⟨xb,xo,o1,rfl,j4,j5,a7,xa,xf,rfl,l9,m0,m7⟩:=aZ (HA.2.1 wq kR) hx;obtain⟨ua,uc,rfl,_⟩:=l9;obtain⟨va,vc,rfl,_⟩:=m0;have a8:xb≠wo.heap.size+1:=fun e=>by have:=HS.out xb j4;have:=a6.1.size;omega
 have x0:=o.cell (p:=⟨xb,xo+m*9,none⟩) a8 (by have:=a7 0 _ rfl;rw[dj] at this;exact this);have x1:=o.cell (p:=⟨xb,xo+m*9+1,none⟩) a8 (by have:=a7 1 _ rfl;exact this);have x2:=o.cell (p:=⟨xb,xo+m*9+2,none⟩) a8 (by have:=a7 2 _ rfl;exact this);have x3:=o.cell (p:=⟨xb,xo+m*9+3,none⟩) a8 (by have:=a7 3 _ rfl;exact this);have x4:=o.cell (p:=⟨xb,xo+m*9+4,none⟩) a8 (by have:=a7 4 _ rfl;exact this);have x5:=o.cell (p:=⟨xb,xo+m*9+5,none⟩) a8 (by have:=a7 5 _ rfl;exact this);have x6:=o.cell (p:=⟨xb,xo+m*9+6,none⟩) a8 (by have:=a7 6 _ rfl;exact this);have x7:=o.cell (p:=⟨xb,xo+m*9+7,none⟩) a8 (by have:=a7 7 _ rfl;exact this);have x8:=o.cell (p:=⟨xb,xo+m*9+8,none⟩) a8 (by have:=a7 8 _ rfl;exact this);have R:=mt HA.1 hx;have j6:=fun h7=>Fj HB.2.1 HA.2.2.2.2.2 (mG hx) h7;have HX:=J6 c5 Z R j6 o b3;clear o c5 b3 j2 Z R j6 hx j4 a8 a7 j5 m7;obtain⟨wv,rfl⟩:=eQ wr;by_cases h7:x.kind=7;·(
 have t:(x.kind==7)=true:=by rw[cy];exact h7
 obtain⟨y0,y1⟩:=HX.2.2.2.1 h7;obtain⟨q,hq⟩:∃q:Nat,x.ref=q:=⟨x.ref.toNat,by omega⟩;have m8:q<c.Nf.length:=by omega
 have e6:(az c.Nf.length (ie (fe b.Ng k m))).setIfInBounds q (.bool true)=az c.Nf.length (ie (fe b.Ng k (m+1))):=by rw[HX.2.2.1];exact dg (uK h7 hq) fun j _ hj=>Iy hq hj
 have Y:=(HX.2.1.alloc (.cells #[.int .u8 x.kind,.int .u8 x.op,.int .i64 x.dst,.int .i64 (q:Int),.int .i64 x.Ni,.slice ua x.args.length uc,.slice va x.Nh.length vc,.int .i64 x.num,.int .i64 x.Nj] 47)).cell q;rw[bj m8] at Y;have e8:=(HX.2.1.alloc (.cells #[.int .u8 x.kind,.int .u8 x.op,.int .i64 x.dst,.int .i64 (q:Int),.int .i64 x.Ni,.slice ua x.args.length uc,.slice va x.Nh.length vc,.int .i64 x.num,.int .i64 x.Nj] 47)).free q;have HQ:=J2 e6 h7;rw[hq] at x3;clear e6 h7 y0 y1;go_wp2_with fail;go_roundg (l.length-(m+1))
 ·refine⟨m+1,by omega,rfl,by go_num,?_,?_⟩
  ·exact(HX.2.2.2.2.1.alloc _).setCell (p:=⟨wo.heap.size+1,q,none⟩) (.inl fun h=>h rfl) _
  rw[←HQ.1];exact(HX.2.1.alloc _).set _ _
 omega)
 have t:(x.kind==7)=false:=by rw[bE];exact h7
 have H7:=oH h7;clear h7;go_wp2_with fail;go_roundg (l.length-(m+1))
 ·refine⟨m+1,by omega,rfl,by go_num,?_,?_⟩
  ·exact HX.2.2.2.2.1.alloc _
  rw[HX.2.2.1,xR H7.out];exact HX.2.1.alloc _
 omega)
 obtain rfl:m=l.length:=by omega
 rw[qK HA.1] at Z;have HG:=J2 c5 Z;clear o c5 b3 j2 Z;go_wp2_with fail;go_roundg (b.Ng.length-(k+1));·exact⟨k+1,by omega,rfl,by go_num,HG.out⟩
 omega)
 obtain rfl:k=b.Ng.length:=by omega
 rw[qJ] at Z;have HG:=J3 o Z b3;clear o Z b3;have J:=HW.2.2.2.1.kept (a6.2.trans (HB.2.2.2.2.2.2.2.1.trans HG.2.2)) trivial;obtain⟨k0,k1,k2⟩:=J.c3;clear J;obtain⟨w6,rfl⟩:=eQ wr;go_wp2_with fail;go_loopg [60] c.Nf.length (fun gg s wr=>∃(m:Nat) (F:Nat→Value),m≤c.Nf.length∧gg=c.Nf.length-m∧s=.int .i64 m∧aa All w1 wr∧w1.heap.size<wr.heap.size∧al wr (wo.heap.size+1) 4 (az c.Nf.length (ie b.Ng.flatten))∧ii c.Nf.length (w1.heap.size+1) w1.heap.size wr F (dq c i m b.Ng.flatten)∧∀k q,k<c.Nf.length→(F k).ownBlock=some q→q≠wo.heap.size+1)
 case atStart=>refine⟨0,F,by omega,by omega,rfl,HB.2.2.2.2.2.2.2.1.trans HG.2.2,by have:=HG.2.2.size;omega,HG.2.1,?_,fun k q hk e=>by have:=(aD (HB.2.2.2.2.2.2.2.2.own k hk) e).2;omega⟩;rw[zh c i b.Ng.flatten];exact re HB.2.2.2.2.2.2.2.2 HG.2.2
 clear HG k0 k1 k2;obtain⟨m,F,hm,rfl,rfl,o,e1,Z,C,d7⟩:=hrel;by_cases c9:m<c.Nf.length;·(
 have e9:=Z.cell m;rw[bj c9] at e9;cases c6:ie b.Ng.flatten m
 ·rw[c6] at e9;have HT:=J5 o Z C d7 c6;clear o Z C d7 c6;go_wp2_with fail;go_roundg (c.Nf.length-(m+1))
  ·refine⟨m+1,F,by omega,rfl,by go_num,HT.1,e1,HT.2.1,pS HT.2.2.1 fun k=>?_,HT.2.2.2.1⟩
   by_cases e:k=i;·subst e;rw[dh,dh,sk HT.2.2.2.2]
   exact nV e
  omega
 rw[c6] at e9;have Y:=C.tab.cell i;rw[cq b6] at Y;have d8:=C.own i b6;rw[dh] at d8;have n5:=mZ b.Ng.flatten m;have b7:(wr.alloc (.cells #[.int .i64 m] 3)).ownsRow (w1.heap.size+1) 3 1 (F i) (dL b.Ng.flatten m).length (aI (dL b.Ng.flatten m)):=be d8 ((aa.refl All wr).alloc _) (fun _ _=>trivial);have HT:=J5 o Z C d7 c6;clear o Z C d7 c6 d8;go_wp2_with (
  at_builtin;refine aR _ rfl (.tmp 72) (.tmp 74) 45 rfl (w1.heap.size+1) 3 i3 _ 1 8 underlying45 I3.1 I3.2.1 I3.2.2.1 I3.2.2.2 rfl (by decide) _ _ _ rfl b7 (some ⟨wr.heap.size,0,none⟩) 1 1 [.int .i64 m] rfl rfl ?_ ?_ (by unfold maxLen;omega) (by omega) (by simp;omega) ?_;·intro _;exact⟨_,_,rfl,fun j u hu=>by rw[cN,al.cell (al.new _ _ _)];simpa using hu⟩
  ·intro u hu
   rw[cx.1 hu];rfl
  intro v2 w2 b8 e3 d9;obtain⟨A3,c3,rfl⟩:=aU b8;have e4:aa (fun b=>(F i).ownBlock≠some b) wr w2:=((aa.refl _ wr).alloc _).grown e3 fun g Z=>.inl fun h=>h Z;have b9:=HT.2.2.1.tab.kept e4 (fun e=>by have:=(aD (HT.2.2.1.own i b6) e).1;omega);have Y:=b9.cell i;rw[cq b6] at Y;have e8:=b9.free i;have n6:=e4.size;have j7:=HT.2.1.kept e4 (fun e=>HT.2.2.2.1 i _ b6 e rfl);have R:=HT.2.2.1.step (R':=dq c i (m+1) b.Ng.flatten) b6 (x:=(m:Int)) (by rw[dh];exact b8) e3 d9 (by rw[dh,dh,qS HT.2.2.2.2]) (fun j hj=>nV hj);have j8:aa All w1 w2:=(HT.1.alloc _).grown e3 fun g Z=>.inr (by have:=(aD b7 Z).1;omega);have j9:=HT.2.1.lt;have e0:=J5 R j8 j7 d9 j9;clear b8 e3 d9 e4 b9 R j8 b7 j7 j9)
 go_roundg (c.Nf.length-(m+1))
 ·refine⟨m+1,qd F i _,by omega,rfl,by go_num,e0.2.1.setCell (p:=⟨w1.heap.size,i,none⟩) (.inr (cf _)) _,by simp;omega,e0.2.2.1.kept ((aa.refl (fun q=>q≠w1.heap.size) _).setCell (p:=⟨w1.heap.size,i,none⟩) (.inl fun h=>h rfl) _) (by have:=l6.out;omega),e0.1,fun k q hk e=>?_⟩;by_cases ek:k=i
  ·subst ek;rw[jd] at e;rcases e0.2.2.2.1 with h|h;·rw[h] at e;exact HT.2.2.2.1 k q hk e
   rw[h] at e;have:=e0.2.2.2.2;simp at e;omega
  rw[li ek] at e;exact HT.2.2.2.1 k q hk e
 omega)
 obtain rfl:m=c.Nf.length:=by omega
 rw[rl HB.1] at C;have HT:=J2 o C;clear o C Z d7;go_wp2_with fail;go_roundg (c.Nf.length-(i+1));·exact⟨i+1,F,by omega,rfl,by go_num,HT.1,e1,HT.2⟩
 omega)
 obtain rfl:i=c.Nf.length:=by omega
 have c0:=rf C (by omega) (fun k _=>by have:=tJ c c.Nf.length k;omega) (fun k _ x hx=>by obtain⟨a,rfl,ha⟩:=tL hx;exact tT (by omega));rw[tI] at c0;have HE:=J2 o c0;clear o c0 C;go_wp2_with fail;exact bodyPost_ret (v:=.tuple #[.slice (some ⟨w1.heap.size,0,none⟩) c.Nf.length c.Nf.length,.int .i64 0]) (by simp[results,Tryz.f8,go_sem]) rfl (.inl ⟨i1.out,_,rfl,a6.1.trans HE.1,aq.wide (fun q hq=>by have:=a6.1.size;omega) HE.2⟩)

section
section
variable {ll:List (List Int)}
def lz (ll:List (List Int))(s t:Nat)(n:Nat→Int):Prop:=1≤n s∧∀x,x<ll.length→0≤n x∧(n x=0∨(rt ll s (n x).toNat x∧aQ ll x t))
def rS (ll:List (List Int))(s t r:Nat)(n:Nat→Int):Prop:=∀x m,m≤r+1→rt ll s m x→aQ ll x t→(m:Int)≤n x
def mw (ll:List (List Int))(t:Nat)(n0 n:Nat→Int)(i k:Nat):Prop:=(∀x,n0 x≤n x)∧
 (∀b c,b<i→dH ll b c→aQ ll c t→1≤n0 b→n0 b+1≤n c)∧∀row,ll[i]? =some row→∀c:Nat,(c:Int)∈row.take k→aQ ll c t→1≤n0 i→n0 i+1≤n c
theorem lz.bound {s t:Nat}{n:Nat→Int}(h:lz ll s t n)(l:mN ll)(o:s<ll.length)(C:¬mD ll s t){x:Nat}(J:x<ll.length):0≤n x∧n x≤ll.length:=by
 obtain⟨R,j⟩:=h.2 x J;refine⟨R,?_⟩;rcases j with j|⟨j,Y⟩;·omega
 have:=tS l o j fun k=>C (k.on Y);omega
theorem lz.start {s t:Nat}(h:aQ ll s t):lz ll s t (lu (fun _=>0) s 1):=by
 refine⟨by rw[fM];decide,fun x _=>?_⟩;by_cases e:x=s;·subst e;rw[fM];exact⟨by decide,.inr ⟨.one,h⟩⟩
 rw[jS e];exact⟨by decide,.inl rfl⟩
theorem rS.start {s t:Nat}:rS ll s t 0 (lu (fun _=>0) s 1):=by
 intro x m hm hw _;have:=hw.pos;obtain rfl:m=1:=by omega
 cases hw with
 |one=>rw[fM];decide
 |step h _=>have:=h.pos;omega
theorem lz.upd {s t i j:Nat}{n:Nat→Int}(h:lz ll s t n)(hi:i<ll.length)(e:dH ll i j)(C:aQ ll j t)(Y:0<n i)(J:n j<n i+1):lz ll s t (lu n j (n i+1)):=by
 refine⟨?_,fun x R=>?_⟩
 ·by_cases l:s=j
  ·subst l;rw[fM];omega
  rw[jS l];exact h.1
 by_cases l:x=j
 ·subst l;rw[fM];refine⟨by omega,.inr ⟨?_,C⟩⟩;rcases (h.2 i hi).2 with o|⟨o,_⟩;·omega
  have:=rt.step o e;rwa [show(n i+1).toNat=(n i).toNat+1 by omega]
 rw[jS l];exact h.2 x R
theorem mw.start {t:Nat}{n:Nat→Int}:mw ll t n n 0 0:=⟨fun x=>Int.le_refl _,fun b c h=>by omega,fun row _ c h=>by simp at h⟩
theorem mw.next {t i k:Nat}{R n:Nat→Int}{row:List Int}(h:mw ll t R n i k)(Y:ll[i]? =some row)(o:row.length≤k∨n i≤0):mw ll t R n (i+1) 0:=by
 obtain⟨Z,h2,h3⟩:=h;refine⟨Z,fun b c hb e C hp=>?_,fun j _ c C=>by simp at C⟩;by_cases J:b=i
 ·subst J;rcases o with o|o
  ·obtain⟨j,l,hm⟩:=e
   rw[Y] at l;cases l;exact h3 row Y c (by rw[oF o];exact hm) C hp
  have:=Z b;omega
 exact h2 b c (by omega) e C hp
theorem mw.done {s t r:Nat}{j n:Nat→Int}(h:mw ll t j n ll.length 0)(J:lz ll s t j)(R:rS ll s t r j):rS ll s t (r+1) n:=by
 intro x m hm hw o;cases hw with
 |one=>have:=J.1;have:=h.1 s;omega
 | @step Y b _ hw e=>
   have Z:=R b Y (by omega) hw (.head e o);have:=hw.pos;have l:b<ll.length:=by(
 obtain⟨row,C,_⟩:=e;rcases Nat.lt_or_ge b ll.length with h|h;·exact h
 rw[jz h] at C;cases C)
   have:=h.2.1 b x l e o (by omega);omega
end
end


theorem vk:(prog.info? 4).map (fun i=>(i.zero,i.size,i.bytes))=some (some (.bool false),1,1):=by kernel_rfl
def gZ (l:List Bool):List Value:=l.map Value.bool
theorem uI {S:Nat→Prop}{w:World}{base:Nat}{e:TypeId}{v:Value}{n:Nat}{l:List Bool}(h:w.ownsRow base e 1 v n (gZ l))(j:n=l.length)(o:l.length*1≤140737488355328)(C:∀g,v.ownBlock=some g→S g):gD S w v l:=by subst j;exact Sl.of_own h o C (fun i x J=>⟨.bool x,by simp[gZ,J],rfl⟩)
theorem sv {d:Int}{l:List Int}{k:Nat}{x:Int}(h:l[k]? =some x):gZ (iq d (l.take (k+1)))=gZ (iq d (l.take k))++[.bool (decide (x<0)||decide (x≥d))]:=by rw[cU,h];simp[gZ,iq]
def rL (p:aH)(c:aE)(w:World)(e:Ending)(w':World):Prop:=
 ((bJ p c∧jH c)∧∃u,e=.returned (.tuple #[u,.int .i64 0])∧aa All w w'∧gD (fun b=>w.heap.size≤b) w' u (iq p.Nc (cZ (cG c) c.main.toNat)))∨(¬(bJ p c∧jH c)∧e=.returned (.tuple #[.slice none 0 0,.int .i64 1])∧aa All w w')
theorem pC (ll:List (List Int))(s:Nat):(cZ ll s).length=ll.length:=by simp[cZ]
theorem CH (S:Nat→Prop)(pv cv:Value)(p:aH)(c:aE)(w:World)(hp:dJ S w pv p)(hc:cQ S w cv c)(hl:gz w)(hS:∀b,S b→b<w.heap.size)(b6:kj p)(b7:lY c)(hN:eM p c↔bJ p c):
 Calls prog 5 #[pv,cv] w (rL p c w):=by
 obtain⟨i4,b8,b9,c0,c6⟩:=info_parts vk;have I4:=J4 b8 b9 c0 c6;clear b8 b9 c0 c6;have c7:=cB.la hp;have c8:=dc.la hc;obtain⟨i6,vu,vi,vo,rfl,e7,e8,e9,h0,d7⟩:=hp;obtain⟨a1,n1,rfl,_⟩:=e7;obtain⟨a2,n2,rfl,_⟩:=e8;obtain⟨a3,n3,rfl,_⟩:=e9;obtain⟨a4,n4,rfl,_⟩:=h0;obtain⟨ka,kf,rfl,h4,h5,h6⟩:=hc;obtain⟨A1,c1,rfl,_⟩:=h4;obtain⟨A2,c2,rfl,_⟩:=h5;obtain⟨W0,a8⟩:=eQ ((w.alloc (.cells #[.slice a1 p.MZ.length n1,.slice a2 p.up.length n2,.slice a3 p.Nb.length n3,.slice a4 p.Na.length n4,.int .i64 p.Nc] 26)).alloc (.cells #[.slice A1 c.Nd.length c1,.slice A2 c.Nf.length c2,.int .i64 c.main] 30));have a6:aa All w W0:=by rw[a8];exact(kR.alloc _).alloc _
 have bP:al W0 w.heap.size 26 #[.slice a1 p.MZ.length n1,.slice a2 p.up.length n2,.slice a3 p.Nb.length n3,.slice a4 p.Na.length n4,.int .i64 p.Nc]:=by rw[a8];exact(al.new _ _ _).alloc _
 have bK:al W0 (w.heap.size+1) 30 #[.slice A1 c.Nd.length c1,.slice A2 c.Nf.length c2,.int .i64 c.main]:=by rw[a8];exact ac (by simp)
 obtain⟨p0,p1,p2,p3,p4⟩:=bP.c5;obtain⟨k0,k1,k2⟩:=bK.c3;have HR:=oH (qT S _ _ p c W0 (c7 W0 a6) (c8 W0 a6) (hl.keep a6) (fun b hb=>by have:=hS b hb;have:=a6.size;omega) b6 b7 hN);have HW:=J4 a8 a6 bP bK;have i7:=oH d7;clear a8 a6 bP bK c7 c8 d7 h6 hN hl hS b6 b7;go_enter func5,ntmps5;go_upto_region 1 with fail;rw[←HW.1];go_wp2_with fail;refine HR.out.mono ?_;rintro e w1 (⟨C,u,rfl,a7,hu⟩|⟨C,rfl,a7⟩)
 case inr=>have HN:=J2 C a7;clear C a7 p0 p1 p2 p3 p4 k0 k1 k2;go_wp2_with fail;exact bodyPost_ret (v:=.tuple #[.slice none 0 0,.int .i64 1]) (by simp[results,Tryz.f5,go_sem]) rfl (.inr ⟨HN.1,rfl,HW.2.1.trans HN.2⟩)
 clear p0 p1 p2 p3 p4 k0 k1 k2;have h7:=C.1.2.2.2.1;have h8:=C.1.2.2.2.2.1;have h9:=C.1.2.2.1;obtain⟨s,hs⟩:∃s:Nat,c.main=s:=⟨c.main.toNat,by omega⟩;have i0:s<(cG c).length:=by rw[dT];omega
 have b4:=fun wn (hk:aa All w1 wn)=>qW _ u (cG c) s wn (aq.keep hk.all hu) (py (by omega) (by omega)) i0;have d8:(cZ (cG c) s).length≤64:=by rw[pC,dT];exact h9
 have d9:c.main.toNat=s:=by rw[hs];rfl
 have e0:=HW.2.2.2.kept a7 trivial;obtain⟨k0,k1,k2⟩:=e0.c3;rw[hs] at k2;have HE:=J5 b4 a7 C d9 hu;obtain⟨A9,c9,rfl,_⟩:=hu;clear b4 a7 C e0 d9 hs h7 h8;obtain⟨E,hE⟩:=eR (cZ (cG c) s);rw[hE] at d8 HE;have i1:=oH hE;clear hE;go_wp2_with fail;refine(HE.1 w1 kR).mono ?_;rintro e w2 ⟨u2,rfl,e1,e2⟩;have b5:=ah.la e2;obtain⟨A3,c3,rfl,q1,q2,q3,_⟩:=e2;unfold maxLen at q2;have e3:=HE.2.1.trans e1;have H2:=J2 b5 e3;clear b5 e1 e3 k0 k1 k2;go_wp2_with fail;go_loopg [8,25] E.length (fun gg s8 i2 wr=>∃k:Nat,k≤E.length∧gg=E.length-k∧i2=.int .i64 k∧aa All w2 wr∧wr.ownsRow w2.heap.size 4 1 s8 k (gZ (iq p.Nc (E.take k))));·exact⟨0,by omega,by omega,rfl,kR,rfl,.inl ⟨rfl,rfl⟩⟩
 obtain⟨k,hk,rfl,rfl,R,J⟩:=hrel;by_cases i5:k<E.length;·(
 obtain⟨n,hn⟩:=eG i5;obtain⟨eb,eo,ec,rfl,_,j0,rfl,_⟩:=bn (H2.1 wr R) hn;have e4:=HW.2.2.1.kept (H2.2.trans R) trivial;obtain⟨p0,p1,p2,p3,p4⟩:=e4.c5;clear p0 p1 p2 p3 e4;obtain⟨A4,c4,rfl⟩:=aU J;obtain⟨vb,Y⟩:=eR ((decide (n<0)||decide (n≥p.Nc)));have Z:=sv (d:=p.Nc) hn;rw[Y] at Z;have o:(wr.alloc (.cells #[.bool vb] 4)).ownsRow w2.heap.size 4 1 (.slice A4 k c4) k (gZ (iq p.Nc (E.take k))):=be J ((aa.refl All wr).alloc _) (fun _ _=>trivial);have j1:=R.size;have HK:=J2 R Z;clear R Z J hn;by_cases e5:n<0;·(
 have d0:decide (n<0)=true:=bL e5;rw[d0,Bool.true_or] at Y;subst Y;go_wp2_with (
  at_builtin;refine aR _ rfl (.tmp 29) (.tmp 38) 36 rfl w2.heap.size 4 i4 _ 1 1 underlying36 I4.1 I4.2.1 I4.2.2.1 I4.2.2.2 rfl (by decide) _ _ _ rfl o (some ⟨wr.heap.size,0,none⟩) 1 1 [.bool true] rfl rfl ?_ ?_ (by unfold maxLen;omega) (by omega) (by simp;omega) ?_;·intro _;exact⟨_,_,rfl,fun j u hu=>by rw[cN,al.cell (al.new _ _ _)];simpa using hu⟩
  ·intro u hu
   rw[cx.1 hu];rfl
  intro v2 w3 l b0 b1;obtain⟨A5,c5,rfl⟩:=aU l;have b2:aa All w2 w3:=(HK.1.alloc _).grown b0 fun g hg=>.inr (aD o hg).1;have b3:=J2 b2 l;clear l b0 b1 b2 o)
 go_roundg (E.length-(k+1));·exact⟨k+1,by omega,rfl,by go_num,b3.1,by rw[HK.2];exact b3.2⟩
 omega)
 have d0:decide (n<0)=false:=cI e5;rw[d0,Bool.false_or] at Y;have d1:decide (p.Nc≤n)=vb:=Y;have d2:decide (n≥p.Nc)=vb:=Y;clear Y;go_wp2_with (
  at_builtin;refine aR _ rfl (.tmp 29) (.tmp 38) 36 rfl w2.heap.size 4 i4 _ 1 1 underlying36 I4.1 I4.2.1 I4.2.2.1 I4.2.2.2 rfl (by decide) _ _ _ rfl o (some ⟨wr.heap.size,0,none⟩) 1 1 [.bool vb] rfl rfl ?_ ?_ (by unfold maxLen;omega) (by omega) (by simp;omega) ?_;·intro _;exact⟨_,_,rfl,fun j u hu=>by rw[cN,al.cell (al.new _ _ _)];simpa using hu⟩
  ·intro u hu
   rw[cx.1 hu];rfl
  intro v2 w3 l b0 b1;obtain⟨A5,c5,rfl⟩:=aU l;have b2:aa All w2 w3:=(HK.1.alloc _).grown b0 fun g hg=>.inr (aD o hg).1;have b3:=J2 b2 l;clear l b0 b1 b2 o)
 go_roundg (E.length-(k+1));·exact⟨k+1,by omega,rfl,by go_num,b3.1,by rw[HK.2];exact b3.2⟩
 omega)
 obtain rfl:k=E.length:=by omega
 have HT:=J2 R J;clear R J;have e6:(iq p.Nc E).length=E.length:=by simp[iq]
 obtain⟨A4,c4,rfl⟩:=aU HT.2;have hB:gD (fun b=>w.heap.size≤b) wr (.slice A4 E.length c4) (iq p.Nc (cZ (cG c) c.main.toNat)):=by rw[HE.2.2.2.1,i1.out];have h:=HT.2;rw[dZ] at h;refine uI h e6.symm (by omega) fun g hg=>?_;have h1:=(aD h hg).1;have h2:=HW.2.1.size;have h3:=H2.2.size;show w.heap.size≤g;omega
 have HB:=oH hB;clear hB e6;go_wp2_with fail;exact bodyPost_ret (v:=.tuple #[.slice A4 E.length c4,.int .i64 0]) (by simp[results,Tryz.f5,go_sem]) rfl (.inl ⟨HE.2.2.1,_,rfl,(HW.2.1.trans H2.2).trans HT.1,HB.out⟩)
def xD (lo:Nat)(l:List (List Int))(E:List Int)(t:Tmp)(v:Value)(wn:World):Prop:=if t=9 then Rows (fun b=>lo≤b) wn v l else aK (fun b=>lo≤b) wn v E
theorem xD.keep {lo:Nat}{l:List (List Int)}{E:List Int}{wn j:World}(o:aa All wn j)(t:Tmp){v:Value}(h:xD lo l E t v wn):xD lo l E t v j:=by
 unfold xD at h⊢;split;·rename_i e;rw[ap e] at h;exact aq.keep o.all h
 rename_i e;rw[ae e] at h;exact ah.keep o.all h
theorem si (z:ByteArray):z.toList=z.data.toList:=by
 have:∀(i:Nat) (r:List UInt8),i≤z.size→ByteArray.toList.loop z i r=r.reverse++z.data.toList.drop i:=by(
 intro i;induction C:z.size-i generalizing i with
 |zero=>
  intro r hi;rw[ByteArray.toList.loop];have e:¬i<z.size:=by omega
  rw[ae e,List.drop_of_length_le (by simp only[Array.length_toList];show z.size≤i;omega)];simp
 |succ n o=>
  intro r hi;have j:i<z.size:=by omega
  have l:i<z.data.toList.length:=by simpa using j
  rw[ByteArray.toList.loop,ap j,o (i+1) (by omega) _ (by omega),List.drop_eq_getElem_cons l];simp[ByteArray.get!,j])
 unfold ByteArray.toList;rw[this 0 [] (by omega)];simp
theorem qq {l:List UInt8}{i:Nat}{b:UInt8}(h:l[i]? =some b)(j:b.toNat<128):Utf8.decode ⟨l.toArray⟩ i=(b.toNat,1):=by
 have hi:=(lS.1 h).1;have e:(ByteArray.mk l.toArray).get! (i+0)=b:=by have o:=(lS.1 h).2;simp[ByteArray.get!,hi,o]
 unfold Utf8.decode;simp only[e,j,if_true]
theorem kc (l:List UInt8):(ByteArray.mk l.toArray).size=l.length:=by simp[ByteArray.size]
theorem zq {l:List UInt8}(J:0<l.length)(o:l.length≤24)(C:∀i b,l[i]? =some b→b.toNat<128∧(ey b.toNat||(i !=0&&fY b.toNat))=true):
 ∀(k f i:Nat),l.length-i=k→i≤l.length→k<f→fH ⟨l.toArray⟩ f i i=true
 |0,f+1,i,R,hi,Y=>by rw[jQ (by rw[kc];omega)];exact bL (by omega)
 |k+1,f+1,i,R,hi,Y=>by(
 have j:i<l.length:=by omega
 obtain⟨Z,h2⟩:=C i l[i] (lG j);rw[gK (by rw[kc];exact j),qq (lG j) Z];rw[gE,gE];exact⟨⟨h2,bL (by omega)⟩,zq J o C k f (i+1) (by omega) (by omega) (by omega)⟩)
theorem yM {l:List UInt8}(o:0<l.length)(j:l.length≤24)(C:∀i b,l[i]? =some b→b.toNat<128∧(ey b.toNat||(i !=0&&fY b.toNat))=true):dW ⟨l.toArray⟩=true:=by unfold dW;exact zq o j C l.length _ 0 (by omega) (by omega) (by rw[kc];omega)
theorem JW:(mu.all fun l=>match l with|_::b::_=>decide (97≤b.toNat)|_=>false)=true:=by decide
theorem JV {c d:UInt8}{r:List UInt8}(o:d.toNat<97):jv ⟨(c::d::r).toArray⟩=false:=by unfold jv;rw[List.any_eq_false];intro l j;rw[si];have h:=List.all_eq_true.1 JW l j;rw[cy];rintro e;rw[←e] at h;have:=of_decide_eq_true h;omega
theorem Bo (n:Int):∃d r,iK n=d::r∧d.toNat<97:=by
 unfold iK;by_cases h:n<0
 ·rw[ap h]
  exact⟨45,_,rfl,by decide⟩
 rw[ae h,mF];have j:=sw n.natAbs;cases l:kK n.natAbs with
 |nil=>rw[l] at j;simp at j
 |cons d r=>have:=nd n.natAbs d (by rw[l];exact List.mem_cons_self ..);exact⟨d,r,rfl,by omega⟩
theorem names:kP:=by
 constructor;·(
 intro c n Y hn;have Z:97≤c.toNat∧c.toNat≤122:=by rcases Y with rfl|rfl|rfl|rfl<;>decide
 have o:ey (c.toNat:Int)=true:=by unfold ey od;simp only[Bool.or_eq_true,gE,iH];exact .inl (.inl (.inl (.inl ⟨by omega,by omega⟩)))
 have hw:jv (aL c n)=false:=by obtain⟨d,r,e,C⟩:=Bo n;unfold aL tr;rw[e];exact JV C
 unfold aB;rw[hw,Bool.not_false,Bool.and_true];by_cases h:0≤n;·(
 rw[bL h];have J:iK n=kK n.natAbs:=by unfold iK;rw[ae (by omega)];rfl
 have R:=sw n.natAbs;unfold aL tr;rw[J];refine yM (by simp) (by simp;omega) fun i b j=>?_;rcases i with _|i
 ·cases j
  rw[o];exact⟨by omega,rfl⟩
 have:=nd n.natAbs b (mG (by simpa using j));refine⟨by omega,?_⟩;have C:fY (b.toNat:Int)=true:=by unfold fY od;rw[gE];exact⟨bL (by omega),bL (by omega)⟩
 rw[C];simp)
 rw[cI h];have J:iK n=45::kK n.natAbs:=by unfold iK;rw[ap (by omega)];rfl
 unfold aL tr;rw[J];unfold dW;rw[gK (by rw[kc];simp),qq (b:=c) (i:=0) rfl (by omega),kc];rw[show(c::45::kK n.natAbs).length=(kK n.natAbs).length+1+1 by simp,gK (by rw[kc];simp),show Utf8.decode ⟨(c::45::kK n.natAbs).toArray⟩ (0+(c.toNat,1).2)=((45:UInt8).toNat,1) from qq (l:=c::45::kK n.natAbs) (i:=1) (b:=45) rfl (by decide)];have e1:ey ((45:UInt8).toNat:Int)=false:=by decide
 have e2:fY ((45:UInt8).toNat:Int)=false:=by decide
 simp only[e1,e2,Bool.and_false,Bool.or_false,Bool.false_and])
 ·unfold aB
  have R:dW fO=true:=yM (l:=[109,97,105,110]) (by decide) (by decide) fun i b j=>by(
 rcases i with _|_|_|_|i;·cases j;decide
 ·cases j;decide
 ·cases j;decide
 ·cases j;decide
 simp at j)
  have h2:jv fO=false:=by unfold jv;rw[si];decide
  rw[R,h2];rfl
 unfold aB;have:dW gR=false:=by unfold dW;rw[jQ (by simp[gR,ByteArray.size])];rfl
 rw[this];rfl
def pe:List (List Int):=[[1,2],[2],[]]
theorem yi:aP pe:=by decide
theorem Ae {a b:Nat}(h:dH pe a b):a<b∧b<3:=by
 obtain⟨row,j,l⟩:=h
 match a,j with
 |0,j=>cases j;simp at l;omega
 |1,j=>cases j;simp at l;omega
 |2,j=>cases j;simp at l
theorem Kl {a b:Nat}(h:aQ pe a b):a≤b:=by
 induction h with
 |refl=>exact cf _
 |step _ e j=>have:=Ae e;omega
theorem FD:dH pe 0 1:=⟨_,rfl,by decide⟩
theorem Mm:dH pe 0 2:=⟨_,rfl,by decide⟩
theorem Kk:dH pe 1 2:=⟨_,rfl,by decide⟩
theorem ir {a b:Nat}(o:b<3):ay pe a b=decide (a≤b):=by
 cases h:decide (a≤b) with
 |false=>
  cases j:ay pe a b with
  |false=>rfl
  |true=>have:=Kl (aY.1 j);simp at h;omega
 |true=>
  have l:a≤b:=by simpa using h
  refine aY.2 ?_;by_cases e:a=b;·subst e;exact .refl
  have:(a=0∧b=1)∨(a=0∧b=2)∨(a=1∧b=2):=by omega
  rcases this with ⟨rfl,rfl⟩|⟨rfl,rfl⟩|⟨rfl,rfl⟩;·exact .step .refl FD
  ·exact .step .refl Mm
  exact .step .refl Kk
theorem CU:bC pe=[[2],[1],[0]]:=by
 have hl:pe.length=3:=rfl;have hr:List.range 3=[0,1,2]:=rfl;have j:ay pe 0 0=true:=by rw[ir (by decide)];rfl
 have l:ay pe 0 1=true:=by rw[ir (by decide)];rfl
 have o:ay pe 0 2=true:=by rw[ir (by decide)];rfl
 have C:ay pe 1 0=false:=by rw[ir (by decide)];rfl
 have J:ay pe 1 1=true:=by rw[ir (by decide)];rfl
 have R:ay pe 1 2=true:=by rw[ir (by decide)];rfl
 have Y:ay pe 2 0=false:=by rw[ir (by decide)];rfl
 have Z:ay pe 2 1=false:=by rw[ir (by decide)];rfl
 have a1:ay pe 2 2=true:=by rw[ir (by decide)];rfl
 simp[bC,gm,hl,hr,dm,eC,nk,Al,eB,j,l,o,C,J,R,Y,Z,a1,List.find?,List.filter]
theorem KY {m i:Nat}(h:rt pe 0 m i):m≤i+1:=by
 induction h with
 |one=>omega
 |step _ e j=>have:=Ae e;omega
theorem KX (i:Nat):¬mD pe 0 i:=by rintro⟨k,_,_,⟨j,e,l⟩,_⟩;have:=Ae e;have:=Kl l;omega
theorem sy {i:Nat}(h:rt pe 0 (i+1) i):gy pe 0 i=i+1:=
 nh ⟨fun x=>absurd x (KX i),fun x=>absurd h.reach x,fun _ _=>⟨i+1,by simp,h,fun m hm=>KY hm⟩⟩
theorem Af:cZ pe 0=[1,2,3]:=by show [gy pe 0 0,gy pe 0 1,gy pe 0 2]=_;rw[sy .one,sy (.step .one FD),sy (.step (.step .one FD) Kk)];rfl
theorem FY (S T:Nat→Prop)(va vb:Value)(l lb:List Int)(w:World)(ha:aK S w va l)(hb:aK T w vb lb):
 Calls prog 12 #[va,vb] w fun e w'=>e=.returned (.bool (decide (l=lb)))∧aa All w w':=by
 obtain⟨a,cap,rfl,h1,h2,_,h⟩:=ha;obtain⟨b,b9,rfl,h3,h4,_,h'⟩:=hb;unfold maxLen at h2 h4;have hl:l.length≤9223372036854775807:=by omega
 have c0:lb.length≤9223372036854775807:=by omega
 have H:=oH h;have H':=oH h';clear h h' h1 h2 h3 h4;by_cases j:l.length=lb.length;·(
 have C:=oH j;have c3:l.length≤lb.length:=by omega
 have b5:(l.length !=lb.length)=false:=by simpa using j
 clear j;go_enter func12,ntmps12;go_wp2
 go_loopw [5] (fun i wr=>∃k:Nat,k≤l.length∧i=.int .i64 k∧l.take k=lb.take k∧aa All w wr) (fun i _=>l.length-(intOf i).toNat)
 ·exact⟨0,by omega,rfl,by simp,kR⟩
 obtain⟨k,hk,rfl,J,o⟩:=hrel;by_cases a1:k<l.length;·(
 have R:k<lb.length:=by omega
 obtain⟨b1,o1,c1,rfl,c4,a6,rfl,c5⟩:=H.out k l[k] (lG a1);obtain⟨b2,o2,c2,rfl,c6,a7,rfl,c7⟩:=H'.out k lb[k] (lG R);have c8:=o.cell (p:=⟨b1,o1+k,none⟩) trivial a6;have c9:=o.cell (p:=⟨b2,o2+k,none⟩) trivial a7;have a8:=qH a1 R J;have b0:=oH J;have b6:=oH a8;have Y:l[k]≠lb[k]→l≠lb:=fun h e=>h (by subst e;rfl);have b3:=oH Y;clear a6 a7 J a8 Y;generalize l[k]=x at*;generalize lb[k]=y at*;by_cases Z:x=y
 ·have b7:(x !=y)=false:=by simpa using Z
  have Hy:=oH Z;clear Z;go_wp2;go_quiet (fail);go_wp2
  go_roundw
  case rel=>exact⟨k+1,by omega,by go_num,b6.2 Hy.out,by repeat(first|assumption|apply aa.drewN|apply aa.drew)⟩
  case measure=>simp[intOf];omega
 have b7:(x !=y)=true:=by simpa using Z
 have Hy:=oH Z;clear Z;go_wp2;go_quiet (fail);go_wp2;go_ret;exact⟨by rw[cI (b3.out Hy.out)];rfl,by repeat(first|assumption|apply aa.drewN|apply aa.drew)⟩)
 have b4:k=l.length:=by omega
 have b0:=oH J;have b8:=oH b4;clear J b4;go_wp2;go_ret;exact⟨by have:=b0.out;rw[b8.out,dZ,C.out,dZ] at this;simp[this],o⟩)
 have b5:(l.length !=lb.length)=true:=by simpa using j
 have C:=oH j;clear j;go_enter func12,ntmps12;go_wp2;go_ret;exact⟨by rw[cI (fun e=>C.out (by rw[e]))];rfl,kR⟩
end Go.Proofs.YtncdbjponknakaaGreatDoor
