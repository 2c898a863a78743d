/- Part 43 of the proof of CallsTo (its last part says what is proved). No condition. -/
import Derived.Test.YtceloincoomjeaaGreatDoorK41
namespace Go.Proofs.YtceloincoomjeaaGreatDoor
set_option maxRecDepth 100000
set_option maxHeartbeats 8000000
open Go.RowKit Go.Proofs.Tryz
theorem rf {N B g:Nat}{w:World}{F:Nat→Value}{R:Nat→List Int}(h:ii N B g w F R)(Y:N≤256)(I:∀k,k<N→(R k).length≤1000)(hw:∀k,k<N→∀x∈R k,(Lit.int .i64 x).wf=true):
 Rows (fun b=>g≤b) w (.slice (some ⟨g,0,none⟩) N N) ((List.range N).map R):=by
 have j:((List.range N).map R).length=N:=by simp
 have Z:=h.low;have:=Sl.of_blk (bw:=24) (E:=Sl 8 rQ) (S:=fun b=>g≤b) (l:=(List.range N).map R) (cap:=N) h.tab (cf g) (by rw[j];omega) (by unfold maxLen;omega) (by rw[j];omega) (fun i x o=>by
  have hi:i<N:=by(
 rcases Nat.lt_or_ge i N with h|h;·exact h
 rw[jz (by rw[j];omega)] at o;cases o)
  rw[cL,ln hi] at o;cases o;refine⟨F i,cq hi,?_⟩;have C:=h.own i hi;exact jr C rfl (by have:=I i hi;omega) (fun k J=>by have:=(aD C J).1;omega) (hw i hi))
 rwa [j] at this
theorem re {N B g:Nat}{w l:World}{F:Nat→Value}{R:Nat→List Int}(h:ii N B g w F R)(o:aa All w l):ii N B g l F R:=by obtain⟨C,I,J,Y⟩:=h;exact⟨C.kept o trivial,I,fun k j=>be (J k j) o fun _ _=>trivial,Y⟩
theorem pS {N B g:Nat}{w:World}{F:Nat→Value}{R R':Nat→List Int}(h:ii N B g w F R)(e:∀k,R' k=R k):ii N B g w F R':=by rw[show R'=R from funext e];exact h
def dq (c:aE)(i m:Nat)(l:List bz)(k:Nat):List Int:=if k<i then(cG c).getD k [] else if k=i then dL l m else []
theorem zh (c:aE)(i:Nat)(l:List bz):dq c i 0 l=dq c i 0 []:=rfl
theorem rl {c:aE}{i:Nat}{b:aw}(h:c.Nf[i]? =some b):dq c i c.Nf.length b.Ng.flatten=dq c (i+1) 0 []:=by
 funext k;unfold dq;by_cases j:k<i;·rw[ap j,ap (by omega)]
 rw[ae j];by_cases l:k=i
 ·subst l
  rw[ap rfl,ap (by omega),iG,qp h];rfl
 rw[ae l,ae (by omega)];split<;>rfl
theorem dh (c:aE)(i m:Nat)(l:List bz):dq c i m l i=dL l m:=by unfold dq;rw[ae (Nat.lt_irrefl _),ap rfl]
theorem nV {c:aE}{i m j:Nat}{l:List bz}{k:Nat}(h:k≠i):dq c i m l k=dq c i j l k:=by unfold dq;rw[ae h,ae h]
theorem tI (c:aE):(List.range c.Nf.length).map (dq c c.Nf.length 0 [])=cG c:=by
 apply List.ext_getElem?;intro k;by_cases h:k<c.Nf.length
 ·rw[cL,ln h,Option.map_some]
  unfold dq;rw[ap h,iG,lG (by rw[dT];exact h)];rfl
 rw[jz (by simp;omega),jz (by rw[dT];omega)]
theorem tL {c:aE}{i k:Nat}{x:Int}(h:x∈dq c i 0 [] k):∃a:Nat,x=a∧a<c.Nf.length:=by
 unfold dq at h;split at h
 ·rename_i l;by_cases j:k<c.Nf.length
  ·rw[iG,qp (lG j)] at h
   exact qR h
  rw[iG,jz (by rw[dT];omega)] at h;cases h
 split at h<;>cases h
theorem tJ (c:aE)(i k:Nat):(dq c i 0 [] k).length≤c.Nf.length:=by
 unfold dq;split
 ·by_cases j:k<c.Nf.length
  ·rw[iG,qp (lG j)]
   exact mZ _ _
  rw[iG,jz (by rw[dT];omega)];exact Nat.zero_le _
 split;·exact Nat.zero_le _
 exact Nat.zero_le _
def zL (p:aH)(c:aE)(w:World)(e:Ending)(w':World):Prop:=
 ((bJ p c∧jH c)∧∃u,e=.returned (.tuple #[u,.int .i64 0])∧aa All w w'∧Rows (fun b=>w.heap.size≤b) w' u (cG c))∨(¬(bJ p c∧jH c)∧e=.returned (.tuple #[.slice none 0 0,.int .i64 1])∧aa All w w')
theorem qT (S:Nat→Prop)(pv cv:Value)(p:aH)(c:aE)(w:World)(hp:dJ S w pv p)(hc:cQ S w cv c)(hl:gz w)(hS:∀b,S b→b<w.heap.size)(e9:kj p)(h0:lY c)(hN:eM p c↔bJ p c):
 Calls prog 5 #[pv,cv] w (zL p c w):=by
 obtain⟨i3,h1,h2,h3,h4⟩:=info_parts kt;have I3:=J4 h1 h2 h3 h4;clear h1 h2 h3 h4;have h5:=cB.la hp;have h6:=dc.la hc;obtain⟨n6,vu,vi,vo,rfl,j9,k3,k4,k5,k6⟩:=hp;obtain⟨a1,n1,rfl,_⟩:=j9;obtain⟨a2,n2,rfl,_⟩:=k3;obtain⟨a3,n3,rfl,_⟩:=k4;obtain⟨a4,n4,rfl,_⟩:=k5;obtain⟨ka,kf,rfl,k7,h8,k8⟩:=hc;have h9:=bV.la h8;obtain⟨A1,c1,rfl,m1,m2,m3,_⟩:=k7;obtain⟨A2,c2,rfl,m4,m5,m6,_⟩:=h8;unfold maxLen at m2 m5;obtain⟨W0,c6⟩:=eQ ((w.alloc (.cells #[.slice a1 p.MZ.length n1,.slice a2 p.up.length n2,.slice a3 p.Nb.length n3,.slice a4 p.Na.length n4,.int .i64 p.Nc] 26)).alloc (.cells #[.slice A1 c.Nd.length c1,.slice A2 c.Nf.length c2,.int .i64 c.main] 30));have c0:aa All w W0:=by rw[c6];exact(kR.alloc _).alloc _
 have bP:al W0 w.heap.size 26 #[.slice a1 p.MZ.length n1,.slice a2 p.up.length n2,.slice a3 p.Nb.length n3,.slice a4 p.Na.length n4,.int .i64 p.Nc]:=by rw[c6];exact(al.new _ _ _).alloc _
 have bK:al W0 (w.heap.size+1) 30 #[.slice A1 c.Nd.length c1,.slice A2 c.Nf.length c2,.int .i64 c.main]:=by rw[c6];exact ac (by simp)
 obtain⟨p0,p1,p2,p3,p4⟩:=bP.c5;obtain⟨k0,k1,k2⟩:=bK.c3;have HR:=oH (Bq S _ _ p c W0 (h5 W0 c0) (h6 W0 c0) (hl.keep c0) (fun b hb=>by have:=hS b hb;have:=c0.size;omega) e9 h0 hN);have HW:=J5 c6 c0 bP bK h9;have HS:=oH hS;clear c6 c0 bP bK h5 h6 h9 k6 k8 hN hl hS e9 h0;go_enter func5,ntmps5;go_upto_region 1 with fail;rw[←HW.1];go_wp2_with fail;refine HR.out.mono ?_;rintro e w1 ⟨rfl,e6⟩;have Z:=J2 (HW.2.1.trans e6) e6;clear e6 p0 p1 p2 p3 p4 k0 k1 k2;by_cases b3:bJ p c∧jH c
 case neg=>(rw[au b3];have HN:=oH b3;clear b3;go_wp2_with fail;exact bodyPost_ret (v:=.tuple #[.slice none 0 0,.int .i64 1]) (by simp[results,Tryz.f5,go_sem]) rfl (.inr ⟨HN.out,rfl,Z.1⟩))
 rw[av b3];have n7:=b3.1.2.2.1;have k9:=fun w=>qD c.Nf.length (by omega) w;have l4:=fun w=>iy c.Nf.length (by omega) w;have i0:=oH b3;clear b3;have I:=HW.2.2.2.1.kept Z.2 trivial;obtain⟨k0,k1,k2⟩:=I.c3;clear I;have I:=HW.2.2.2.1.kept (Z.2.trans ((aa.refl _ w1).alloc (.cells (dM c.Nf.length fun _=>.slice none 0 0) 50))) trivial;obtain⟨l0,l1,l2⟩:=I.c3;clear I;go_wp2_with fail;clear l0 l1 l2;go_loopg [26] c.Nf.length (fun gg s wr=>∃(i:Nat) (F:Nat→Value),i≤c.Nf.length∧gg=c.Nf.length-i∧s=.int .i64 i∧aa All w1 wr∧w1.heap.size<wr.heap.size∧ii c.Nf.length (w1.heap.size+1) w1.heap.size wr F (dq c i 0 []))
 case atStart=>
  refine⟨0,fun _=>.slice none 0 0,by omega,by omega,rfl,kR.alloc _,by simp,al.new _ _ _,by omega,fun k hk=>?_,fun k k' b _ _ _ h=>by cases h⟩;have e:dq c 0 0 [] k=[]:=by unfold dq;rw[ae (by omega)];split<;>rfl
  rw[e];exact⟨rfl,.inl ⟨rfl,rfl⟩⟩
 clear k9;obtain⟨i,F,hi,rfl,rfl,o,e0,C⟩:=hrel;clear k0 k1 k2;have I:=HW.2.2.2.1.kept (Z.2.trans o) trivial;obtain⟨k0,k1,k2⟩:=I.c3;clear I;by_cases b4:i<c.Nf.length;·(
 obtain⟨b,hb⟩:=eG b4;obtain⟨gb,go,n8,rfl,_,_,e1,bv,rfl,i1,_,_⟩:=aZ (HW.2.2.2.2 wr (Z.1.trans o)) hb;have e4:=bg.la i1;have i2:=mG hb;have i4:=i0.1.2.2.2.2.2.2.2.1 b i2;obtain⟨B1,d1,rfl,q1,q2,q3,_⟩:=i1;unfold maxLen at q2;have z0:=e1 0 _ rfl;rw[dj] at z0;have z1:=e1 1 _ rfl;have z2:=e1 2 _ rfl;have I:=HW.2.2.2.1.kept ((Z.2.trans o).trans ((aa.refl _ wr).alloc (.cells #[.int .i64 b.params,.int .i64 b.vars,.slice B1 b.Ng.length d1] 48))) trivial;obtain⟨l0,l1,l2⟩:=I.c3;clear I;obtain⟨W5,c7⟩:=eQ ((wr.alloc (.cells #[.int .i64 b.params,.int .i64 b.vars,.slice B1 b.Ng.length d1] 48)).alloc (.cells (az c.Nf.length fun _=>false) 4));have i5:aa All wr W5:=by rw[c7];exact(kR.alloc _).alloc _
 have b5:al W5 wr.heap.size 48 #[.int .i64 b.params,.int .i64 b.vars,.slice B1 b.Ng.length d1]:=by rw[c7];exact(al.new _ _ _).alloc _
 have g5:al W5 (wr.heap.size+1) 4 (az c.Nf.length (ie (fe b.Ng 0 0))):=by rw[c7];exact ac (by simp)
 obtain⟨b0,b1,b2⟩:=b5.c3;have m8:=b5.lt;have m9:=g5.lt;have l5:=oH (show w1.heap.size<wr.heap.size from e0);have HB:=J9 hb i4 e4 c7 i5 b5 g5 o C;clear hb i4 e4 c7 i5 b5 g5 o C e1 i2;obtain⟨wo,rfl⟩:=eQ wr;go_upto_region 8 with fail;rw[←HB.2.2.2.1];clear z0 z1 z2 k0 k1 k2 l0 l1 l2 l4;go_wp2_with fail;go_loopg [38] b.Ng.length (fun gg s wr=>∃k:Nat,k≤b.Ng.length∧gg=b.Ng.length-k∧s=.int .i64 k∧aa (fun q=>q≠wo.heap.size+1) W5 wr∧al wr (wo.heap.size+1) 4 (az c.Nf.length (ie (fe b.Ng k 0))));·exact⟨0,by omega,by omega,rfl,kR,HB.2.2.2.2.2.2.1⟩
 clear b0 b1 b2;obtain⟨k,hk,rfl,rfl,o,Y⟩:=hrel;have a8:aa All wo wr:=am (HB.2.2.2.2.1.all.trans (o.mono fun q (hq:q<wo.heap.size)=>by show q≠_;omega));by_cases c8:k<b.Ng.length;·(
 obtain⟨l,hl⟩:=eG c8;obtain⟨rb,ro,rv,rfl,l6,l7,i6⟩:=bn (HB.2.2.1 wr a8) hl;have i7:=cT.la i6;obtain⟨LA,lc,rfl,l1,l2,l3,_⟩:=i6;unfold maxLen at l2;have j0:=mG hl;have HA:=J6 hl i7 o Y a8 j0;clear hl i7 l6 o Y a8 j0;obtain⟨wq,rfl⟩:=eQ wr;go_wp2_with fail;go_loopg [44] l.length (fun gg s wr=>∃m:Nat,m≤l.length∧gg=l.length-m∧s=.int .i64 m∧aa (fun q=>q≠wo.heap.size+1) wq wr∧al wr (wo.heap.size+1) 4 (az c.Nf.length (ie (fe b.Ng k m))));·exact⟨0,by omega,by omega,rfl,kR,HA.2.2.2.1⟩
 clear l7;obtain⟨m,hm,rfl,rfl,o,Y⟩:=hrel;have c4:aa (fun q=>q≠wo.heap.size+1) W5 wr:=HA.2.2.1.trans o;have n9:=c4.size;have a8:aa All wo wr:=am (HB.2.2.2.2.1.all.trans (c4.mono fun q (hq:q<wo.heap.size)=>by show q≠_;omega));have j1:aa All wo wq:=HA.2.2.2.2.1;by_cases j2:m<l.length;·(
 obtain⟨x,hx⟩:=eG j2;obtain⟨xb,xo,o0,rfl,j3,j4,a6,xa,xf,rfl,l8,l9,m0⟩:=aZ (HA.2.1 wq kR) hx;obtain⟨ua,uc,rfl,_⟩:=l8;obtain⟨va,vc,rfl,_⟩:=l9;have a7:xb≠wo.heap.size+1:=fun e=>by have:=HS.out xb j3;have:=Z.1.size;omega
 have x0:=o.cell (p:=⟨xb,xo+m*9,none⟩) a7 (by have:=a6 0 _ rfl;rw[dj] at this;exact this);have x1:=o.cell (p:=⟨xb,xo+m*9+1,none⟩) a7 (by have:=a6 1 _ rfl;exact this);have x2:=o.cell (p:=⟨xb,xo+m*9+2,none⟩) a7 (by have:=a6 2 _ rfl;exact this);have x3:=o.cell (p:=⟨xb,xo+m*9+3,none⟩) a7 (by have:=a6 3 _ rfl;exact this);have x4:=o.cell (p:=⟨xb,xo+m*9+4,none⟩) a7 (by have:=a6 4 _ rfl;exact this);have x5:=o.cell (p:=⟨xb,xo+m*9+5,none⟩) a7 (by have:=a6 5 _ rfl;exact this);have x6:=o.cell (p:=⟨xb,xo+m*9+6,none⟩) a7 (by have:=a6 6 _ rfl;exact this);have x7:=o.cell (p:=⟨xb,xo+m*9+7,none⟩) a7 (by have:=a6 7 _ rfl;exact this);have x8:=o.cell (p:=⟨xb,xo+m*9+8,none⟩) a7 (by have:=a6 8 _ rfl;exact this);have J:=mt HA.1 hx;have j5:=fun h7=>Fj HB.2.1 HA.2.2.2.2.2 (mG hx) h7;have HX:=J6 c4 Y J j5 o a8;clear o c4 a8 j1 Y J j5 hx j3 a7 a6 j4 m0;obtain⟨wv,rfl⟩:=eQ wr;by_cases h7:x.kind=7;·(
 have t:(x.kind==7)=true:=by rw[cy];exact h7
 obtain⟨y0,y1⟩:=HX.2.2.2.1 h7;obtain⟨q,hq⟩:∃q:Nat,x.ref=q:=⟨x.ref.toNat,by omega⟩;have m7:q<c.Nf.length:=by omega
 have e5:(az c.Nf.length (ie (fe b.Ng k m))).setIfInBounds q (.bool true)=az c.Nf.length (ie (fe b.Ng k (m+1))):=by rw[HX.2.2.1];exact dg (uK h7 hq) fun j _ hj=>Iy hq hj
 have R:=(HX.2.1.alloc (.cells #[.int .u8 x.kind,.int .u8 x.op,.int .i64 x.dst,.int .i64 (q:Int),.int .i64 x.Ni,.slice ua x.args.length uc,.slice va x.Nh.length vc,.int .i64 x.num,.int .i64 x.Nj] 52)).cell q;rw[bj m7] at R;have e7:=(HX.2.1.alloc (.cells #[.int .u8 x.kind,.int .u8 x.op,.int .i64 x.dst,.int .i64 (q:Int),.int .i64 x.Ni,.slice ua x.args.length uc,.slice va x.Nh.length vc,.int .i64 x.num,.int .i64 x.Nj] 52)).free q;have HQ:=J2 e5 h7;rw[hq] at x3;clear e5 h7 y0 y1;go_wp2_with fail;go_roundg (l.length-(m+1))
 ·refine⟨m+1,by omega,rfl,by go_num,?_,?_⟩
  ·exact(HX.2.2.2.2.1.alloc _).setCell (p:=⟨wo.heap.size+1,q,none⟩) (.inl fun h=>h rfl) _
  rw[←HQ.1];exact(HX.2.1.alloc _).set _ _
 omega)
 have t:(x.kind==7)=false:=by rw[bE];exact h7
 have H7:=oH h7;clear h7;go_wp2_with fail;go_roundg (l.length-(m+1))
 ·refine⟨m+1,by omega,rfl,by go_num,?_,?_⟩
  ·exact HX.2.2.2.2.1.alloc _
  rw[HX.2.2.1,xR H7.out];exact HX.2.1.alloc _
 omega)
 obtain rfl:m=l.length:=by omega
 rw[qK HA.1] at Y;have HG:=J2 c4 Y;clear o c4 a8 j1 Y;go_wp2_with fail;go_roundg (b.Ng.length-(k+1));·exact⟨k+1,by omega,rfl,by go_num,HG.out⟩
 omega)
 obtain rfl:k=b.Ng.length:=by omega
 rw[qJ] at Y;have HG:=J3 o Y a8;clear o Y a8;have I:=HW.2.2.2.1.kept (Z.2.trans (HB.2.2.2.2.2.2.2.1.trans HG.2.2)) trivial;obtain⟨k0,k1,k2⟩:=I.c3;clear I;obtain⟨w6,rfl⟩:=eQ wr;go_wp2_with fail;go_loopg [60] c.Nf.length (fun gg s wr=>∃(m:Nat) (F:Nat→Value),m≤c.Nf.length∧gg=c.Nf.length-m∧s=.int .i64 m∧aa All w1 wr∧w1.heap.size<wr.heap.size∧al wr (wo.heap.size+1) 4 (az c.Nf.length (ie b.Ng.flatten))∧ii c.Nf.length (w1.heap.size+1) w1.heap.size wr F (dq c i m b.Ng.flatten)∧∀k q,k<c.Nf.length→(F k).ownBlock=some q→q≠wo.heap.size+1)
 case atStart=>refine⟨0,F,by omega,by omega,rfl,HB.2.2.2.2.2.2.2.1.trans HG.2.2,by have:=HG.2.2.size;omega,HG.2.1,?_,fun k q hk e=>by have:=(aD (HB.2.2.2.2.2.2.2.2.own k hk) e).2;omega⟩;rw[zh c i b.Ng.flatten];exact re HB.2.2.2.2.2.2.2.2 HG.2.2
 clear HG k0 k1 k2;obtain⟨m,F,hm,rfl,rfl,o,e0,Y,C,c9⟩:=hrel;by_cases c8:m<c.Nf.length;·(
 have e8:=Y.cell m;rw[bj c8] at e8;cases c5:ie b.Ng.flatten m
 ·rw[c5] at e8;have HT:=J5 o Y C c9 c5;clear o Y C c9 c5;go_wp2_with fail;go_roundg (c.Nf.length-(m+1))
  ·refine⟨m+1,F,by omega,rfl,by go_num,HT.1,e0,HT.2.1,pS HT.2.2.1 fun k=>?_,HT.2.2.2.1⟩
   by_cases e:k=i;·subst e;rw[dh,dh,sk HT.2.2.2.2]
   exact nV e
  omega
 rw[c5] at e8;have R:=C.tab.cell i;rw[cq b4] at R;have d7:=C.own i b4;rw[dh] at d7;have n0:=mZ b.Ng.flatten m;have b6:(wr.alloc (.cells #[.int .i64 m] 3)).ownsRow (w1.heap.size+1) 3 1 (F i) (dL b.Ng.flatten m).length (aI (dL b.Ng.flatten m)):=be d7 ((aa.refl All wr).alloc _) (fun _ _=>trivial);have HT:=J5 o Y C c9 c5;clear o Y C c9 c5 d7;go_wp2_with (
  at_builtin;refine aR _ rfl (.tmp 72) (.tmp 74) 50 rfl (w1.heap.size+1) 3 i3 _ 1 8 underlying50 I3.1 I3.2.1 I3.2.2.1 I3.2.2.2 rfl (by decide) _ _ _ rfl b6 (some ⟨wr.heap.size,0,none⟩) 1 1 [.int .i64 m] rfl rfl ?_ ?_ (by unfold maxLen;omega) (by omega) (by simp;omega) ?_;·intro _;exact⟨_,_,rfl,fun j u hu=>by rw[cN,al.cell (al.new _ _ _)];simpa using hu⟩
  ·intro u hu
   rw[cx.1 hu];rfl
  intro v2 w2 b7 e2 d8;obtain⟨A3,c3,rfl⟩:=aU b7;have e3:aa (fun b=>(F i).ownBlock≠some b) wr w2:=((aa.refl _ wr).alloc _).grown e2 fun g Y=>.inl fun h=>h Y;have b8:=HT.2.2.1.tab.kept e3 (fun e=>by have:=(aD (HT.2.2.1.own i b4) e).1;omega);have R:=b8.cell i;rw[cq b4] at R;have e7:=b8.free i;have n5:=e3.size;have j6:=HT.2.1.kept e3 (fun e=>HT.2.2.2.1 i _ b4 e rfl);have J:=HT.2.2.1.step (R':=dq c i (m+1) b.Ng.flatten) b4 (x:=(m:Int)) (by rw[dh];exact b7) e2 d8 (by rw[dh,dh,qS HT.2.2.2.2]) (fun j hj=>nV hj);have j7:aa All w1 w2:=(HT.1.alloc _).grown e2 fun g Y=>.inr (by have:=(aD b6 Y).1;omega);have j8:=HT.2.1.lt;have d9:=J5 J j7 j6 d8 j8;clear b7 e2 d8 e3 b8 J j7 b6 j6 j8)
 go_roundg (c.Nf.length-(m+1))
 ·refine⟨m+1,qd F i _,by omega,rfl,by go_num,d9.2.1.setCell (p:=⟨w1.heap.size,i,none⟩) (.inr (cf _)) _,by simp;omega,d9.2.2.1.kept ((aa.refl (fun q=>q≠w1.heap.size) _).setCell (p:=⟨w1.heap.size,i,none⟩) (.inl fun h=>h rfl) _) (by have:=l5.out;omega),d9.1,fun k q hk e=>?_⟩;by_cases ek:k=i
  ·subst ek;rw[jd] at e;rcases d9.2.2.2.1 with h|h;·rw[h] at e;exact HT.2.2.2.1 k q hk e
   rw[h] at e;have:=d9.2.2.2.2;simp at e;omega
  rw[li ek] at e;exact HT.2.2.2.1 k q hk e
 omega)
 obtain rfl:m=c.Nf.length:=by omega
 rw[rl HB.1] at C;have HT:=J2 o C;clear o C Y c9;go_wp2_with fail;go_roundg (c.Nf.length-(i+1));·exact⟨i+1,F,by omega,rfl,by go_num,HT.1,e0,HT.2⟩
 omega)
 obtain rfl:i=c.Nf.length:=by omega
 have b9:=rf C (by omega) (fun k _=>by have:=tJ c c.Nf.length k;omega) (fun k _ x hx=>by obtain⟨a,rfl,ha⟩:=tL hx;exact tT (by omega));rw[tI] at b9;have HE:=J2 o b9;clear o b9 C;go_wp2_with fail;exact bodyPost_ret (v:=.tuple #[.slice (some ⟨w1.heap.size,0,none⟩) c.Nf.length c.Nf.length,.int .i64 0]) (by simp[results,Tryz.f5,go_sem]) rfl (.inl ⟨i0.out,_,rfl,Z.1.trans HE.1,aq.wide (fun q hq=>by have:=Z.1.size;omega) HE.2⟩)
theorem vP (S:Nat→Prop)(cv:Value)(c:aE)(w:World)(hc:cQ S w cv c)(hn:c.Nf.length≤256):
 Calls prog 13 #[cv] w (fun e w'=>∃u,e=.returned u∧aa All w w'∧Rows (fun b=>w.heap.size≤b) w' u (cG c)):=by
 obtain⟨i3,c5,c6,c7,c8⟩:=info_parts kt;have I3:=J4 c5 c6 c7 c8;clear c5 c6 c7 c8;obtain⟨ka,kf,rfl,h5,c9,h8⟩:=hc;have d7:=bV.la c9;obtain⟨A1,c1,rfl,m1,m2,m3,_⟩:=h5;obtain⟨A2,c2,rfl,m4,m5,m6,_⟩:=c9;unfold maxLen at m2 m5;obtain⟨R,b1⟩:=eQ (w.alloc (.cells #[.slice A1 c.Nd.length c1,.slice A2 c.Nf.length c2,.int .i64 c.main] 30));have d8:aa All w R:=by rw[b1];exact kR.alloc _
 have bK:al R w.heap.size 30 #[.slice A1 c.Nd.length c1,.slice A2 c.Nf.length c2,.int .i64 c.main]:=by rw[b1];exact al.new _ _ _
 have i7:w.heap.size<R.heap.size:=bK.lt;obtain⟨k0,k1,k2⟩:=bK.c3;have HW:=J4 b1 d8 bK d7;clear b1 d8 bK d7 h8;have h9:=fun w=>qD c.Nf.length (by omega) w;go_enter func13,ntmps13;go_upto_region 1 with fail;rw[←HW.1];go_wp2_with fail;clear k0 k1 k2;go_loopg [4] c.Nf.length (fun gg s wr=>∃(i:Nat) (F:Nat→Value),i≤c.Nf.length∧gg=c.Nf.length-i∧s=.int .i64 i∧aa All R wr∧R.heap.size<wr.heap.size∧ii c.Nf.length (R.heap.size+1) R.heap.size wr F (dq c i 0 []))
 case atStart=>
  refine⟨0,fun _=>.slice none 0 0,by omega,by omega,rfl,kR.alloc _,by simp,al.new _ _ _,by omega,fun k hk=>?_,fun k k' b _ _ _ h=>by cases h⟩;have e:dq c 0 0 [] k=[]:=by unfold dq;rw[ae (by omega)];split<;>rfl
  rw[e];exact⟨rfl,.inl ⟨rfl,rfl⟩⟩
 clear h9;obtain⟨i,F,hi,rfl,rfl,o,b2,C⟩:=hrel;have d9:=HW.2.2.1.kept o trivial;obtain⟨k0,k1,k2⟩:=d9.c3;clear d9;by_cases a8:i<c.Nf.length;·(
 obtain⟨b,hb⟩:=eG a8;obtain⟨gb,go,j4,rfl,_,_,b3,bv,rfl,e6,_,_⟩:=aZ (HW.2.2.2 R HW.2.1) hb;have b6:=bg.la e6;obtain⟨B1,d1,rfl,q1,q2,q3,_⟩:=e6;unfold maxLen at q2;have HF:=oH (show∀wn,aa All R wn→wn.cell? ⟨w.heap.size,0,none⟩=some (.slice A1 c.Nd.length c1)∧wn.cell? ⟨w.heap.size,1,none⟩=some (.slice (some ⟨gb,go,none⟩) c.Nf.length c2)∧wn.cell? ⟨w.heap.size,2,none⟩=some (.int .i64 c.main)∧wn.cell? ⟨gb,go+i*3,none⟩=some (.int .i64 b.params)∧wn.cell? ⟨gb,go+i*3+1,none⟩=some (.int .i64 b.vars)∧wn.cell? ⟨gb,go+i*3+2,none⟩=some (.slice B1 b.Ng.length d1) from fun wn hk=>⟨(HW.2.2.1.kept hk trivial).cell 0,(HW.2.2.1.kept hk trivial).cell 1,(HW.2.2.1.kept hk trivial).cell 2,hk.cell (p:=⟨gb,go+i*3,none⟩) trivial (by have:=b3 0 _ rfl;rw[dj] at this;exact this),hk.cell (p:=⟨gb,go+i*3+1,none⟩) trivial (by have:=b3 1 _ rfl;exact this),hk.cell (p:=⟨gb,go+i*3+2,none⟩) trivial (by have:=b3 2 _ rfl;exact this)⟩);have HB:=J3 hb b6 o;clear hb b6 b3 o;go_wp2_with fail;clear k0 k1 k2;go_loopg [5] c.Nf.length (fun gg s wr=>∃(m:Nat) (F:Nat→Value),m≤c.Nf.length∧gg=c.Nf.length-m∧s=.int .i64 m∧aa All R wr∧R.heap.size<wr.heap.size∧ii c.Nf.length (R.heap.size+1) R.heap.size wr F (dq c i m b.Ng.flatten))
 case atStart=>refine⟨0,F,by omega,by omega,rfl,HB.2.2,b2,?_⟩;rw[zh c i b.Ng.flatten];exact C
 clear b2 C;obtain⟨m,F,hm,rfl,rfl,o,b2,C⟩:=hrel;obtain⟨e0,e1,e2,e3,e4,e5⟩:=HF.out wr o;by_cases j0:m<c.Nf.length;·(
 have HT:=J2 o C;clear o C;obtain⟨w2,rfl⟩:=eQ wr;go_wp2_with fail;clear e0 e1 e2 e3 e4 e5;go_loopg [6,7] b.Ng.length (fun gg s6 s7 wr=>∃k:Nat,k≤b.Ng.length∧gg=b.Ng.length-k∧s7=.int .i64 k∧s6=.bool (ie (fe b.Ng k 0) m)∧aa All w2 wr);·exact⟨0,by omega,by omega,rfl,rfl,kR⟩
 obtain⟨k,hk,rfl,rfl,rfl,o⟩:=hrel;obtain⟨e0,e1,e2,e3,e4,e5⟩:=HF.out wr (HT.1.trans o);by_cases e7:k<b.Ng.length;·(
 obtain⟨l,hl⟩:=eG e7;obtain⟨rb,ro,rv,rfl,_,b8,e8⟩:=bn (HB.2.1 wr (HT.1.trans o)) hl;have e9:=cT.la e8;obtain⟨LA,lc,rfl,l1,l2,l3,_⟩:=e8;unfold maxLen at l2;have HL:=J4 hl e9 o b8;clear hl e9 o b8;obtain⟨w3,rfl⟩:=eQ wr;go_wp2_with fail;clear e0 e1 e2 e3 e4 e5;go_loopg [6,8] l.length (fun gg s6 s8 wr=>∃j:Nat,j≤l.length∧gg=l.length-j∧s8=.int .i64 j∧s6=.bool (ie (fe b.Ng k j) m)∧aa All w3 wr);·exact⟨0,by omega,by omega,rfl,rfl,kR⟩
 obtain⟨j,hj,rfl,rfl,rfl,o⟩:=hrel;obtain⟨e0,e1,e2,e3,e4,e5⟩:=HF.out wr (HT.1.trans (HL.2.2.1.trans o));have b8:=o.cell trivial HL.2.2.2;by_cases h0:j<l.length;·(
 obtain⟨x,hx⟩:=eG h0;obtain⟨xb,xo,j5,rfl,i0,h1,J,xa,xf,rfl,i1,i2,i4⟩:=aZ (HL.2.1 wr o) hx;obtain⟨ua,uc,rfl,_⟩:=i1;obtain⟨va,vc,rfl,_⟩:=i2;have x0:=J 0 _ rfl;have x1:=J 1 _ rfl;have x2:=J 2 _ rfl;have x3:=J 3 _ rfl;have x4:=J 4 _ rfl;have x5:=J 5 _ rfl;have x6:=J 6 _ rfl;have x7:=J 7 _ rfl;have x8:=J 8 _ rfl;rw[dj] at x0;have I:=mt HL.1 hx;have HX:=J2 o I;clear o I J h1 i4 hx i0;obtain⟨w4,rfl⟩:=eQ wr;cases h6:ie (fe b.Ng k j) m;·(
 by_cases h7:x.kind=7;·(
 have t:(x.kind==7)=true:=by rw[cy];exact h7
 by_cases hr:x.ref=(m:Int)
 ·have t2:(x.ref==(m:Int))=true:=by rw[cy];exact hr
  have HV:=oH (show ie (fe b.Ng k (j+1)) m=true by rw[HX.2];exact uK h7 hr);go_wp2_with fail;go_roundg (l.length-(j+1));·exact⟨j+1,by omega,rfl,by go_num,by rw[HV.out],HX.1.alloc _⟩
  omega
 have t2:(x.ref==(m:Int))=false:=by rw[bE];exact hr
 have HV:=oH (show ie (fe b.Ng k (j+1)) m=false by rw[HX.2,mY,px,h6,cI fun h=>hr h.2];rfl);go_wp2_with fail;go_roundg (l.length-(j+1));·exact⟨j+1,by omega,rfl,by go_num,by rw[HV.out],HX.1.alloc _⟩
 omega)
 have t:(x.kind==7)=false:=by rw[bE];exact h7
 have HV:=oH (show ie (fe b.Ng k (j+1)) m=false by rw[HX.2,xR h7];exact h6);go_wp2_with fail;go_roundg (l.length-(j+1));·exact⟨j+1,by omega,rfl,by go_num,by rw[HV.out],HX.1.alloc _⟩
 omega)
 have HV:=oH (show ie (fe b.Ng k (j+1)) m=true by rw[HX.2,mY,h6];rfl);go_wp2_with fail;go_roundg (l.length-(j+1));·exact⟨j+1,by omega,rfl,by go_num,by rw[HV.out],HX.1.alloc _⟩
 omega)
 obtain rfl:j=l.length:=by omega
 rw[qK HL.1];have HX:=oH o;clear o;obtain⟨tb,b9⟩:=eR (ie (fe b.Ng (k+1) 0) m);rw[b9];have i5:=oH b9;clear b9;go_wp2_with fail;go_roundg (b.Ng.length-(k+1));·exact⟨k+1,by omega,rfl,by go_num,by rw[i5.out],HL.2.2.1.trans HX.out⟩
 omega)
 obtain rfl:k=b.Ng.length:=by omega
 rw[qJ];have h2:=re HT.2 o;have HG:=J2 (HT.1.trans o) h2;have j1:=o.size;clear o h2;cases b4:ie b.Ng.flatten m
 ·have c0:=oH b4;clear b4;go_wp2_with fail;go_roundg (c.Nf.length-(m+1))
  ·refine⟨m+1,F,by omega,rfl,by go_num,HG.1,by omega,pS HG.2 fun k=>?_⟩
   by_cases e:k=i;·subst e;rw[dh,dh,sk c0.out]
   exact nV e
  omega
 have Y:=HG.2.tab.cell i;rw[cq a8] at Y;have b0:=HG.2.own i a8;rw[dh] at b0;have j2:=mZ b.Ng.flatten m;have Z:(wr.alloc (.cells #[.int .i64 m] 3)).ownsRow (R.heap.size+1) 3 1 (F i) (dL b.Ng.flatten m).length (aI (dL b.Ng.flatten m)):=be b0 ((aa.refl All wr).alloc _) (fun _ _=>trivial);have c0:=oH b4;clear b4 b0;go_wp2_with (
  at_builtin;refine aR _ rfl (.tmp 83) (.tmp 85) 50 rfl (R.heap.size+1) 3 i3 _ 1 8 underlying50 I3.1 I3.2.1 I3.2.2.1 I3.2.2.2 rfl (by decide) _ _ _ rfl Z (some ⟨wr.heap.size,0,none⟩) 1 1 [.int .i64 m] rfl rfl ?_ ?_ (by unfold maxLen;omega) (by omega) (by simp;omega) ?_;·intro _;exact⟨_,_,rfl,fun j u hu=>by rw[cN,al.cell (al.new _ _ _)];simpa using hu⟩
  ·intro u hu
   rw[cx.1 hu];rfl
  intro v2 w2 a1 b5 b7;obtain⟨A3,c3,rfl⟩:=aU a1;have c4:aa (fun b=>(F i).ownBlock≠some b) wr w2:=((aa.refl _ wr).alloc _).grown b5 fun g hg=>.inl fun h=>h hg;have a6:=HG.2.tab.kept c4 (fun e=>by have:=(aD (HG.2.own i a8) e).1;omega);have Y:=a6.cell i;rw[cq a8] at Y;have i6:=a6.free i;have j3:=c4.size;have I:=HG.2.step (R':=dq c i (m+1) b.Ng.flatten) a8 (x:=(m:Int)) (by rw[dh];exact a1) b5 b7 (by rw[dh,dh,qS c0.out]) (fun j hj=>nV hj);have h3:aa All R w2:=(HG.1.alloc _).grown b5 fun g hg=>.inr (by have:=(aD Z hg).1;omega);have h4:=J2 I h3;clear a1 b5 b7 c4 a6 I h3 Z)
 go_roundg (c.Nf.length-(m+1));·refine⟨m+1,qd F i _,by omega,rfl,by go_num,h4.2.setCell (p:=⟨R.heap.size,i,none⟩) (.inr (cf _)) _,by simp;omega,h4.1⟩
 omega)
 obtain rfl:m=c.Nf.length:=by omega
 rw[rl HB.1] at C;have HT:=J2 o C;clear o C;go_wp2_with fail;go_roundg (c.Nf.length-(i+1));·exact⟨i+1,F,by omega,rfl,by go_num,HT.1,b2,HT.2⟩
 omega)
 obtain rfl:i=c.Nf.length:=by omega
 have a7:=rf C (by omega) (fun k _=>by have:=tJ c c.Nf.length k;omega) (fun k _ x hx=>by obtain⟨a,rfl,ha⟩:=tL hx;exact tT (by omega));rw[tI] at a7;have HE:=J2 o a7;clear o a7 C;go_wp2_with fail;go_ret;exact⟨_,rfl,HW.2.1.trans HE.1,aq.wide (fun q hq=>by omega) HE.2⟩
section
section
variable {ll:List (List Int)}
def lz (ll:List (List Int))(s t:Nat)(n:Nat→Int):Prop:=1≤n s∧∀x,x<ll.length→0≤n x∧(n x=0∨(rt ll s (n x).toNat x∧aQ ll x t))
def rS (ll:List (List Int))(s t r:Nat)(n:Nat→Int):Prop:=∀x m,m≤r+1→rt ll s m x→aQ ll x t→(m:Int)≤n x
def mw (ll:List (List Int))(t:Nat)(n0 n:Nat→Int)(i k:Nat):Prop:=(∀x,n0 x≤n x)∧
 (∀b c,b<i→dH ll b c→aQ ll c t→1≤n0 b→n0 b+1≤n c)∧∀row,ll[i]? =some row→∀c:Nat,(c:Int)∈row.take k→aQ ll c t→1≤n0 i→n0 i+1≤n c
theorem lz.bound {s t:Nat}{n:Nat→Int}(h:lz ll s t n)(l:mN ll)(o:s<ll.length)(C:¬mD ll s t){x:Nat}(I:x<ll.length):0≤n x∧n x≤ll.length:=by
 obtain⟨J,j⟩:=h.2 x I;refine⟨J,?_⟩;rcases j with j|⟨j,R⟩;·omega
 have:=tS l o j fun k=>C (k.on R);omega
theorem lz.start {s t:Nat}(h:aQ ll s t):lz ll s t (lu (fun _=>0) s 1):=by
 refine⟨by rw[fM];decide,fun x _=>?_⟩;by_cases e:x=s;·subst e;rw[fM];exact⟨by decide,.inr ⟨.one,h⟩⟩
 rw[jS e];exact⟨by decide,.inl rfl⟩
theorem rS.start {s t:Nat}:rS ll s t 0 (lu (fun _=>0) s 1):=by
 intro x m hm hw _;have:=hw.pos;obtain rfl:m=1:=by omega
 cases hw with
 |one=>rw[fM];decide
 |step h _=>have:=h.pos;omega
theorem lz.upd {s t i j:Nat}{n:Nat→Int}(h:lz ll s t n)(hi:i<ll.length)(e:dH ll i j)(C:aQ ll j t)(R:0<n i)(I:n j<n i+1):lz ll s t (lu n j (n i+1)):=by
 refine⟨?_,fun x J=>?_⟩
 ·by_cases l:s=j
  ·subst l;rw[fM];omega
  rw[jS l];exact h.1
 by_cases l:x=j
 ·subst l;rw[fM];refine⟨by omega,.inr ⟨?_,C⟩⟩;rcases (h.2 i hi).2 with o|⟨o,_⟩;·omega
  have:=rt.step o e;rwa [show(n i+1).toNat=(n i).toNat+1 by omega]
 rw[jS l];exact h.2 x J
theorem mw.start {t:Nat}{n:Nat→Int}:mw ll t n n 0 0:=⟨fun x=>Int.le_refl _,fun b c h=>by omega,fun row _ c h=>by simp at h⟩
theorem mw.more {t i k j:Nat}{J n Y:Nat→Int}{row:List Int}(h:mw ll t J n i k)(Z:ll[i]? =some row)(hk:row[k]? =some (j:Int))(l:∀x,n x≤Y x)(hj:aQ ll j t→1≤J i→J i+1≤Y j):mw ll t J Y i (k+1):=by
 obtain⟨h1,h2,h3⟩:=h;refine⟨fun x=>Int.le_trans (h1 x) (l x),fun b c hb e o R=>Int.le_trans (h2 b c hb e o R) (l c),fun a1 C c o I R=>?_⟩;rw[Z] at C;cases C;rw[cU,hk] at o;rcases eD.1 o with o|o;·exact Int.le_trans (h3 row Z c o I R) (l c)
 obtain rfl:c=j:=by have:(c:Int)=j:=by simpa using o
                    omega
 exact hj I R
theorem mw.next {t i k:Nat}{J n:Nat→Int}{row:List Int}(h:mw ll t J n i k)(R:ll[i]? =some row)(o:row.length≤k∨n i≤0):mw ll t J n (i+1) 0:=by
 obtain⟨Y,h2,h3⟩:=h;refine⟨Y,fun b c hb e C Z=>?_,fun j _ c C=>by simp at C⟩;by_cases I:b=i
 ·subst I;rcases o with o|o
  ·obtain⟨j,l,hm⟩:=e
   rw[R] at l;cases l;exact h3 row R c (by rw[oF o];exact hm) C Z
  have:=Y b;omega
 exact h2 b c (by omega) e C Z
theorem mw.done {s t r:Nat}{j n:Nat→Int}(h:mw ll t j n ll.length 0)(I:lz ll s t j)(J:rS ll s t r j):rS ll s t (r+1) n:=by
 intro x m hm hw o;cases hw with
 |one=>have:=I.1;have:=h.1 s;omega
 | @step R b _ hw e=>
   have Y:=J b R (by omega) hw (.head e o);have:=hw.pos;have l:b<ll.length:=by(
 obtain⟨row,C,_⟩:=e;rcases Nat.lt_or_ge b ll.length with h|h;·exact h
 rw[jz h] at C;cases C)
   have:=h.2.1 b x l e o (by omega);omega
theorem AA {s t:Nat}{n:Nat→Int}(C:mN ll)(I:s<ll.length)(J:¬mD ll s t)(l:aQ ll s t)(h:lz ll s t n)(Y:rS ll s t ll.length n):n t=gy ll s t:=by
 refine(nh ⟨fun x=>absurd x J,fun x=>absurd l x,fun _ _=>?_⟩).symm;obtain⟨m,hm⟩:=By l;have j:=fun m hm=>Y t m (by have:=tS C I hm J;omega) hm .refl;have:=j m hm;have:=hm.pos;rcases (h.2 t (gO C I l)).2 with R|⟨R,_⟩;·omega
 exact⟨(n t).toNat,by omega,R,fun Z o=>by have:=j Z o;omega⟩
end
end
end Go.Proofs.YtceloincoomjeaaGreatDoor
