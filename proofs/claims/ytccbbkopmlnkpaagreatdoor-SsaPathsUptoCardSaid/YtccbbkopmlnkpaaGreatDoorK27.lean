/- Part 28 of the proof (its last part says what is proved). No condition. -/
import Derived.Test.YtccbbkopmlnkpaaGreatDoorK26
namespace Go.Proofs.YtccbbkopmlnkpaaGreatDoor
set_option maxRecDepth 100000
set_option maxHeartbeats 8000000
open Go.RowKit Go.Proofs.Tryz
section
theorem uh {P:Program}{a:Act}{w:World}{Q:Exit→Act→World→Prop}{c rest:Code}(l:Nat)(J:Nat→Act→World→Prop)(Y:findLabel c l=some (Code.skip.seq rest))
 (pass:∀m a w,J m a w→rest.wp P (Exit.jump l (fun o C=>∃j,j<m∧J j o C) Q) a w)
 (first:(∀m a w,J m a w→rest.wp P (Exit.jump l (fun o C=>∃j,J j o C) Q) a w)→c.wp P (Exit.jump l (fun o C=>∃j,J j o C) Q) a w):(Code.scope c).wp P Q a w:=by
 refine wp_scope_jumps l (fun o C=>∃j,J j o C) (fun o C=>Go.leastOf fun m=>J m o C) Y (first fun m a w I=>wp_mono (pass m a w I) ?_) ?_;·(
 intro e o C h;cases e with
 |goto l'=>exact⟨h.1,let⟨j,_,hm⟩:=h.2;⟨j,hm⟩⟩
 |normal=>exact h
 |exit id=>exact h
 |ret=>exact h
 |panic ch=>exact h
 |outgrown=>exact h)
 rintro a w I;obtain⟨h1,h2⟩:=Go.leastOf_spec (p:=fun m=>J m a w) I;refine wp_seq (wp_skip (wp_mono (pass _ a w h1) ?_));intro e o C h;cases e with
 |goto l'=>obtain⟨h3,j,hm,R⟩:=h;refine⟨h3,⟨j,R⟩,?_⟩;have:=(Go.leastOf_spec (p:=fun m=>J m o C) ⟨j,R⟩).2 j R;show Go.leastOf _<Go.leastOf _;omega
 |normal=>exact h
 |exit id=>exact h
 |ret=>exact h
 |panic ch=>exact h
 |outgrown=>exact h
theorem Iu (T:Array Value)(n:Nat)(h:T.size=n):T=((List.range n).map fun i=>T.getD i undef).toArray:=by
 apply Array.ext_getElem?;intro i;by_cases hi:i<n;·simp[hi,h]
 rw[gT (by omega),gT (by simp;omega)]
def jG (ord:List Nat)(i k:Nat):Int:=if ord.idxOf k<i then ord.idxOf k else 0
theorem Gw {ll:List (List Int)}{ord:List Nat}(O:Cq ll ord){j:Nat}(C:j<ll.length):ord[ord.idxOf j]? =some j:=by
 have I:=O.op.lt j C;have o:ord.idxOf j<ord.length:=by rw[O.len];exact I
 rw[lG o,List.getElem_idxOf]
theorem DI {ll:List (List Int)}{ord:List Nat}(O:Cq ll ord){i k:Nat}(h:ord[i]? =some k):jG ord (i+1) k=i:=by unfold jG;rw[O.at' i k h,am (by omega)]
theorem DJ {ll:List (List Int)}{ord:List Nat}(O:Cq ll ord){i k j:Nat}(h:ord[i]? =some k)(I:j<ll.length)(o:j≠k):jG ord (i+1) j=jG ord i j:=by
 have:ord.idxOf j≠i:=fun e=>by have:=Gw O I;rw[e,h] at this;exact o (mB this).symm
 unfold jG;by_cases C:ord.idxOf j<i;·rw[am (by omega),am C]
 rw[ah (by omega),ah C]
theorem Aq {ll:List (List Int)}{ord:List Nat}(O:Cq ll ord){k:Nat}(j:k<ll.length):jG ord ll.length k=ord.idxOf k:=by unfold jG;rw[am (O.op.lt k j)]
theorem BP {n:Nat}{pl:Nat→Nat}{t:Nat→Int}(G:eU n pl t)(C:n≤256){j:Nat}(o:j<n):(Lit.int .i64 (t j)).wf=true:=by
 by_cases h:0≤t j
 ·obtain⟨p,e,I,_⟩:=G.low j o h
  rw[e];exact Bh (by omega)
 have:=G.neg j o;rw[show t j= -1 by omega];decide
open Classical in
noncomputable def vD (ll:List (List Int))(k:Nat):List Nat:=(List.range ll.length).filter fun a=>decide (fd ll a k)
theorem GL (ll:List (List Int))(k:Nat):cj ll ll.length k=(vD ll k).map fun(n:Nat)=>(n:Int):=rfl
open Classical in
theorem DM {ll:List (List Int)}{k p:Nat}:p∈vD ll k↔fd ll p k:=by unfold vD;rw[List.mem_filter,dW,eq];exact⟨fun h=>h.2,fun h=>⟨mC h,h⟩⟩
open Classical in
theorem DL (ll:List (List Int))(k:Nat):(vD ll k).length≤ll.length:=by unfold vD;have:=List.length_filter_le (fun a=>decide (fd ll a k)) (List.range ll.length);rwa [List.length_range] at this
def JX (ll:List (List Int))(V0:Value)(w0:World)(m:Nat)(a:Act)(w:World):Prop:=
 ∃(ord:List Nat) (pl:Nat→Nat) (t:Nat→Int) (pb tb g h:Nat) (V5 V6:Value),m=wQ pl ll.length t ll.length∧zt (fd ll) ll.length pl∧(ord.length=ll.length∧∀(m:Nat) x,ord[m]? =some x→pl x=m∧x<ll.length)∧rW (fd ll) ll.length pl t∧
  (a.defers=[]∧a.tmps.size=110∧a.tmps.getD 0 undef=V0∧a.tmps.getD 5 undef=V5∧a.tmps.getD 6 undef=V6∧a.tmps.getD 7 undef=.pointer (some ⟨pb,0,none⟩)∧a.tmps.getD 10 undef=.pointer (some ⟨tb,0,none⟩)∧a.tmps.getD 12 undef=.func (.func 62) #[] #[.pointer (some ⟨pb,0,none⟩),.pointer (some ⟨tb,0,none⟩)])∧
  aa All w0 w∧bu (fun b=>b≠h) w V5 (ord.map fun(n:Nat)=>(n:Int))∧Rows (fun b=>b≠h) w V6 (fF ll)∧qU ll.length pl t pb tb g h w∧w0.heap.size≤h∧pb≠h∧tb≠h∧g≠h
theorem Eh {ll:List (List Int)}{R:Value}{I:World}{m:Nat}{a:Act}{w:World}(h:JX ll R I m a w):
 ∃(f:Nat→Value) (ord:List Nat) (pl:Nat→Nat) (t:Nat→Int) (pb j g h:Nat) (o C:Value),m=wQ pl ll.length t ll.length∧zt (fd ll) ll.length pl∧(ord.length=ll.length∧∀(m:Nat) x,ord[m]? =some x→pl x=m∧x<ll.length)∧rW (fd ll) ll.length pl t∧
 a= {tmps:=#[R,f 1,f 2,f 3,f 4,o,C,.pointer (some ⟨pb,0,none⟩),f 8,f 9,.pointer (some ⟨j,0,none⟩),f 11,.func (.func 62) #[] #[.pointer (some ⟨pb,0,none⟩),.pointer (some ⟨j,0,none⟩)],f 13,f 14,f 15,f 16,f 17,f 18,f 19,f 20,f 21,f 22,f 23,f 24,f 25,f 26,f 27,f 28,f 29,f 30,f 31,f 32,f 33,f 34,f 35,f 36,f 37,f 38,f 39,f 40,f 41,f 42,f 43,f 44,f 45,f 46,f 47,f 48,f 49,f 50,f 51,f 52,f 53,f 54,f 55,f 56,f 57,f 58,f 59,f 60,f 61,f 62,f 63,f 64,f 65,f 66,f 67,f 68,f 69,f 70,f 71,f 72,f 73,f 74,f 75,f 76,f 77,f 78,f 79,f 80,f 81,f 82,f 83,f 84,f 85,f 86,f 87,f 88,f 89,f 90,f 91,f 92,f 93,f 94,f 95,f 96,f 97,f 98,f 99,f 100,f 101,f 102,f 103,f 104,f 105,f 106,f 107,f 108,f 109],defers:=[]}∧
 aa All I w∧bu (fun b=>b≠h) w o (ord.map fun(n:Nat)=>(n:Int))∧Rows (fun b=>b≠h) w C (fF ll)∧qU ll.length pl t pb j g h w∧I.heap.size≤h∧pb≠h∧j≠h∧g≠h:=by
 obtain⟨ord,pl,t,pb,j,g,h,o,C,h1,h2,J,h3,⟨d1,d2,d30,d35,d36,d37,d310,d312⟩,h4⟩:=h;obtain⟨T,D⟩:=a;simp only at d1 d2 d30 d35 d36 d37 d310 d312;have Y:=Iu T 110 d2;generalize hf:(fun i=>T.getD i undef)=f at Y;have hg:∀i,T.getD i undef=f i:=fun i=>by rw[←hf]
 rw[hg] at d30 d35 d36 d37 d310 d312;refine⟨f,ord,pl,t,pb,j,g,h,o,C,h1,h2,J,h3,?_,h4⟩;rw[d1,Y,←d312,←d310,←d37,←d36,←d35,←d30];rfl
theorem Hj (S:Nat→Prop)(v:Value)(ll:List (List Int))(w:World)(hv:Rows S w v ll)(hR:bV ll)(hL:∀k,k<ll.length→bm ll 0 k):
 Calls prog 34 #[v] w fun e w'=>∃u t pl,e=.returned u∧aa All w w'∧bu (fun b=>w.heap.size≤b) w' u (ls ll.length t)∧mg ll t pl:=by
 have b0:=fun w1 (R:aa All w w1)=>ib S v ll w1 (aE.keep R.all hv);rw[be hR] at b0;have c9:∀w1,aa All w w1→Calls prog 16 #[v] w1 fun e w'=>e=.returned (.tuple #[.int .i64 0,.bool false])∧aa All w1 w':=fun w1 R=>by refine(sQ S v ll w1 (aE.keep R.all hv) hR).mono ?_;rw[gh fun k R h=>h.2 (hL k R)];exact fun e w' h=>h
 have h4:=fun w1 (R:aa All w w1)=>zT S v ll w1 (aE.keep R.all hv) hR hL;have d7:=fun w1 (R:aa All w w1)=>pt S v ll w1 (aE.keep R.all hv) hR;obtain⟨a,cap,rfl,h1,h2,k4,h⟩:=hv;have hl:ll.length≤256:=hR.2.1;have l0:1≤ll.length:=hR.1;have HR:=J5 c9 b0 h4 d7 hR;clear h h1 h2 k4 b0 c9 h4 d7 hR hL;have k5:=fun w=>Jr ll.length (by omega) w;go_enter func34,ntmps34;go_wp2;refine uh 0 (JX ll (.slice a ll.length cap) w) rfl ?pass ?first
 case first=>(
 intro HP;have HP:=oH HP;go_wp2_with fail;refine(HR.1 _ kR).mono ?_;rintro e w1 ⟨rfl,i7⟩;have j0:=oH i7;clear i7;go_wp2_with fail;refine(HR.2.1 _ j0.out).mono ?_;rintro e w2 ⟨rfl,j1⟩;have j2:=oH (j0.out.trans j1);clear j1;go_wp2_with fail;refine(HR.2.2.1 _ j2.out).mono ?_;rintro e w3 ⟨u,ord,rfl,j3,h8,hO⟩;have HO:=J3 (j2.out.trans j3) (jZ h8) hO;have d8:(ord.map Int.ofNat).length=ll.length:=by rw[aZ,hO.len]
 have c4:=ae.la h8;obtain⟨oa,oc,rfl,o1,o2,o3,_⟩:=h8;rw[d8] at o1 o3 c4 HO⊢;have HV:=oH c4;clear j3 hO c4;go_wp2_with fail;refine(HR.2.2.2.1 _ HO.1).mono ?_;rintro e w4 ⟨ub,rfl,h9,j4⟩;have HB:=J3 (HO.1.trans h9) h9 (lW j4);clear h9 j4;go_wp2_with fail;go_loopg [39] ll.length (fun gg x wr=>∃i:Nat,i≤ll.length∧gg=ll.length-i∧x=.int .i64 i∧aa All w4 wr∧w4.heap.size+1<wr.heap.size∧al wr w4.heap.size 3 (bH ll.length (jG ord i))∧al wr (w4.heap.size+1) 38 #[.slice (some ⟨w4.heap.size,0,none⟩) ll.length ll.length]);·exact⟨0,by omega,by omega,rfl,(kR.alloc _).alloc _,by simp,(al.new _ _ _).alloc _,ac (by simp)⟩
 obtain⟨i,hi,rfl,rfl,J,k6,C,a7⟩:=hrel;have c1:=a7.cell 0;simp only[gc] at c1;by_cases d9:i<ll.length
 ·obtain⟨k,R⟩:∃k,ord[i]? =some k:=⟨_,lG (by rw[HO.2.2.len];exact d9)⟩;obtain⟨b5,o5,v5,rfl,_,i1,rfl,_⟩:=de (i:=i) (x:=(k:Int)) (HV.out wr (HB.2.1.trans J)) (by rw[cy,R];rfl);have b2:=HO.2.2.lt k (mG R);have c2:=C.cell k;have f2:=C.free k;rw[cx b2] at c2;have Y:(bH ll.length (jG ord i)).setIfInBounds k (.int .i64 i)=bH ll.length (jG ord (i+1)):=oN (DI HO.2.2 R) fun j hj b7=>DJ HO.2.2 R hj b7;have HX:=J4 J C a7 Y;clear J C a7 Y R;go_wp2_with fail;go_roundg (ll.length-(i+1));·exact⟨i+1,by omega,rfl,by go_num,HX.1.setCell (.inr (bj _)) _,by simpa using k6,by rw[←HX.2.2.2];exact HX.2.1.set _ _,HX.2.2.1.far (by simp) _⟩
  omega
 obtain rfl:i=ll.length:=by omega
 have HX:=J3 J C a7;clear J C a7;obtain⟨w5,rfl⟩:=eQ wr;go_wp2_with fail;go_loopg [54] ll.length (fun gg x wr=>∃i:Nat,i≤ll.length∧gg=ll.length-i∧x=.int .i64 i∧aa All w5 wr∧w5.heap.size+1<wr.heap.size∧al wr w5.heap.size 3 (bH ll.length (fun k=>if k<i then-1 else 0))∧al wr (w5.heap.size+1) 38 #[.slice (some ⟨w5.heap.size,0,none⟩) ll.length ll.length]);·exact⟨0,by omega,by omega,rfl,(kR.alloc _).alloc _,by simp,(al.new _ _ _).alloc _,ac (by simp)⟩
 obtain⟨i,hi,rfl,rfl,J,j5,C,a7⟩:=hrel;have c1:=a7.cell 0;simp only[gc] at c1;by_cases d9:i<ll.length
 ·have c2:=C.cell i;have f2:=C.free i;rw[cx d9] at c2;have Y:(bH ll.length (fun k=>if k<i then-1 else 0)).setIfInBounds i (.int .i64 (-1))=bH ll.length (fun k=>if k<i+1 then-1 else 0):=oN (am (by omega)) fun j hj b7=>by
   by_cases h:j<i;·rw[am h,am (by omega)]
   rw[ah h,ah (by omega)]
  have HY:=J4 J C a7 Y;clear J C a7 Y;go_wp2_with fail;go_roundg (ll.length-(i+1));·exact⟨i+1,by omega,rfl,by go_num,HY.1.setCell (.inr (bj _)) _,by simpa using j5,by rw[←HY.2.2.2];exact HY.2.1.set _ _,HY.2.2.1.far (by simp) _⟩
  omega
 obtain rfl:i=ll.length:=by omega
 have HY:=J3 J C a7;clear J C a7;go_wp2_with fail
 go_step3
 rename_i hK;refine hK _ _ (HP.out (wQ (fun x=>ord.idxOf x) ll.length (fun _=> -1) ll.length) _ _ ?_);have O:=HO.2.2;have e1:bH ll.length (jG ord ll.length)=bH ll.length (fun x=>(ord.idxOf x:Int)):=fh fun k R=>Aq O R;have e2:bH ll.length (fun k=>if k<ll.length then-1 else 0)=bH ll.length (fun _=>(-1:Int)):=fh fun k R=>am R;have b1:=HX.2.1;have b3:=HY.2.1;rw[e1] at b1;rw[e2] at b3;have s4:=HX.1.size;have s3:=HB.2.1.size;have s0:=HO.1.size
 refine⟨ord,fun x=>ord.idxOf x,fun _=> -1,w4.heap.size+1,w5.heap.size+1,w4.heap.size,w5.heap.size,_,_,rfl,O.op,⟨O.len,fun m x hx=>⟨O.at' m x hx,O.lt x (mG hx)⟩⟩,Jk O.op fun _ _=>rfl,⟨rfl,rfl,rfl,rfl,rfl,rfl,rfl,rfl⟩,
  (HB.1.trans HX.1).trans HY.1,?_,?_,⟨HX.2.2.kept HY.1 trivial,HY.2.2,b1.kept HY.1 trivial,b3⟩,by omega,by omega,by omega,by omega⟩
 ·exact ae.wide (fun b hb=>by have:b<w3.heap.size:=hb;omega) (ae.keep ((HB.2.1.trans HX.1).trans HY.1).all HO.2.1)
 exact aE.wide (fun b hb=>by have:b<w4.heap.size:=hb;omega) (aE.keep (HX.1.trans HY.1).all HB.2.2))
 clear k5;intro m aj wj hJ;obtain⟨f,ord,pl,t,pb,tb,pn,tn,V5,V6,rfl,O,⟨d8,OA⟩,K,rfl,e0,c4,j6,hT,hh,n1,n2,n3⟩:=Eh hJ;clear hJ;have c3:=fun wn (R:aa (fun b=>b≠tn) wj wn)=>ae.keep R c4;have e3:=fun wn (R:aa (fun b=>b≠tn) wj wn)=>aE.keep R j6;have h5:(ord.map fun(n:Nat)=>(n:Int)).length=ll.length:=by rw[aZ,d8]
 obtain⟨k0,h6⟩:∃k0,ord[0]? =some k0:=⟨_,lG (by omega)⟩;obtain⟨oa,oc,rfl,o1,o2,o3,_⟩:=c4;rw[h5] at o1 o3 c3⊢;obtain⟨ob,oo,vv,rfl,_⟩:=de (i:=0) (x:=(k0:Int)) (c3 wj kR) (by rw[cy,h6];rfl);obtain⟨ba,bc,rfl,p1,p2,p3,_⟩:=j6;rw[eJ] at p1 p3 e3⊢;unfold maxLen at o2 p2;have o:=J8 O OA K e0 c3 e3 hT d8;clear O OA K e0 c3 e3 h5 hT d8 h6;go_wp2_with fail;·(
 subst h;have l1:ll.length≤1:=o1;go_loopg [13,65] (ll.length-1) (fun gg ch x wr=>∃(m:Nat) (b:Bool) (u:Nat→Int),m≤ll.length-1∧gg=ll.length-1-m∧x=.int .i64 m∧ch=.bool b∧fU (fd ll) ll.length pl t u (m+1)∧eU ll.length pl u∧(b=false→u=t)∧(b=true→∃j,j<ll.length∧u j≠t j)∧aa (fun b=>b≠tn) wj wr∧qU ll.length pl u pb tb pn tn wr)
 case atStart=>refine⟨0,false,t,by omega,by omega,rfl,rfl,Gy t 1 fun k R h0=>?_,o.2.2.1.1.good,fun _=>rfl,(fun h=>by cases h),kR,o.2.2.2.2.2.2.1⟩;have e1:pl k≠pl 0:=fun e=>h0 (o.1.inj _ _ R o.1.pos e);have e2:=o.1.zero;omega
 obtain⟨m,b,u,hm,rfl,rfl,rfl,hP,hG,b8,C,J,hT⟩:=hrel;by_cases d9:m<ll.length-1;·exfalso;omega
 obtain rfl:m=ll.length-1:=by omega
 rw[show ll.length-1+1=ll.length by omega] at hP;have i6:=hT.tp.cell 0;simp only[gc] at i6;have I:=J6 hP hG b8 C J hT;clear hP hG b8 C J hT;cases b with
 |true=>
  go_wp2_with fail
  go_step3
  refine⟨rfl,_,((GH o.1 o.2.2.1 I.2.1 I.1 _ (bj _)).2 (I.2.2.2.1 (by simp))),ord,pl,u,pb,tb,pn,tn,_,_,rfl,o.1,⟨o.2.2.2.2.2.2.2,o.2.1⟩,sG o.1 o.2.2.1 I.2.1 I.1,⟨rfl,rfl,rfl,rfl,rfl,rfl,rfl,rfl⟩,
   aq (o.2.2.2.1.all.trans (I.2.2.2.2.1.mono fun b (hb:b<w.heap.size)=>by show b≠tn;omega)),o.2.2.2.2.1 _ I.2.2.2.2.1,o.2.2.2.2.2.1 _ I.2.2.2.2.1,I.2.2.2.2.2,hh,n1,n2,n3⟩
 |false=>go_wp2_with fail;simp only[Exit.jump];go_ret;obtain rfl:u=t:=I.2.2.1 (by simp);have G:=I.2.1;have O:=o.1;refine⟨_,u,pl,rfl,aq (o.2.2.2.1.all.trans (I.2.2.2.2.1.mono fun b (hb:b<w.heap.size)=>by show b≠tn;omega)),yl I.2.2.2.2.2.tn (by omega) (by omega) (fun i hi=>BP G hl hi),⟨O,G,fun j hj=>iw I.1 j hj (O.lt j hj),fun j hj x=>BG O o.2.2.1 I.1 hj⟩⟩)
 skip;go_loopg [13,65] (ll.length-1) (fun gg ch x wr=>∃(m:Nat) (b:Bool) (u:Nat→Int),m≤ll.length-1∧gg=ll.length-1-m∧x=.int .i64 m∧ch=.bool b∧fU (fd ll) ll.length pl t u (m+1)∧eU ll.length pl u∧(b=false→u=t)∧(b=true→∃j,j<ll.length∧u j≠t j)∧aa (fun b=>b≠tn) wj wr∧qU ll.length pl u pb tb pn tn wr)
 case atStart=>refine⟨0,false,t,by omega,by omega,rfl,rfl,Gy t 1 fun k R h0=>?_,o.2.2.1.1.good,fun _=>rfl,(fun h=>by cases h),kR,o.2.2.2.2.2.2.1⟩;have e1:pl k≠pl 0:=fun e=>h0 (o.1.inj _ _ R o.1.pos e);have e2:=o.1.zero;omega
 obtain⟨m,b,u,hm,rfl,rfl,rfl,hP,hG,b8,C,J,hT⟩:=hrel;by_cases d9:m<ll.length-1;·(
 obtain⟨k,R⟩:∃k,ord[m+1]? =some k:=⟨_,lG (by rw[o.2.2.2.2.2.2.2];omega)⟩;obtain⟨c5,b2⟩:=o.2.1 _ k R;have e0:k≠0:=fun e=>by subst e;have:=o.1.zero;omega
 obtain⟨b5,o5,v5,k7,_,i1,rfl,_⟩:=de (i:=m+1) (x:=(k:Int)) (o.2.2.2.2.1 wr J) (by rw[cy,R];rfl);cases k7;rw[show oo+(m+1)=oo+1+m by omega] at i1;obtain⟨q,hq⟩:=eR (vD ll k);have j7:∀p,p∈q↔fd ll p k:=fun p=>by rw[←hq];exact DM
 have l2:q.length≤256:=by rw[←hq];exact dA (DL ll k) hl
 obtain⟨rb,ro,rv,rfl,_,j8,j9⟩:=de (x:=q.map fun(n:Nat)=>(n:Int)) (o.2.2.2.2.2.1 wr J) (by rw[mD b2,GL,hq]);have e4:=ae.la j9;obtain⟨qa,qc,rfl,q1,q2,q3,_⟩:=j9;rw[aZ] at q1 q3 e4 j8;have k1:=fun wn (R:aa All wr wn)=>hT.keep R trivial trivial trivial trivial;have HN:=J10 hP hG b8 C J k1 j7 e4 c5 e0;clear hP hG b8 C J hT k1 j7 e4 R hq c5 e0;obtain⟨wo,rfl⟩:=eQ wr;go_wp2_with fail;go_loopg [16,74] q.length (fun gg nr x wr=>∃(j:Nat) (v:Int),j≤q.length∧gg=q.length-j∧x=.int .i64 j∧nr=.int .i64 v∧kL u (q.take j) v∧aa All wo wr);·exact⟨0,-1,by omega,by omega,rfl,rfl,by rw[List.take_zero];exact Dq u,kR⟩
 clear i1 j8;obtain⟨j,v,hj,rfl,rfl,rfl,hN,a8⟩:=hrel;have T:=HN.2.2.2.2.2.1 _ a8;have c0:=T.tp.cell 0;simp only[gc] at c0;by_cases k2:j<q.length;·(
 obtain⟨p,hp⟩:=eG k2;have e5:q.take (j+1)=q.take j++[p]:=by rw[dT,hp];rfl
 obtain⟨b6,o6,v6,rfl,_,l3,rfl,_⟩:=de (i:=j) (x:=(p:Int)) (HN.2.2.2.2.2.2.2.1 _ a8) (by rw[cy,hp];rfl);have k3:=mC ((HN.2.2.2.2.2.2.1 p).1 (mG hp));have e6:=fun c (hN:kL u (q.take j) (c:Nat))=>Ai HN.2.1 (fun p hp=>mC ((HN.2.2.2.2.2.2.1 p).1 (List.mem_of_mem_take hp))) hN;have c1:=T.tn.cell p;rw[cx k3] at c1;clear hp;by_cases a1:me u p;·(
 have hw:=fun(y:Int) (hy:u p=y) (c:Nat) (hN:kL u (q.take j) c)=>Gh ll.length pl u pb tb pn tn c p wr hl HN.2.1 o.1.zero o.1.inj o.1.lt (e6 c hN).1 k3 (e6 c hN).2 a1 T;have b4:p=0∨0≤u p:=a1;obtain⟨y,hy⟩:=eR (u p);rw[hy] at c1 b4;have HP:=J5 a8 e5 hN a1 (hw y hy);rcases Dp hN with rfl|⟨c,rfl⟩;·(
 clear a8 e5 hN a1 hw e6 T hy;by_cases a6:p=0
 ·have t0:((p:Int) !=0)=false:=by rw[ru];omega
  clear a6 b4;go_wp2_with fail;go_roundg (q.length-(j+1));·exact⟨j+1,p,by omega,rfl,by go_num,rfl,by rw[HP.2.1];exact ri HP.2.2.1 (by decide) HP.2.2.2.1,HP.1⟩
  omega
 have t0:((p:Int) !=0)=true:=by rw[bne_iff_ne];omega
 have c6:¬y<0:=by omega
 have ty:decide (y<0)=false:=by simpa using c6
 clear a6 b4;go_wp2_with fail;go_roundg (q.length-(j+1));·exact⟨j+1,p,by omega,rfl,by go_num,rfl,by rw[HP.2.1];exact ri HP.2.2.1 (by decide) HP.2.2.2.1,HP.1⟩
 omega)
 have hm:=HP.2.2.2.2 c hN;have HM:=oH hm;have tc:decide ((c:Int)<0)=false:=by simp
 clear a8 e5 hN a1 hw e6 T hy hm;by_cases a6:p=0
 ·have t0:((p:Int) !=0)=false:=by rw[ru];omega
  clear a6 b4;go_wp2_with fail;refine HM.out.mono ?_;rintro e w8 ⟨mm,rfl,k8,e7,e8⟩;have e9:=J2 e7 e8;clear e7 e8;go_wp2_with fail;go_roundg (q.length-(j+1));·exact⟨j+1,mm,by omega,rfl,by go_num,rfl,by rw[HP.2.1];exact sU HP.2.2.1 HP.2.2.2.1 e9.1,HP.1.trans e9.2⟩
  omega
 have t0:((p:Int) !=0)=true:=by rw[bne_iff_ne];omega
 have c6:¬y<0:=by omega
 have ty:decide (y<0)=false:=by simpa using c6
 clear a6 b4;go_wp2_with fail;refine HM.out.mono ?_;rintro e w8 ⟨mm,rfl,k8,e7,e8⟩;have e9:=J2 e7 e8;clear e7 e8;go_wp2_with fail;go_roundg (q.length-(j+1));·exact⟨j+1,mm,by omega,rfl,by go_num,rfl,by rw[HP.2.1];exact sU HP.2.2.1 HP.2.2.2.1 e9.1,HP.1.trans e9.2⟩
 omega)
 have a6:p≠0:=fun e=>a1 (.inl e);have c6:u p<0:=by refine Classical.byContradiction fun h=>a1 (.inr (by omega))
 obtain⟨y,hy⟩:=eR (u p);rw[hy] at c1 c6;have t0:((p:Int) !=0)=true:=by rw[bne_iff_ne];omega
 have ty:decide (y<0)=true:=by simpa using c6
 have HP:=J4 a8 e5 hN a1;clear a8 e5 hN a1 e6 T hy a6;go_wp2_with fail;go_roundg (q.length-(j+1));·exact⟨j+1,v,by omega,rfl,by go_num,rfl,by rw[HP.2.1];exact Aj HP.2.2.1 HP.2.2.2,HP.1⟩
 omega)
 obtain rfl:j=q.length:=by omega
 rw[jx] at hN;obtain⟨p0,a6,h7⟩:=o.1.fwd k b2 HN.2.2.2.2.2.2.2.2.2;have c5:=HN.2.2.2.2.2.2.2.2.1;have a1:=iw HN.1 p0 (mC a6) (by omega);have b9:=Do hN HN.2.2.2.2.2.2.1 ⟨p0,a6,a1⟩;obtain⟨h3,c,rfl,l4,k9⟩:=CW o.1 HN.2.1 b2 HN.2.2.2.2.2.2.2.2.2 ⟨p0,a6,h7,a1⟩ b9;have c7:=DD o.1 (by rw[c5];exact HN.1) b2 b9;rw[c5] at c7;have c1:=T.tn.cell k;have f1:=T.tn.free k;rw[cx b2] at c1;have hold:=HN.1.old k (by omega);obtain⟨y,hy⟩:=eR (u k);rw[hy] at c1 hold;have Y:(bH ll.length u).setIfInBounds k (.int .i64 c)=bH ll.length (fun j=>if j=k then(c:Int) else u j):=oN (am rfl) fun j _ b7=>ah b7;clear hN a1 b9 a6 h7 c5 k9;by_cases c8:y=c;·(
 have ty:(y !=(c:Int))=false:=by rw[ru];exact c8
 have hu:(fun j=>if j=k then(c:Int) else u j)=u:=by
  funext j;by_cases e:j=k;·subst e;rw[am rfl,hy,c8]
  rw[ah e]
 rw[hu] at h3 c7;have I:=J4 h3 c7 a8 T;clear h3 c7 a8 T Y hu hold c8 hy;go_wp2_with fail;go_roundg (ll.length-1-(m+1));·exact⟨m+1,b,u,by omega,rfl,by go_num,rfl,I.2.1,I.1,HN.2.2.1,HN.2.2.2.1,HN.2.2.2.2.1.trans I.2.2.1.all,I.2.2.2⟩
 omega)
 have ty:(y !=(c:Int))=true:=by rw[bne_iff_ne];exact c8
 have b7:∃j,j<ll.length∧(if j=k then(c:Int) else u j)≠t j:=⟨k,b2,by rw[am rfl,←hold];exact fun e=>c8 e.symm⟩;have I:=J6 h3 c7 a8 T Y b7;clear h3 c7 a8 T Y hold c8 hy b7;go_wp2_with fail;go_roundg (ll.length-1-(m+1))
 ·have T:=I.2.2.2.1
  refine⟨m+1,true,fun j=>if j=k then(c:Int) else u j,by omega,rfl,by go_num,rfl,I.2.1,I.1,(fun h=>by cases h),fun _=>I.2.2.2.2.2,(HN.2.2.2.2.1.trans I.2.2.1.all).setCell (.inl fun h=>h rfl) _,⟨T.pp.far n1 _,T.tp.far n2 _,T.pn.far n3 _,?_⟩⟩;rw[←I.2.2.2.2.1];exact T.tn.set _ _
 omega)
 obtain rfl:m=ll.length-1:=by omega
 rw[show ll.length-1+1=ll.length by omega] at hP;have i6:=hT.tp.cell 0;simp only[gc] at i6;have I:=J6 hP hG b8 C J hT;clear hP hG b8 C J hT;cases b with
 |true=>
  go_wp2_with fail
  go_step3
  refine⟨rfl,_,((GH o.1 o.2.2.1 I.2.1 I.1 _ (bj _)).2 (I.2.2.2.1 (by simp))),ord,pl,u,pb,tb,pn,tn,_,_,rfl,o.1,⟨o.2.2.2.2.2.2.2,o.2.1⟩,sG o.1 o.2.2.1 I.2.1 I.1,⟨rfl,rfl,rfl,rfl,rfl,rfl,rfl,rfl⟩,
   aq (o.2.2.2.1.all.trans (I.2.2.2.2.1.mono fun b (hb:b<w.heap.size)=>by show b≠tn;omega)),o.2.2.2.2.1 _ I.2.2.2.2.1,o.2.2.2.2.2.1 _ I.2.2.2.2.1,I.2.2.2.2.2,hh,n1,n2,n3⟩
 |false=>go_wp2_with fail;simp only[Exit.jump];go_ret;obtain rfl:u=t:=I.2.2.1 (by simp);have G:=I.2.1;have O:=o.1;refine⟨_,u,pl,rfl,aq (o.2.2.2.1.all.trans (I.2.2.2.2.1.mono fun b (hb:b<w.heap.size)=>by show b≠tn;omega)),yl I.2.2.2.2.2.tn (by omega) (by omega) (fun i hi=>BP G hl hi),⟨O,G,fun j hj=>iw I.1 j hj (O.lt j hj),fun j hj x=>BG O o.2.2.1 I.1 hj⟩⟩
end
theorem zW (S:Nat→Prop)(Y:Value)(j:List Int)(x:Int)(w:World)(ha:bu S w Y j):
 Calls prog 221 #[Y,.int .i64 x] w fun e w'=>(∃r:Int,e=.returned (.int .i64 r)∧decide (0≤r)=pB (x∈j))∧w=w':=by
 obtain⟨a,cap,rfl,h1,h2,_,h⟩:=ha;have H:=oH h;clear h;go_enter func221,ntmps221;go_wp2;go_loopg [8] j.length (fun g s wr=>∃k:Nat,k≤j.length∧g=j.length-k∧s=.int .i64 k∧wr=w∧x∉j.take k);·exact⟨0,by omega,by omega,rfl,rfl,by simp⟩
 obtain⟨k,hk,rfl,rfl,rfl,o⟩:=hrel;by_cases C:k<j.length;·(
 obtain⟨b,off,c,rfl,hs,hc,rfl,hw⟩:=H.out k j[k] (lG C);obtain⟨y,J⟩:=eR (j[k]);rw[J] at hc;have hm:y∈j:=J▸jy C;have I:j.take (k+1)=j.take k++[y]:=by rw[dT,lG C,J];rfl
 by_cases e:x=y
 ·have te:(x==y)=true:=by rw[cX];exact e
  have R:=oH (show pB (x∈j)=true from aw (e▸hm));clear J hm o e I;go_wp2_with fail;go_ret;exact⟨⟨k,rfl,by rw[R.out];simp⟩,rfl⟩
 have te:(x==y)=false:=by rw[bE];exact e
 have R:=oH (show x∉j.take (k+1) by rw[I];simp[o,e]);clear J hm o e I;go_wp2_with fail;go_roundg (j.length-(k+1));·exact⟨k+1,by omega,rfl,by go_num,rfl,R.out⟩
 omega)
 obtain rfl:k=j.length:=by omega
 rw[jx] at o;have R:=oH (show pB (x∈j)=false from az o);clear o;go_wp2_with fail;go_ret;exact⟨⟨-1,rfl,by rw[R.out];decide⟩,rfl⟩
theorem uq (S:Nat→Prop)(o:Value)(j:List Int)(x:Int)(w:World)(J:bu S w o j):
 Calls prog 172 #[o,.int .i64 x] w fun e R=>e=.returned (.bool (pB (x∈j)))∧w=R:=by
 have H:=oH (zW S o j x w J);obtain⟨a,cap,rfl,h1,h2,_,h⟩:=J;clear h;go_enter func172,ntmps172;go_wp2_with fail;refine H.out.mono ?_;rintro e R ⟨⟨r,rfl,Y⟩,hw⟩;have C:=hw.symm;subst C;obtain⟨p,I⟩:=eR (pB (x∈j));rw[I] at Y;have HP:=oH I;clear I;have a1:decide (r≥0)=p:=Y;go_wp2_with fail;go_ret;exact⟨by rw[HP.out];rfl,rfl⟩
theorem Dg (S:Nat→Prop)(ll:List (List Int))(Y:Value)(t:Nat→Int)(pl:Nat→Nat)(i:Nat)(w:World)(ha:bu S w Y (ls ll.length t))(T:mg ll t pl)(hl:ll.length≤256)(hi:i<ll.length):
 Calls prog 222 #[Y,.int .i64 i] w fun e w'=>e=.returned (.bool true)∧w=w':=by
 obtain⟨a,cap,rfl,h1,h2,h3,h⟩:=ha;rw[nW] at h1 h3⊢;have H:=J2 h T;have t0:=T.good.zero;have C:=T.ord.lt i hi;clear h T;obtain⟨b0,o0,c0,rfl,_,I,rfl,_⟩:=H.1 0 (t 0) (tS (by omega));rw[t0,cJ] at I;clear t0;go_enter func222,ntmps222;go_wp2;go_loopg [1,5] ll.length (fun g x s wr=>∃m j:Nat,m<ll.length∧g=ll.length-m∧s=.int .i64 m∧x=.int .i64 j∧wr=w∧j<ll.length∧pl j+m<ll.length);·exact⟨0,i,by omega,by omega,rfl,rfl,rfl,hi,by omega⟩
 obtain⟨m,j,hm,rfl,rfl,rfl,rfl,hj,a1⟩:=hrel;by_cases o:j=0
 ·have te:((j:Int)==0)=true:=by rw[cX];omega
  clear o;go_wp2_with fail;go_ret;exact⟨rfl,rfl⟩
 have te:((j:Int)==0)=false:=by rw[bE];omega
 obtain⟨p,C,J,a6⟩:=H.2.up hj o;obtain⟨b1,o1,c1,e1,_,R,rfl,_⟩:=H.1 j (t j) (tS hj);cases e1;rw[C] at R;have tp:decide ((p:Int)<0)=false:=by simp
 clear C o;go_wp2_with fail;go_roundg (ll.length-(m+1));·exact⟨m+1,p,by omega,rfl,by go_num,rfl,rfl,J,by omega⟩
 omega
theorem CE (S:Nat→Prop)(ll:List (List Int))(va:Value)(t:Nat→Int)(pl:Nat→Nat)(i:Nat)(w:World)(ha:bu S w va (ls ll.length t))(T:mg ll t pl)(hl:ll.length≤256)(hi:i<ll.length):
 Calls prog 173 #[va,.int .i64 i] w fun e w'=>∃u,e=.returned u∧aa All w w'∧bu (fun b=>w.heap.size≤b) w' u ((oA ll.length t i).map fun(n:Nat)=>(n:Int)):=by
 obtain⟨i3,b2,b3,b4,b5⟩:=info_parts sE;have I3:=J4 b2 b3 b4 b5;clear b2 b3 b4 b5;have a1:=fun k (hk:k<ll.length)=>Dg S ll va t pl k w ha T hl hk;have a6:=ae.la ha;obtain⟨a,cap,rfl,h1,h2,h3,h⟩:=ha;rw[nW] at h1 h3 a1 a6⊢;have hp:=T.ord.lt i hi;obtain⟨C,hC⟩:=eR (oA ll.length t i);have b7:C.length≤ll.length+1:=by rw[←hC];exact uI t _ _
 have b6:∀x∈C,x<ll.length:=fun x hx=>by rw[←hC,oA,uJ T.good x _ i hi (Nat.le_of_lt (T.ord.lt i hi))] at hx;exact(oB T.good hi hx).1
 rw[hC];have H:=J5 a1 T a6 hC b6;clear h T a1 a6 hC b6;have tl:decide ((ll.length:Int)<1)=false:=by simp;omega
 have b8:decide ((ll.length:Int)>256)=false:=by simp;omega
 have ti:decide ((i:Int)<0)=false:=by simp
 have b9:decide (ll.length≤i)=false:=by simp;omega
 have c0:decide ((i:Int)≥(ll.length:Int))=false:=by simp;omega
 go_enter func173,ntmps173;go_wp2_with fail;clear tl b8 ti c0 b9;go_loopg [27] ll.length (fun g s wr=>∃k:Nat,k≤ll.length∧g=ll.length-k∧s=.int .i64 k∧wr=w);·exact⟨0,by omega,by omega,rfl,rfl⟩
 obtain⟨k,hk,rfl,rfl,hw⟩:=hrel;have a7:=hw.symm;subst a7;by_cases c2:k<ll.length
 ·have HL:=oH (H.1 k c2);go_wp2_with fail;refine HL.out.mono ?_;rintro e w' ⟨rfl,hw⟩;have a7:=hw.symm;subst a7;go_wp2_with fail;go_roundg (ll.length-(k+1));·exact⟨k+1,by omega,rfl,by go_num,rfl⟩
  omega
 obtain rfl:k=ll.length:=by omega
 go_wp2_with fail;go_loopg [1,6] (ll.length+1) (fun g x o wr=>∃L:List Nat,((∃j f:Nat,x=.int .i64 j∧j<ll.length∧pl j≤f∧f≤ll.length∧L++jC t f j=C∧g=f+1)∨(x=.int .i64 (-1)∧L=C∧g=0))∧aa All w wr∧wr.ownsRow w.heap.size 3 1 o L.length (aW (L.map fun(n:Nat)=>(n:Int))));·exact⟨[],.inl ⟨i,ll.length,rfl,hi,by omega,bj _,H.2.2.2.1,rfl⟩,kR,rfl,.inl ⟨rfl,rfl⟩⟩
 obtain⟨L,c3,R,J⟩:=hrel;rcases c3 with ⟨j,f,rfl,hj,c8,hf,hL,rfl⟩|⟨rfl,rfl,rfl⟩;·(
 have c9:L.length≤1000:=by have:=congrArg List.length hL;rw[eV] at this;omega
 obtain⟨b1,o1,c1,rfl,_,a8,rfl,_⟩:=de (i:=j) (x:=t j) (H.2.2.1 w kR) (tS hj);have c4:=gx w _ a8;have b0:(wr.alloc (.cells #[.int .i64 j] 3)).ownsRow w.heap.size 3 1 u6 L.length (aW (L.map fun(n:Nat)=>(n:Int))):=ay J ((aa.refl All wr).alloc _) (fun _ _=>trivial);have hB:=R.size;have tj:decide ((j:Int)≥0)=true:=by simp
 have d7:decide ((0:Int)≤(j:Int))=true:=by simp
 obtain⟨y,hy⟩:=eR (t j);rw[hy] at a8;have HT:=J3 R hL hy;clear hL hy;go_wp2_with (
  at_builtin;refine cW _ rfl (.tmp 41) (.tmp 43) 38 rfl w.heap.size 3 i3 _ 1 8 underlying38 I3.1 I3.2.1 I3.2.2.1 I3.2.2.2 rfl (by decide) _ _ _ rfl b0 (some ⟨wr.heap.size,0,none⟩) 1 1 [.int .i64 j] rfl rfl ?_ ?_ (by unfold maxLen;omega) (by omega) (by simp;omega) ?_;·intro _;exact⟨_,_,rfl,fun j u hu=>by rw[dU,al.cell (al.new _ _ _)];simpa using hu⟩
  ·intro u hu
   rw[ce.1 hu];rfl
  intro v2 w2 I c5 c7;have Y:aa (fun b=>b<w.heap.size) w w2:=((R.alloc _).all).grown c5 fun g hg=>.inl (by have:=(au J hg).1;show¬(g<w.heap.size);omega);have d8:=Y.cell (p:=⟨b1,o1+j,none⟩) c4 a8)
 by_cases d9:y<0;·(
 have e1:y= -1:=by have:=H.2.1.good.neg j hj;have:=HT.2.2;omega
 subst e1;have HE:=J2 Y I;clear Y I;go_wp2_with fail;go_roundg 0
 ·refine⟨L++[j],.inr ⟨rfl,?_,rfl⟩,aq HE.1,?_⟩
  ·rw[←HT.2.1];cases f with
   |zero=>rfl
   |succ f=>rw[jC,HT.2.2,am (by decide)]
  simpa [aW] using HE.2
 omega)
 obtain⟨p,hp,c6,e0,_⟩:=H.2.1.good.low j hj (by have:=HT.2.2;omega);rw[HT.2.2] at hp;subst hp;obtain⟨f',rfl⟩:∃f',f=f'+1:=⟨f-1,by omega⟩;have HE:=J2 Y I;clear Y I;go_wp2_with fail;go_roundg (f'+1)
 ·refine⟨L++[j],.inl ⟨p,f',rfl,c6,by omega,by omega,?_,rfl⟩,aq HE.1,?_⟩
  ·rw[←HT.2.1,jC,HT.2.2,ah (by omega),fD,jR];rfl
  simpa [aW] using HE.2
 omega)
 have HE:=J2 R J;have e2:L.length≤ll.length+1:=b7;clear R J;go_wp2_with fail;go_ret;refine⟨_,rfl,HE.1,pL HE.2 (by rw[aZ]) (by rw[aZ];omega) (fun g hg=>(au HE.2 hg).1) fun x hx=>?_⟩;obtain⟨n,hn,rfl⟩:=dt.1 hx;exact Bh (by have:=H.2.2.2.2 n hn;omega)
theorem ur (S:Nat→Prop)(ll:List (List Int))(C:Value)(t:Nat→Int)(pl:Nat→Nat)(a i:Nat)(w:World)(Y:bu S w C (ls ll.length t))(T:mg ll t pl)(hl:ll.length≤256)(hi:i<ll.length):
 Calls prog 112 #[C,.int .i64 a,.int .i64 i] w fun e w'=>e=.returned (.bool (pB (¬iJ (fd ll) a i)))∧aa All w w':=by
 have H:=oH (CE S ll C t pl i w Y T hl hi);have j:=zF T (x:=a) hi;have e:pB ((a:Int)∈(oA ll.length t i).map fun(n:Nat)=>(n:Int))=pB (¬iJ (fd ll) a i):=by congr 1;rw[eq_iff_iff,←j,dt];exact⟨fun⟨n,hn,e⟩=>Int.ofNat.inj e▸hn,fun h=>⟨a,h,rfl⟩⟩
 have HE:=oH e;obtain⟨A,cap,rfl,h1,h2,_,h⟩:=Y;clear h j e T;go_enter func112,ntmps112;go_wp2_with fail;refine H.out.mono ?_;rintro e w1 ⟨u,rfl,o,hu⟩;have I:=uq _ u _ a w1 hu;obtain⟨q,J⟩:=eR (pB ((a:Int)∈(oA ll.length t i).map fun(n:Nat)=>(n:Int)));rw[J] at I;have HC:=oH I;have HQ:=oH J;clear I J;have HK:=oH o;clear o hu;go_wp2_with fail;refine HC.out.mono ?_;rintro e w2 ⟨rfl,hw⟩;have R:=hw.symm;subst R;go_wp2_with fail;go_ret;exact⟨by rw[←HE.out,HQ.out];rfl,HK.out⟩
section
section
variable {α:Type} {M:List (List α)}
def ks (M:List (List α))(k i:Nat):List α:=(M.take k).flatten++(M.getD k []).take i
theorem tV {k i:Nat}{l:List α}{y:α}(h:M[k]? =some l)(j:l[i]? =some y):ks M k (i+1)=ks M k i++[y]:=by unfold ks;rw[iL,h,Option.getD_some,dT,j,jR];rfl
theorem Em {k:Nat}{l:List α}(h:M[k]? =some l):ks M k l.length=ks M (k+1) 0:=by unfold ks;rw[iL,h,Option.getD_some,jx,List.take_zero,List.append_nil,dT,h,List.flatten_append];simp
theorem Ek:ks M M.length 0=M.flatten:=by simp[ks]
theorem En {k i:Nat}{l:List α}{y:α}(h:M[k]? =some l)(j:l[i]? =some y):ks M k i++[y]<+:M.flatten:=by
 rw[←tV h j];refine⟨l.drop (i+1)++(M.drop (k+1)).flatten,?_⟩;unfold ks;rw[iL,h,Option.getD_some,jR,←jR (l.take (i+1)),List.take_append_drop];conv=>rhs;rw[ng h]
 rw[List.flatten_append,List.flatten_cons]
end
theorem kg {α β γ:Type}(f:β→γ)(g:Nat→α→β)(l:List α):(l.mapIdx g).map f=l.mapIdx fun i x=>f (g i x):=by apply List.ext_getElem?;intro i;rw[cy,jz,jz];cases l[i]?<;>rfl
abbrev gQ:=Nat×Nat×bI
def aX (L:List (List bI)):List (List gQ):=L.mapIdx fun i l=>l.mapIdx fun k x=>(i,k,x)
theorem nO {L:List (List bI)}{i:Nat}{l:List bI}(h:L[i]? =some l):(aX L)[i]? =some (l.mapIdx fun k x=>(i,k,x)):=by unfold aX;rw[jz,h];rfl
theorem wG {l:List bI}{i k:Nat}{x:bI}(h:l[k]? =some x):(l.mapIdx fun k x=>(i,k,x))[k]? =some (i,k,x):=by rw[jz,h];rfl
theorem zY (L:List (List bI)):(aX L).length=L.length:=by simp[aX]
theorem nQ {L:List (List bI)}{t:gQ}:t∈(aX L).flatten↔∃l,L[t.1]? =some l∧l[t.2.1]? =some t.2.2:=by
 constructor;·intro h;obtain⟨r,j,o⟩:=List.mem_flatten.1 h;obtain⟨i,hi,rfl⟩:=List.mem_mapIdx.1 j;obtain⟨k,C,rfl⟩:=List.mem_mapIdx.1 o;exact⟨_,lG hi,lG C⟩
 rintro⟨l,I,J⟩;obtain⟨i,k,x⟩:=t;exact List.mem_flatten.2 ⟨_,mG (nO I),mG (wG J)⟩
theorem pD {f:Nat→Nat→bI→Int}{L:List (List bI)}:lH f L=(((aX L).flatten.map fun t=>(t.2.2.Np,f t.1 t.2.1 t.2.2)).find? fun t=>decide (t.2≠0)).getD (0,0):=by unfold lH aX;rw[List.map_flatten,kg];congr 4;funext i l;rw[kg]
theorem CR {f:Nat→Nat→bI→Int}{L:List (List bI)}(h:∀t∈(aX L).flatten,f t.1 t.2.1 t.2.2=0):lH f L=(0,0):=by
 rw[pD,List.find?_eq_none.2];·rfl
 intro t j;obtain⟨u,hu,rfl⟩:=dt.1 j;simp[h u hu]
theorem zR {f:Nat→Nat→bI→Int}{L:List (List bI)}{pre:List gQ}{t:gQ}(j:pre++[t]<+:(aX L).flatten)(h:∀u∈pre,f u.1 u.2.1 u.2.2=0)(o:f t.1 t.2.1 t.2.2≠0):lH f L=(t.2.2.Np,f t.1 t.2.1 t.2.2):=by
 obtain⟨r,C⟩:=j;rw[pD,←C,jR,gU,List.singleton_append,List.map_cons,sy];·rfl
 ·intro y I
  obtain⟨u,hu,rfl⟩:=dt.1 I;simp[h u hu]
 simpa using o
def gV (pre:List gQ)(v:Int):Int×Int:=match pre.find? (fun t=>decide (t.2.2.dst=v)) with|some t=>(t.1,t.2.1)|none=>(-1,-1)
theorem rD (pre:List gQ)(v:Int):(gV pre v=(-1,-1)∧∀t∈pre,t.2.2.dst≠v)∨∃t∈pre,t.2.2.dst=v∧gV pre v=((t.1:Int),(t.2.1:Int)):=by
 unfold gV;cases h:pre.find? (fun t=>decide (t.2.2.dst=v)) with
 |none=>exact .inl ⟨rfl,fun t j=>by simpa using List.find?_eq_none.1 h t j⟩
 |some t=>exact .inr ⟨t,List.mem_of_find?_eq_some h,by simpa using List.find?_some h,rfl⟩
theorem uK {pre:List gQ}{t:gQ}{v:Int}:gV (pre++[t]) v=if t.2.2.dst=v∧∀u∈pre,u.2.2.dst≠v then((t.1:Int),(t.2.1:Int)) else gV pre v:=by
 unfold gV;rw[List.find?_append];cases h:pre.find? (fun t=>decide (t.2.2.dst=v)) with
 |some u=>
  rw[ah];·rfl
  rintro⟨_,j⟩;exact j u (List.mem_of_find?_eq_some h) (by simpa using List.find?_some h)
 |none=>
  have o:∀u∈pre,u.2.2.dst≠v:=fun u hu=>by simpa using List.find?_eq_none.1 h u hu
  by_cases e:t.2.2.dst=v;·rw[am ⟨e,o⟩];simp[e]
  rw[ah fun h=>e h.1];simp[e]
theorem BI {pre:List gQ}{t:gQ}{v:Int}(h:t.2.2.dst≠v):gV (pre++[t]) v=gV pre v:=by rw[uK,ah fun h'=>h h'.1]
theorem Fs {pre:List gQ}{t:gQ}(h:∀u∈pre,u.2.2.dst≠t.2.2.dst):gV (pre++[t]) t.2.2.dst=((t.1:Int),(t.2.1:Int)):=by rw[uK,am ⟨rfl,h⟩]
theorem qn {b:av}{v:Int}{i k:Nat}:mv b v i k↔∃x,(i,k,x)∈(aX b.Nm).flatten∧x.dst=v:=by
 constructor
 ·rintro⟨l,x,j,o,C⟩
  exact⟨x,nQ.2 ⟨l,j,o⟩,C⟩
 rintro⟨x,h,C⟩;obtain⟨l,j,o⟩:=nQ.1 h;exact⟨l,x,j,o,C⟩
def gB (b:av):List (Int×Int):=(List.range b.vars.toNat).map fun v:Nat=>gV (aX b.Nm).flatten v
theorem De {L:List (List bI)}{pre:List gQ}{t u:gQ}(R:pre++[t]<+:(aX L).flatten)(hu:u∈pre):t.1≠u.1∨t.2.1≠u.2.1:=by
 refine Classical.byContradiction fun h=>?_;have o:t.1=u.1:=Classical.byContradiction fun e=>h (.inl e);have C:t.2.1=u.2.1:=Classical.byContradiction fun e=>h (.inr e);obtain⟨m,hm,I⟩:=List.getElem_of_mem hu;obtain⟨r,J⟩:=R;have Y:(aX L).flatten[m]? =some u:=by rw[←J,jR,lC hm,lG hm,I]
 have a2:(aX L).flatten[pre.length]? =some t:=by rw[←J,jR,jQ (by omega)];simp
 obtain⟨i,k,l,b1,b2,b3⟩:=rF Y;obtain⟨j,n,l',c1,c2,c3⟩:=rF a2;have hi:∀ {i k:Nat} {l:List gQ} {t:gQ},(aX L)[i]? =some l→l[k]? =some t→t.1=i∧t.2.1=k:=by intro i k l t o C;unfold aX at o;rw[jz] at o;obtain⟨l0,_,rfl⟩:=um.1 o;rw[jz] at C;obtain⟨x,_,rfl⟩:=um.1 C;exact⟨rfl,rfl⟩
 obtain⟨d1,d2⟩:=hi b1 b2;obtain⟨e1,e2⟩:=hi c1 c2;have:i=j:=by omega
 subst this;have:k=n:=by omega
 subst this;omega
theorem zZ {b:av}(C:jt b){pre:List gQ}{t u:gQ}(j:pre++[t]<+:(aX b.Nm).flatten)(hu:u∈pre)(I:t.2.2.dst≠-1):u.2.2.dst≠t.2.2.dst:=by
 intro e;have J:t∈(aX b.Nm).flatten:=j.subset (dV.2 (.inr (ce.2 rfl)));have o:u∈(aX b.Nm).flatten:=j.subset (dV.2 (.inl hu));obtain⟨R,Y⟩:=C.once t.2.2.dst t.1 t.2.1 u.1 u.2.1 I (qn.2 ⟨_,J,rfl⟩) (qn.2 ⟨_,o,e⟩);rcases De j hu with h|h;·exact h R
 exact h Y
theorem vg (L:List (List bI)):(aX L).flatten.map (fun t=>t.2.2)=L.flatten:=by
 unfold aX;rw[List.map_flatten,kg];congr 1;apply List.ext_getElem?;intro i;rw[jz];cases h:L[i]? with
 |none=>rfl
 |some l=>show some _=some l;congr 1;show(l.mapIdx fun k x=>((i,k,x):gQ)).map (fun t=>t.2.2)=l;rw[kg];apply List.ext_getElem?;intro k;rw[jz];cases l[k]?<;>rfl
theorem xT (l r:List bI):og (l++r)=og l+og r:=by simp[og]
theorem xU (x:bI):og [x]=if x.dst= -1 then 0 else 1:=by
 unfold og;by_cases h:x.dst= -1;·simp[h]
 simp[h]
end
end Go.Proofs.YtccbbkopmlnkpaaGreatDoor
