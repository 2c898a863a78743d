/- Part 24 of the proof of CallsShallow (its last part says what is proved). No condition. -/
import Derived.Test.YtncdbjponknakaaGreatDoorK22
namespace Go.Proofs.YtncdbjponknakaaGreatDoor
set_option maxRecDepth 100000
set_option maxHeartbeats 8000000
open Go.RowKit Go.Proofs.Tryz
section
theorem tX {P:Program}{a:Act}{w:World}{Q:Exit→Act→World→Prop}{c rest:Code}(l:Nat)(J:Nat→Act→World→Prop)(Z:findLabel c l=some (Code.skip.seq rest))
 (pass:∀m a w,J m a w→rest.wp P (Exit.jump l (fun o C=>∃j,j<m∧J j o C) Q) a w)
 (first:(∀m a w,J m a w→rest.wp P (Exit.jump l (fun o C=>∃j,J j o C) Q) a w)→c.wp P (Exit.jump l (fun o C=>∃j,J j o C) Q) a w):(Code.scope c).wp P Q a w:=by
 refine wp_scope_jumps l (fun o C=>∃j,J j o C) (fun o C=>Go.leastOf fun m=>J m o C) Z (first fun m a w R=>wp_mono (pass m a w R) ?_) ?_;·(
 intro e o C h;cases e with
 |goto l'=>exact⟨h.1,let⟨j,_,hm⟩:=h.2;⟨j,hm⟩⟩
 |normal=>exact h
 |exit id=>exact h
 |ret=>exact h
 |panic ch=>exact h
 |outgrown=>exact h)
 rintro a w R;obtain⟨h1,h2⟩:=Go.leastOf_spec (p:=fun m=>J m a w) R;refine wp_seq (wp_skip (wp_mono (pass _ a w h1) ?_));intro e o C h;cases e with
 |goto l'=>obtain⟨h3,j,hm,Y⟩:=h;refine⟨h3,⟨j,Y⟩,?_⟩;have:=(Go.leastOf_spec (p:=fun m=>J m o C) ⟨j,Y⟩).2 j Y;show Go.leastOf _<Go.leastOf _;omega
 |normal=>exact h
 |exit id=>exact h
 |ret=>exact h
 |panic ch=>exact h
 |outgrown=>exact h
theorem Is (T:Array Value)(n:Nat)(h:T.size=n):T=((List.range n).map fun i=>T.getD i undef).toArray:=by
 apply Array.ext_getElem?;intro i;by_cases hi:i<n;·simp[hi,h]
 rw[jK (by omega),jK (by simp;omega)]
def kD (ord:List Nat)(i k:Nat):Int:=if ord.idxOf k<i then ord.idxOf k else 0
theorem Gx {ll:List (List Int)}{ord:List Nat}(O:Cw ll ord){j:Nat}(o:j<ll.length):ord[ord.idxOf j]? =some j:=by
 have C:=O.op.lt j o;have l:ord.idxOf j<ord.length:=by rw[O.len];exact C
 rw[lG l,List.getElem_idxOf]
theorem DG {ll:List (List Int)}{ord:List Nat}(O:Cw ll ord){i k:Nat}(h:ord[i]? =some k):kD ord (i+1) k=i:=by unfold kD;rw[O.at' i k h,ap (by omega)]
theorem DH {ll:List (List Int)}{ord:List Nat}(O:Cw ll ord){i k j:Nat}(h:ord[i]? =some k)(C:j<ll.length)(l:j≠k):kD ord (i+1) j=kD ord i j:=by
 have:ord.idxOf j≠i:=fun e=>by have:=Gx O C;rw[e,h] at this;exact l (kJ this).symm
 unfold kD;by_cases o:ord.idxOf j<i;·rw[ap (by omega),ap o]
 rw[ae (by omega),ae o]
theorem AL {ll:List (List Int)}{ord:List Nat}(O:Cw ll ord){k:Nat}(j:k<ll.length):kD ord ll.length k=ord.idxOf k:=by unfold kD;rw[ap (O.op.lt k j)]
theorem BW {n:Nat}{pl:Nat→Nat}{t:Nat→Int}(G:fU n pl t)(o:n≤256){j:Nat}(l:j<n):(Lit.int .i64 (t j)).wf=true:=by
 by_cases h:0≤t j
 ·obtain⟨p,e,C,_⟩:=G.low j l h
  rw[e];exact tT (by omega)
 have:=G.neg j l;rw[show t j= -1 by omega];decide
open Classical in
noncomputable def vM (ll:List (List Int))(k:Nat):List Nat:=(List.range ll.length).filter fun a=>decide (dH ll a k)
theorem GL (ll:List (List Int))(k:Nat):di ll ll.length k=(vM ll k).map fun(n:Nat)=>(n:Int):=rfl
open Classical in
theorem DJ {ll:List (List Int)}{k p:Nat}:p∈vM ll k↔dH ll p k:=by unfold vM;rw[List.mem_filter,fg,iH];exact⟨fun h=>h.2,fun h=>⟨lq h,h⟩⟩
open Classical in
theorem DI (ll:List (List Int))(k:Nat):(vM ll k).length≤ll.length:=by unfold vM;have:=List.length_filter_le (fun a=>decide (dH ll a k)) (List.range ll.length);rwa [List.length_range] at this
def Ke (ll:List (List Int))(V0:Value)(w0:World)(m:Nat)(a:Act)(w:World):Prop:=
 ∃(ord:List Nat) (pl:Nat→Nat) (t:Nat→Int) (pb tb g h:Nat) (V5 V6:Value),m=xd pl ll.length t ll.length∧zJ (dH ll) ll.length pl∧(ord.length=ll.length∧∀(m:Nat) x,ord[m]? =some x→pl x=m∧x<ll.length)∧rR (dH ll) ll.length pl t∧
  (a.defers=[]∧a.tmps.size=110∧a.tmps.getD 0 undef=V0∧a.tmps.getD 5 undef=V5∧a.tmps.getD 6 undef=V6∧a.tmps.getD 7 undef=.pointer (some ⟨pb,0,none⟩)∧a.tmps.getD 10 undef=.pointer (some ⟨tb,0,none⟩)∧a.tmps.getD 12 undef=.func (.func 103) #[] #[.pointer (some ⟨pb,0,none⟩),.pointer (some ⟨tb,0,none⟩)])∧
  aa All w0 w∧aK (fun b=>b≠h) w V5 (ord.map fun(n:Nat)=>(n:Int))∧Rows (fun b=>b≠h) w V6 (gF ll)∧qQ ll.length pl t pb tb g h w∧w0.heap.size≤h∧pb≠h∧tb≠h∧g≠h
theorem En {ll:List (List Int)}{R:Value}{C:World}{m:Nat}{a:Act}{w:World}(h:Ke ll R C m a w):
 ∃(f:Nat→Value) (ord:List Nat) (pl:Nat→Nat) (t:Nat→Int) (j tb g h:Nat) (l o:Value),m=xd pl ll.length t ll.length∧zJ (dH ll) ll.length pl∧(ord.length=ll.length∧∀(m:Nat) x,ord[m]? =some x→pl x=m∧x<ll.length)∧rR (dH ll) ll.length pl t∧
 a= {tmps:=#[R,f 1,f 2,f 3,f 4,l,o,.pointer (some ⟨j,0,none⟩),f 8,f 9,.pointer (some ⟨tb,0,none⟩),f 11,.func (.func 103) #[] #[.pointer (some ⟨j,0,none⟩),.pointer (some ⟨tb,0,none⟩)],f 13,f 14,f 15,f 16,f 17,f 18,f 19,f 20,f 21,f 22,f 23,f 24,f 25,f 26,f 27,f 28,f 29,f 30,f 31,f 32,f 33,f 34,f 35,f 36,f 37,f 38,f 39,f 40,f 41,f 42,f 43,f 44,f 45,f 46,f 47,f 48,f 49,f 50,f 51,f 52,f 53,f 54,f 55,f 56,f 57,f 58,f 59,f 60,f 61,f 62,f 63,f 64,f 65,f 66,f 67,f 68,f 69,f 70,f 71,f 72,f 73,f 74,f 75,f 76,f 77,f 78,f 79,f 80,f 81,f 82,f 83,f 84,f 85,f 86,f 87,f 88,f 89,f 90,f 91,f 92,f 93,f 94,f 95,f 96,f 97,f 98,f 99,f 100,f 101,f 102,f 103,f 104,f 105,f 106,f 107,f 108,f 109],defers:=[]}∧
 aa All C w∧aK (fun b=>b≠h) w l (ord.map fun(n:Nat)=>(n:Int))∧Rows (fun b=>b≠h) w o (gF ll)∧qQ ll.length pl t j tb g h w∧C.heap.size≤h∧j≠h∧tb≠h∧g≠h:=by
 obtain⟨ord,pl,t,j,tb,g,h,l,o,Z,h2,J,h3,⟨d1,d2,d30,d35,d36,d37,d310,d312⟩,h4⟩:=h;obtain⟨T,D⟩:=a;simp only at d1 d2 d30 d35 d36 d37 d310 d312;have Y:=Is T 110 d2;generalize hf:(fun i=>T.getD i undef)=f at Y;have hg:∀i,T.getD i undef=f i:=fun i=>by rw[←hf]
 rw[hg] at d30 d35 d36 d37 d310 d312;refine⟨f,ord,pl,t,j,tb,g,h,l,o,Z,h2,J,h3,?_,h4⟩;rw[d1,Y,←d312,←d310,←d37,←d36,←d35,←d30];rfl
theorem Hu (S:Nat→Prop)(v:Value)(ll:List (List Int))(w:World)(hv:Rows S w v ll)(hR:aP ll)(hL:∀k,k<ll.length→aQ ll 0 k):
 Calls prog 70 #[v] w fun e w'=>∃u t pl,e=.returned u∧aa All w w'∧aK (fun b=>w.heap.size≤b) w' u (lV ll.length t)∧mz ll t pl:=by
 have a8:=fun w1 (R:aa All w w1)=>gt S v ll w1 (aq.keep R.all hv);rw[bL hR] at a8;have c8:∀w1,aa All w w1→Calls prog 68 #[v] w1 fun e w'=>e=.returned (.tuple #[.int .i64 0,.bool false])∧aa All w1 w':=fun w1 R=>by refine(yC S v ll w1 (aq.keep R.all hv) hR).mono ?_;rw[hZ fun k R h=>h.2 (hL k R)];exact fun e w' h=>h
 have h3:=fun w1 (R:aa All w w1)=>Aj S v ll w1 (aq.keep R.all hv) hR hL;have c9:=fun w1 (R:aa All w w1)=>sd S v ll w1 (aq.keep R.all hv) hR;obtain⟨a,cap,rfl,h1,h2,j8,h⟩:=hv;have hl:ll.length≤256:=hR.2.1;have k5:1≤ll.length:=hR.1;have HR:=J5 c8 a8 h3 c9 hR;clear h h1 h2 j8 a8 c8 h3 c9 hR hL;have j9:=fun w=>wX ll.length (by omega) w;go_enter func70,ntmps70;go_wp2;refine tX 0 (Ke ll (.slice a ll.length cap) w) rfl ?pass ?first
 case first=>(
 intro HP;have HP:=oH HP;go_wp2_with fail;refine(HR.1 _ kR).mono ?_;rintro e w1 ⟨rfl,i1⟩;have i2:=oH i1;clear i1;go_wp2_with fail;refine(HR.2.1 _ i2.out).mono ?_;rintro e w2 ⟨rfl,i4⟩;have i5:=oH (i2.out.trans i4);clear i4;go_wp2_with fail;refine(HR.2.2.1 _ i5.out).mono ?_;rintro e w3 ⟨u,ord,rfl,i6,h7,hO⟩;have HO:=J3 (i5.out.trans i6) (kV h7) hO;have d7:(ord.map Int.ofNat).length=ll.length:=by rw[ce,hO.len]
 have c3:=ah.la h7;obtain⟨oa,oc,rfl,o1,o2,o3,_⟩:=h7;rw[d7] at o1 o3 c3 HO⊢;have HV:=oH c3;clear i6 hO c3;go_wp2_with fail;refine(HR.2.2.2.1 _ HO.1).mono ?_;rintro e w4 ⟨ub,rfl,h8,i7⟩;have HB:=J3 (HO.1.trans h8) h8 (jh i7);clear h8 i7;go_wp2_with fail;go_loopg [39] ll.length (fun gg x wr=>∃i:Nat,i≤ll.length∧gg=ll.length-i∧x=.int .i64 i∧aa All w4 wr∧w4.heap.size+1<wr.heap.size∧al wr w4.heap.size 3 (aN ll.length (kD ord i))∧al wr (w4.heap.size+1) 45 #[.slice (some ⟨w4.heap.size,0,none⟩) ll.length ll.length]);·exact⟨0,by omega,by omega,rfl,(kR.alloc _).alloc _,by simp,(al.new _ _ _).alloc _,ac (by simp)⟩
 obtain⟨i,hi,rfl,rfl,J,k1,o,a6⟩:=hrel;have c1:=a6.cell 0;simp only[gc] at c1;by_cases d8:i<ll.length
 ·obtain⟨k,R⟩:∃k,ord[i]? =some k:=⟨_,lG (by rw[HO.2.2.len];exact d8)⟩;obtain⟨b5,o5,v5,rfl,_,h9,rfl,_⟩:=bn (i:=i) (x:=(k:Int)) (HV.out wr (HB.2.1.trans J)) (by rw[cL,R];rfl);have b0:=HO.2.2.lt k (mG R);have c2:=o.cell k;have f2:=o.free k;rw[bI b0] at c2;have Y:(aN ll.length (kD ord i)).setIfInBounds k (.int .i64 i)=aN ll.length (kD ord (i+1)):=oS (DG HO.2.2 R) fun j hj b4=>DH HO.2.2 R hj b4;have HX:=J4 J o a6 Y;clear J o a6 Y R;go_wp2_with fail;go_roundg (ll.length-(i+1));·exact⟨i+1,by omega,rfl,by go_num,HX.1.setCell (.inr (cf _)) _,by simpa using k1,by rw[←HX.2.2.2];exact HX.2.1.set _ _,HX.2.2.1.far (by simp) _⟩
  omega
 obtain rfl:i=ll.length:=by omega
 have HX:=J3 J o a6;clear J o a6;obtain⟨w5,rfl⟩:=eQ wr;go_wp2_with fail;go_loopg [54] ll.length (fun gg x wr=>∃i:Nat,i≤ll.length∧gg=ll.length-i∧x=.int .i64 i∧aa All w5 wr∧w5.heap.size+1<wr.heap.size∧al wr w5.heap.size 3 (aN ll.length (fun k=>if k<i then-1 else 0))∧al wr (w5.heap.size+1) 45 #[.slice (some ⟨w5.heap.size,0,none⟩) ll.length ll.length]);·exact⟨0,by omega,by omega,rfl,(kR.alloc _).alloc _,by simp,(al.new _ _ _).alloc _,ac (by simp)⟩
 obtain⟨i,hi,rfl,rfl,J,j0,o,a6⟩:=hrel;have c1:=a6.cell 0;simp only[gc] at c1;by_cases d8:i<ll.length
 ·have c2:=o.cell i;have f2:=o.free i;rw[bI d8] at c2;have Y:(aN ll.length (fun k=>if k<i then-1 else 0)).setIfInBounds i (.int .i64 (-1))=aN ll.length (fun k=>if k<i+1 then-1 else 0):=oS (ap (by omega)) fun j hj b4=>by
   by_cases h:j<i;·rw[ap h,ap (by omega)]
   rw[ae h,ae (by omega)]
  have HY:=J4 J o a6 Y;clear J o a6 Y;go_wp2_with fail;go_roundg (ll.length-(i+1));·exact⟨i+1,by omega,rfl,by go_num,HY.1.setCell (.inr (cf _)) _,by simpa using j0,by rw[←HY.2.2.2];exact HY.2.1.set _ _,HY.2.2.1.far (by simp) _⟩
  omega
 obtain rfl:i=ll.length:=by omega
 have HY:=J3 J o a6;clear J o a6;go_wp2_with fail
 go_step3
 rename_i hK;refine hK _ _ (HP.out (xd (fun x=>ord.idxOf x) ll.length (fun _=> -1) ll.length) _ _ ?_);have O:=HO.2.2;have e1:aN ll.length (kD ord ll.length)=aN ll.length (fun x=>(ord.idxOf x:Int)):=ex fun k R=>AL O R;have e2:aN ll.length (fun k=>if k<ll.length then-1 else 0)=aN ll.length (fun _=>(-1:Int)):=ex fun k R=>ap R;have b1:=HX.2.1;have b3:=HY.2.1;rw[e1] at b1;rw[e2] at b3;have s4:=HX.1.size;have s3:=HB.2.1.size;have s0:=HO.1.size
 refine⟨ord,fun x=>ord.idxOf x,fun _=> -1,w4.heap.size+1,w5.heap.size+1,w4.heap.size,w5.heap.size,_,_,rfl,O.op,⟨O.len,fun m x hx=>⟨O.at' m x hx,O.lt x (mG hx)⟩⟩,Jr O.op fun _ _=>rfl,⟨rfl,rfl,rfl,rfl,rfl,rfl,rfl,rfl⟩,
  (HB.1.trans HX.1).trans HY.1,?_,?_,⟨HX.2.2.kept HY.1 trivial,HY.2.2,b1.kept HY.1 trivial,b3⟩,by omega,by omega,by omega,by omega⟩
 ·exact ah.wide (fun b hb=>by have:b<w3.heap.size:=hb;omega) (ah.keep ((HB.2.1.trans HX.1).trans HY.1).all HO.2.1)
 exact aq.wide (fun b hb=>by have:b<w4.heap.size:=hb;omega) (aq.keep (HX.1.trans HY.1).all HB.2.2))
 clear j9;intro m aj wj hJ;obtain⟨f,ord,pl,t,pb,tb,pn,tn,V5,V6,rfl,O,⟨d7,OA⟩,K,rfl,d9,c3,j1,hT,hh,n1,n2,n3⟩:=En hJ;clear hJ;have b9:=fun wn (R:aa (fun b=>b≠tn) wj wn)=>ah.keep R c3;have e0:=fun wn (R:aa (fun b=>b≠tn) wj wn)=>aq.keep R j1;have h4:(ord.map fun(n:Nat)=>(n:Int)).length=ll.length:=by rw[ce,d7]
 obtain⟨k0,h5⟩:∃k0,ord[0]? =some k0:=⟨_,lG (by omega)⟩;obtain⟨oa,oc,rfl,o1,o2,o3,_⟩:=c3;rw[h4] at o1 o3 b9⊢;obtain⟨ob,oo,vv,rfl,_⟩:=bn (i:=0) (x:=(k0:Int)) (b9 wj kR) (by rw[cL,h5];rfl);obtain⟨ba,bc,rfl,p1,p2,p3,_⟩:=j1;rw[fK] at p1 p3 e0⊢;unfold maxLen at o2 p2;have l:=J8 O OA K d9 b9 e0 hT d7;clear O OA K d9 b9 e0 h4 hT d7 h5;go_wp2_with fail;·(
 subst h;have k6:ll.length≤1:=o1;go_loopg [13,65] (ll.length-1) (fun gg ch x wr=>∃(m:Nat) (b:Bool) (u:Nat→Int),m≤ll.length-1∧gg=ll.length-1-m∧x=.int .i64 m∧ch=.bool b∧gQ (dH ll) ll.length pl t u (m+1)∧fU ll.length pl u∧(b=false→u=t)∧(b=true→∃j,j<ll.length∧u j≠t j)∧aa (fun b=>b≠tn) wj wr∧qQ ll.length pl u pb tb pn tn wr)
 case atStart=>refine⟨0,false,t,by omega,by omega,rfl,rfl,GA t 1 fun k R h0=>?_,l.2.2.1.1.good,fun _=>rfl,(fun h=>by cases h),kR,l.2.2.2.2.2.2.1⟩;have e1:pl k≠pl 0:=fun e=>h0 (l.1.inj _ _ R l.1.pos e);have e2:=l.1.zero;omega
 obtain⟨m,b,u,hm,rfl,rfl,rfl,hP,hG,b7,o,J,hT⟩:=hrel;by_cases d8:m<ll.length-1;·exfalso;omega
 obtain rfl:m=ll.length-1:=by omega
 rw[show ll.length-1+1=ll.length by omega] at hP;have i0:=hT.tp.cell 0;simp only[gc] at i0;have C:=J6 hP hG b7 o J hT;clear hP hG b7 o J hT;cases b with
 |true=>
  go_wp2_with fail
  go_step3
  refine⟨rfl,_,((GH l.1 l.2.2.1 C.2.1 C.1 _ (cf _)).2 (C.2.2.2.1 (by simp))),ord,pl,u,pb,tb,pn,tn,_,_,rfl,l.1,⟨l.2.2.2.2.2.2.2,l.2.1⟩,sN l.1 l.2.2.1 C.2.1 C.1,⟨rfl,rfl,rfl,rfl,rfl,rfl,rfl,rfl⟩,
   am (l.2.2.2.1.all.trans (C.2.2.2.2.1.mono fun b (hb:b<w.heap.size)=>by show b≠tn;omega)),l.2.2.2.2.1 _ C.2.2.2.2.1,l.2.2.2.2.2.1 _ C.2.2.2.2.1,C.2.2.2.2.2,hh,n1,n2,n3⟩
 |false=>go_wp2_with fail;simp only[Exit.jump];go_ret;obtain rfl:u=t:=C.2.2.1 (by simp);have G:=C.2.1;have O:=l.1;refine⟨_,u,pl,rfl,am (l.2.2.2.1.all.trans (C.2.2.2.2.1.mono fun b (hb:b<w.heap.size)=>by show b≠tn;omega)),sL C.2.2.2.2.2.tn (by omega) (by omega) (fun i hi=>BW G hl hi),⟨O,G,fun j hj=>js C.1 j hj (O.lt j hj),fun j hj x=>BK O l.2.2.1 C.1 hj⟩⟩)
 skip;go_loopg [13,65] (ll.length-1) (fun gg ch x wr=>∃(m:Nat) (b:Bool) (u:Nat→Int),m≤ll.length-1∧gg=ll.length-1-m∧x=.int .i64 m∧ch=.bool b∧gQ (dH ll) ll.length pl t u (m+1)∧fU ll.length pl u∧(b=false→u=t)∧(b=true→∃j,j<ll.length∧u j≠t j)∧aa (fun b=>b≠tn) wj wr∧qQ ll.length pl u pb tb pn tn wr)
 case atStart=>refine⟨0,false,t,by omega,by omega,rfl,rfl,GA t 1 fun k R h0=>?_,l.2.2.1.1.good,fun _=>rfl,(fun h=>by cases h),kR,l.2.2.2.2.2.2.1⟩;have e1:pl k≠pl 0:=fun e=>h0 (l.1.inj _ _ R l.1.pos e);have e2:=l.1.zero;omega
 obtain⟨m,b,u,hm,rfl,rfl,rfl,hP,hG,b7,o,J,hT⟩:=hrel;by_cases d8:m<ll.length-1;·(
 obtain⟨k,R⟩:∃k,ord[m+1]? =some k:=⟨_,lG (by rw[l.2.2.2.2.2.2.2];omega)⟩;obtain⟨c4,b0⟩:=l.2.1 _ k R;have d9:k≠0:=fun e=>by subst e;have:=l.1.zero;omega
 obtain⟨b5,o5,v5,k2,_,h9,rfl,_⟩:=bn (i:=m+1) (x:=(k:Int)) (l.2.2.2.2.1 wr J) (by rw[cL,R];rfl);cases k2;rw[show oo+(m+1)=oo+1+m by omega] at h9;obtain⟨q,hq⟩:=eR (vM ll k);have j2:∀p,p∈q↔dH ll p k:=fun p=>by rw[←hq];exact DJ
 have k7:q.length≤256:=by rw[←hq];exact fR (DI ll k) hl
 obtain⟨rb,ro,rv,rfl,_,j3,j4⟩:=bn (x:=q.map fun(n:Nat)=>(n:Int)) (l.2.2.2.2.2.1 wr J) (by rw[mX b0,GL,hq]);have e3:=ah.la j4;obtain⟨qa,qc,rfl,q1,q2,q3,_⟩:=j4;rw[ce] at q1 q3 e3 j3;have j5:=fun wn (R:aa All wr wn)=>hT.keep R trivial trivial trivial trivial;have HN:=J10 hP hG b7 o J j5 j2 e3 c4 d9;clear hP hG b7 o J hT j5 j2 e3 R hq c4 d9;obtain⟨wo,rfl⟩:=eQ wr;go_wp2_with fail;go_loopg [16,74] q.length (fun gg nr x wr=>∃(j:Nat) (v:Int),j≤q.length∧gg=q.length-j∧x=.int .i64 j∧nr=.int .i64 v∧lA u (q.take j) v∧aa All wo wr);·exact⟨0,-1,by omega,by omega,rfl,rfl,by rw[List.take_zero];exact Dv u,kR⟩
 clear h9 j3;obtain⟨j,v,hj,rfl,rfl,rfl,hN,a7⟩:=hrel;have T:=HN.2.2.2.2.2.1 _ a7;have c0:=T.tp.cell 0;simp only[gc] at c0;by_cases j6:j<q.length;·(
 obtain⟨p,hp⟩:=eG j6;have e4:q.take (j+1)=q.take j++[p]:=by rw[cU,hp];rfl
 obtain⟨b6,o6,v6,rfl,_,k8,rfl,_⟩:=bn (i:=j) (x:=(p:Int)) (HN.2.2.2.2.2.2.2.1 _ a7) (by rw[cL,hp];rfl);have j7:=lq ((HN.2.2.2.2.2.2.1 p).1 (mG hp));have e5:=fun c (hN:lA u (q.take j) (c:Nat))=>AF HN.2.1 (fun p hp=>lq ((HN.2.2.2.2.2.2.1 p).1 (List.mem_of_mem_take hp))) hN;have c1:=T.tn.cell p;rw[bI j7] at c1;clear hp;by_cases Z:my u p;·(
 have hw:=fun(y:Int) (hy:u p=y) (c:Nat) (hN:lA u (q.take j) c)=>Gf ll.length pl u pb tb pn tn c p wr hl HN.2.1 l.1.zero l.1.inj l.1.lt (e5 c hN).1 j7 (e5 c hN).2 Z T;have b2:p=0∨0≤u p:=Z;obtain⟨y,hy⟩:=eR (u p);rw[hy] at c1 b2;have HP:=J5 a7 e4 hN Z (hw y hy);rcases Du hN with rfl|⟨c,rfl⟩;·(
 clear a7 e4 hN Z hw e5 T hy;by_cases a1:p=0
 ·have t0:((p:Int) !=0)=false:=by rw[gj];omega
  clear a1 b2;go_wp2_with fail;go_roundg (q.length-(j+1));·exact⟨j+1,p,by omega,rfl,by go_num,rfl,by rw[HP.2.1];exact rd HP.2.2.1 (by decide) HP.2.2.2.1,HP.1⟩
  omega
 have t0:((p:Int) !=0)=true:=by rw[bne_iff_ne];omega
 have c5:¬y<0:=by omega
 have ty:decide (y<0)=false:=by simpa using c5
 clear a1 b2;go_wp2_with fail;go_roundg (q.length-(j+1));·exact⟨j+1,p,by omega,rfl,by go_num,rfl,by rw[HP.2.1];exact rd HP.2.2.1 (by decide) HP.2.2.2.1,HP.1⟩
 omega)
 have hm:=HP.2.2.2.2 c hN;have HM:=oH hm;have tc:decide ((c:Int)<0)=false:=by simp
 clear a7 e4 hN Z hw e5 T hy hm;by_cases a1:p=0
 ·have t0:((p:Int) !=0)=false:=by rw[gj];omega
  clear a1 b2;go_wp2_with fail;refine HM.out.mono ?_;rintro e w8 ⟨mm,rfl,k3,e6,e7⟩;have e8:=J2 e6 e7;clear e6 e7;go_wp2_with fail;go_roundg (q.length-(j+1));·exact⟨j+1,mm,by omega,rfl,by go_num,rfl,by rw[HP.2.1];exact sY HP.2.2.1 HP.2.2.2.1 e8.1,HP.1.trans e8.2⟩
  omega
 have t0:((p:Int) !=0)=true:=by rw[bne_iff_ne];omega
 have c5:¬y<0:=by omega
 have ty:decide (y<0)=false:=by simpa using c5
 clear a1 b2;go_wp2_with fail;refine HM.out.mono ?_;rintro e w8 ⟨mm,rfl,k3,e6,e7⟩;have e8:=J2 e6 e7;clear e6 e7;go_wp2_with fail;go_roundg (q.length-(j+1));·exact⟨j+1,mm,by omega,rfl,by go_num,rfl,by rw[HP.2.1];exact sY HP.2.2.1 HP.2.2.2.1 e8.1,HP.1.trans e8.2⟩
 omega)
 have a1:p≠0:=fun e=>Z (.inl e);have c5:u p<0:=by refine Classical.byContradiction fun h=>Z (.inr (by omega))
 obtain⟨y,hy⟩:=eR (u p);rw[hy] at c1 c5;have t0:((p:Int) !=0)=true:=by rw[bne_iff_ne];omega
 have ty:decide (y<0)=true:=by simpa using c5
 have HP:=J4 a7 e4 hN Z;clear a7 e4 hN Z e5 T hy a1;go_wp2_with fail;go_roundg (q.length-(j+1));·exact⟨j+1,v,by omega,rfl,by go_num,rfl,by rw[HP.2.1];exact AG HP.2.2.1 HP.2.2.2,HP.1⟩
 omega)
 obtain rfl:j=q.length:=by omega
 rw[dZ] at hN;obtain⟨p0,a1,h6⟩:=l.1.fwd k b0 HN.2.2.2.2.2.2.2.2.2;have c4:=HN.2.2.2.2.2.2.2.2.1;have Z:=js HN.1 p0 (lq a1) (by omega);have b8:=Dt hN HN.2.2.2.2.2.2.1 ⟨p0,a1,Z⟩;obtain⟨e9,c,rfl,k9,k4⟩:=Db l.1 HN.2.1 b0 HN.2.2.2.2.2.2.2.2.2 ⟨p0,a1,h6,Z⟩ b8;have c6:=DF l.1 (by rw[c4];exact HN.1) b0 b8;rw[c4] at c6;have c1:=T.tn.cell k;have f1:=T.tn.free k;rw[bI b0] at c1;have hold:=HN.1.old k (by omega);obtain⟨y,hy⟩:=eR (u k);rw[hy] at c1 hold;have Y:(aN ll.length u).setIfInBounds k (.int .i64 c)=aN ll.length (fun j=>if j=k then(c:Int) else u j):=oS (ap rfl) fun j _ b4=>ae b4;clear hN Z b8 a1 h6 c4 k4;by_cases c7:y=c;·(
 have ty:(y !=(c:Int))=false:=by rw[gj];exact c7
 have hu:(fun j=>if j=k then(c:Int) else u j)=u:=by
  funext j;by_cases e:j=k;·subst e;rw[ap rfl,hy,c7]
  rw[ae e]
 rw[hu] at e9 c6;have C:=J4 e9 c6 a7 T;clear e9 c6 a7 T Y hu hold c7 hy;go_wp2_with fail;go_roundg (ll.length-1-(m+1));·exact⟨m+1,b,u,by omega,rfl,by go_num,rfl,C.2.1,C.1,HN.2.2.1,HN.2.2.2.1,HN.2.2.2.2.1.trans C.2.2.1.all,C.2.2.2⟩
 omega)
 have ty:(y !=(c:Int))=true:=by rw[bne_iff_ne];exact c7
 have b4:∃j,j<ll.length∧(if j=k then(c:Int) else u j)≠t j:=⟨k,b0,by rw[ap rfl,←hold];exact fun e=>c7 e.symm⟩;have C:=J6 e9 c6 a7 T Y b4;clear e9 c6 a7 T Y hold c7 hy b4;go_wp2_with fail;go_roundg (ll.length-1-(m+1))
 ·have T:=C.2.2.2.1
  refine⟨m+1,true,fun j=>if j=k then(c:Int) else u j,by omega,rfl,by go_num,rfl,C.2.1,C.1,(fun h=>by cases h),fun _=>C.2.2.2.2.2,(HN.2.2.2.2.1.trans C.2.2.1.all).setCell (.inl fun h=>h rfl) _,⟨T.pp.far n1 _,T.tp.far n2 _,T.pn.far n3 _,?_⟩⟩;rw[←C.2.2.2.2.1];exact T.tn.set _ _
 omega)
 obtain rfl:m=ll.length-1:=by omega
 rw[show ll.length-1+1=ll.length by omega] at hP;have i0:=hT.tp.cell 0;simp only[gc] at i0;have C:=J6 hP hG b7 o J hT;clear hP hG b7 o J hT;cases b with
 |true=>
  go_wp2_with fail
  go_step3
  refine⟨rfl,_,((GH l.1 l.2.2.1 C.2.1 C.1 _ (cf _)).2 (C.2.2.2.1 (by simp))),ord,pl,u,pb,tb,pn,tn,_,_,rfl,l.1,⟨l.2.2.2.2.2.2.2,l.2.1⟩,sN l.1 l.2.2.1 C.2.1 C.1,⟨rfl,rfl,rfl,rfl,rfl,rfl,rfl,rfl⟩,
   am (l.2.2.2.1.all.trans (C.2.2.2.2.1.mono fun b (hb:b<w.heap.size)=>by show b≠tn;omega)),l.2.2.2.2.1 _ C.2.2.2.2.1,l.2.2.2.2.2.1 _ C.2.2.2.2.1,C.2.2.2.2.2,hh,n1,n2,n3⟩
 |false=>go_wp2_with fail;simp only[Exit.jump];go_ret;obtain rfl:u=t:=C.2.2.1 (by simp);have G:=C.2.1;have O:=l.1;refine⟨_,u,pl,rfl,am (l.2.2.2.1.all.trans (C.2.2.2.2.1.mono fun b (hb:b<w.heap.size)=>by show b≠tn;omega)),sL C.2.2.2.2.2.tn (by omega) (by omega) (fun i hi=>BW G hl hi),⟨O,G,fun j hj=>js C.1 j hj (O.lt j hj),fun j hj x=>BK O l.2.2.1 C.1 hj⟩⟩
end
theorem Ap (S:Nat→Prop)(Y:Value)(j:List Int)(x:Int)(w:World)(Z:aK S w Y j):
 Calls prog 192 #[Y,.int .i64 x] w fun e w'=>(∃r:Int,e=.returned (.int .i64 r)∧decide (0≤r)=pB (x∈j))∧w=w':=by
 obtain⟨a,cap,rfl,h1,h2,_,h⟩:=Z;have H:=oH h;clear h;go_enter func192,ntmps192;go_wp2;go_loopg [8] j.length (fun g s wr=>∃k:Nat,k≤j.length∧g=j.length-k∧s=.int .i64 k∧wr=w∧x∉j.take k);·exact⟨0,by omega,by omega,rfl,rfl,by simp⟩
 obtain⟨k,hk,rfl,rfl,rfl,l⟩:=hrel;by_cases o:k<j.length;·(
 obtain⟨b,off,c,rfl,hs,hc,rfl,hw⟩:=H.out k j[k] (lG o);obtain⟨y,J⟩:=eR (j[k]);rw[J] at hc;have hm:y∈j:=J▸eL o;have C:j.take (k+1)=j.take k++[y]:=by rw[cU,lG o,J];rfl
 by_cases e:x=y
 ·have te:(x==y)=true:=by rw[cy];exact e
  have R:=oH (show pB (x∈j)=true from av (e▸hm));clear J hm l e C;go_wp2_with fail;go_ret;exact⟨⟨k,rfl,by rw[R.out];simp⟩,rfl⟩
 have te:(x==y)=false:=by rw[bE];exact e
 have R:=oH (show x∉j.take (k+1) by rw[C];simp[l,e]);clear J hm l e C;go_wp2_with fail;go_roundg (j.length-(k+1));·exact⟨k+1,by omega,rfl,by go_num,rfl,R.out⟩
 omega)
 obtain rfl:k=j.length:=by omega
 rw[dZ] at l;have R:=oH (show pB (x∈j)=false from au l);clear l;go_wp2_with fail;go_ret;exact⟨⟨-1,rfl,by rw[R.out];decide⟩,rfl⟩
theorem ui (S:Nat→Prop)(l:Value)(j:List Int)(x:Int)(w:World)(J:aK S w l j):
 Calls prog 179 #[l,.int .i64 x] w fun e R=>e=.returned (.bool (pB (x∈j)))∧w=R:=by
 have H:=oH (Ap S l j x w J);obtain⟨a,cap,rfl,h1,h2,_,h⟩:=J;clear h;go_enter func179,ntmps179;go_wp2_with fail;refine H.out.mono ?_;rintro e R ⟨⟨r,rfl,Y⟩,hw⟩;have o:=hw.symm;subst o;obtain⟨p,C⟩:=eR (pB (x∈j));rw[C] at Y;have Z:=oH C;clear C;have a1:decide (r≥0)=p:=Y;go_wp2_with fail;go_ret;exact⟨by rw[Z.out];rfl,rfl⟩
theorem Dl (S:Nat→Prop)(ll:List (List Int))(Y:Value)(t:Nat→Int)(pl:Nat→Nat)(i:Nat)(w:World)(ha:aK S w Y (lV ll.length t))(T:mz ll t pl)(hl:ll.length≤256)(hi:i<ll.length):
 Calls prog 193 #[Y,.int .i64 i] w fun e w'=>e=.returned (.bool true)∧w=w':=by
 obtain⟨a,cap,rfl,h1,h2,h3,h⟩:=ha;rw[nW] at h1 h3⊢;have H:=J2 h T;have t0:=T.good.zero;have o:=T.ord.lt i hi;clear h T;obtain⟨b0,o0,c0,rfl,_,C,rfl,_⟩:=H.1 0 (t 0) (tQ (by omega));rw[t0,dj] at C;clear t0;go_enter func193,ntmps193;go_wp2;go_loopg [1,5] ll.length (fun g x s wr=>∃m j:Nat,m<ll.length∧g=ll.length-m∧s=.int .i64 m∧x=.int .i64 j∧wr=w∧j<ll.length∧pl j+m<ll.length);·exact⟨0,i,by omega,by omega,rfl,rfl,rfl,hi,by omega⟩
 obtain⟨m,j,hm,rfl,rfl,rfl,rfl,Z,a1⟩:=hrel;by_cases l:j=0
 ·have te:((j:Int)==0)=true:=by rw[cy];omega
  clear l;go_wp2_with fail;go_ret;exact⟨rfl,rfl⟩
 have te:((j:Int)==0)=false:=by rw[bE];omega
 obtain⟨p,o,J,a6⟩:=H.2.up Z l;obtain⟨b1,o1,c1,e1,_,R,rfl,_⟩:=H.1 j (t j) (tQ Z);cases e1;rw[o] at R;have tp:decide ((p:Int)<0)=false:=by simp
 clear o l;go_wp2_with fail;go_roundg (ll.length-(m+1));·exact⟨m+1,p,by omega,rfl,by go_num,rfl,rfl,J,by omega⟩
 omega
theorem CI (S:Nat→Prop)(ll:List (List Int))(va:Value)(t:Nat→Int)(pl:Nat→Nat)(i:Nat)(w:World)(ha:aK S w va (lV ll.length t))(T:mz ll t pl)(hl:ll.length≤256)(hi:i<ll.length):
 Calls prog 180 #[va,.int .i64 i] w fun e w'=>∃u,e=.returned u∧aa All w w'∧aK (fun b=>w.heap.size≤b) w' u ((oJ ll.length t i).map fun(n:Nat)=>(n:Int)):=by
 obtain⟨i3,b2,b3,b4,b5⟩:=info_parts kt;have I3:=J4 b2 b3 b4 b5;clear b2 b3 b4 b5;have a1:=fun k (hk:k<ll.length)=>Dl S ll va t pl k w ha T hl hk;have a6:=ah.la ha;obtain⟨a,cap,rfl,h1,h2,h3,h⟩:=ha;rw[nW] at h1 h3 a1 a6⊢;have hp:=T.ord.lt i hi;obtain⟨C,hC⟩:=eR (oJ ll.length t i);have b7:C.length≤ll.length+1:=by rw[←hC];exact uL t _ _
 have b6:∀x∈C,x<ll.length:=fun x hx=>by rw[←hC,oJ,uM T.good x _ i hi (Nat.le_of_lt (T.ord.lt i hi))] at hx;exact(oL T.good hi hx).1
 rw[hC];have H:=J5 a1 T a6 hC b6;clear h T a1 a6 hC b6;have tl:decide ((ll.length:Int)<1)=false:=by simp;omega
 have b8:decide ((ll.length:Int)>256)=false:=by simp;omega
 have ti:decide ((i:Int)<0)=false:=by simp
 have b9:decide (ll.length≤i)=false:=by simp;omega
 have c0:decide ((i:Int)≥(ll.length:Int))=false:=by simp;omega
 go_enter func180,ntmps180;go_wp2_with fail;clear tl b8 ti c0 b9;go_loopg [27] ll.length (fun g s wr=>∃k:Nat,k≤ll.length∧g=ll.length-k∧s=.int .i64 k∧wr=w);·exact⟨0,by omega,by omega,rfl,rfl⟩
 obtain⟨k,hk,rfl,rfl,hw⟩:=hrel;have a7:=hw.symm;subst a7;by_cases c2:k<ll.length
 ·have HL:=oH (H.1 k c2);go_wp2_with fail;refine HL.out.mono ?_;rintro e w' ⟨rfl,hw⟩;have a7:=hw.symm;subst a7;go_wp2_with fail;go_roundg (ll.length-(k+1));·exact⟨k+1,by omega,rfl,by go_num,rfl⟩
  omega
 obtain rfl:k=ll.length:=by omega
 go_wp2_with fail;go_loopg [1,6] (ll.length+1) (fun g x o wr=>∃L:List Nat,((∃j f:Nat,x=.int .i64 j∧j<ll.length∧pl j≤f∧f≤ll.length∧L++kp t f j=C∧g=f+1)∨(x=.int .i64 (-1)∧L=C∧g=0))∧aa All w wr∧wr.ownsRow w.heap.size 3 1 o L.length (aI (L.map fun(n:Nat)=>(n:Int))));·exact⟨[],.inl ⟨i,ll.length,rfl,hi,by omega,cf _,H.2.2.2.1,rfl⟩,kR,rfl,.inl ⟨rfl,rfl⟩⟩
 obtain⟨L,c3,R,J⟩:=hrel;rcases c3 with ⟨j,f,rfl,hj,c8,hf,hL,rfl⟩|⟨rfl,rfl,rfl⟩;·(
 have c9:L.length≤1000:=by have:=congrArg List.length hL;rw[iQ] at this;omega
 obtain⟨b1,o1,c1,rfl,_,a8,rfl,_⟩:=bn (i:=j) (x:=t j) (H.2.2.1 w kR) (tQ hj);have c4:=jy w _ a8;have b0:(wr.alloc (.cells #[.int .i64 j] 3)).ownsRow w.heap.size 3 1 u6 L.length (aI (L.map fun(n:Nat)=>(n:Int))):=be J ((aa.refl All wr).alloc _) (fun _ _=>trivial);have hB:=R.size;have tj:decide ((j:Int)≥0)=true:=by simp
 have d7:decide ((0:Int)≤(j:Int))=true:=by simp
 obtain⟨y,hy⟩:=eR (t j);rw[hy] at a8;have HT:=J3 R hL hy;clear hL hy;go_wp2_with (
  at_builtin;refine aR _ rfl (.tmp 41) (.tmp 43) 45 rfl w.heap.size 3 i3 _ 1 8 underlying45 I3.1 I3.2.1 I3.2.2.1 I3.2.2.2 rfl (by decide) _ _ _ rfl b0 (some ⟨wr.heap.size,0,none⟩) 1 1 [.int .i64 j] rfl rfl ?_ ?_ (by unfold maxLen;omega) (by omega) (by simp;omega) ?_;·intro _;exact⟨_,_,rfl,fun j u hu=>by rw[cN,al.cell (al.new _ _ _)];simpa using hu⟩
  ·intro u hu
   rw[cx.1 hu];rfl
  intro v2 w2 l c5 c7;have Y:aa (fun b=>b<w.heap.size) w w2:=((R.alloc _).all).grown c5 fun g hg=>.inl (by have:=(aD J hg).1;show¬(g<w.heap.size);omega);have d8:=Y.cell (p:=⟨b1,o1+j,none⟩) c4 a8)
 by_cases d9:y<0;·(
 have e1:y= -1:=by have:=H.2.1.good.neg j hj;have:=HT.2.2;omega
 subst e1;have Z:=J2 Y l;clear Y l;go_wp2_with fail;go_roundg 0
 ·refine⟨L++[j],.inr ⟨rfl,?_,rfl⟩,am Z.1,?_⟩
  ·rw[←HT.2.1];cases f with
   |zero=>rfl
   |succ f=>rw[kp,HT.2.2,ap (by decide)]
  simpa [aI] using Z.2
 omega)
 obtain⟨p,hp,c6,e0,_⟩:=H.2.1.good.low j hj (by have:=HT.2.2;omega);rw[HT.2.2] at hp;subst hp;obtain⟨f',rfl⟩:∃f',f=f'+1:=⟨f-1,by omega⟩;have Z:=J2 Y l;clear Y l;go_wp2_with fail;go_roundg (f'+1)
 ·refine⟨L++[j],.inl ⟨p,f',rfl,c6,by omega,by omega,?_,rfl⟩,am Z.1,?_⟩
  ·rw[←HT.2.1,kp,HT.2.2,ae (by omega),dP,jM];rfl
  simpa [aI] using Z.2
 omega)
 have Z:=J2 R J;have e2:L.length≤ll.length+1:=b7;clear R J;go_wp2_with fail;go_ret;refine⟨_,rfl,Z.1,jr Z.2 (by rw[ce]) (by rw[ce];omega) (fun g hg=>(aD Z.2 hg).1) fun x hx=>?_⟩;obtain⟨n,hn,rfl⟩:=dr.1 hx;exact tT (by have:=H.2.2.2.2 n hn;omega)
theorem uk (S:Nat→Prop)(ll:List (List Int))(o:Value)(t:Nat→Int)(pl:Nat→Nat)(a i:Nat)(w:World)(Y:aK S w o (lV ll.length t))(T:mz ll t pl)(Z:ll.length≤256)(hi:i<ll.length):
 Calls prog 149 #[o,.int .i64 a,.int .i64 i] w fun e w'=>e=.returned (.bool (pB (¬gA (dH ll) a i)))∧aa All w w':=by
 have H:=oH (CI S ll o t pl i w Y T Z hi);have j:=zP T (x:=a) hi;have e:pB ((a:Int)∈(oJ ll.length t i).map fun(n:Nat)=>(n:Int))=pB (¬gA (dH ll) a i):=by congr 1;rw[eq_iff_iff,←j,dr];exact⟨fun⟨n,hn,e⟩=>Int.ofNat.inj e▸hn,fun h=>⟨a,h,rfl⟩⟩
 have HE:=oH e;obtain⟨A,cap,rfl,h1,h2,_,h⟩:=Y;clear h j e T;go_enter func149,ntmps149;go_wp2_with fail;refine H.out.mono ?_;rintro e w1 ⟨u,rfl,l,hu⟩;have C:=ui _ u _ a w1 hu;obtain⟨q,J⟩:=eR (pB ((a:Int)∈(oJ ll.length t i).map fun(n:Nat)=>(n:Int)));rw[J] at C;have HC:=oH C;have HQ:=oH J;clear C J;have HK:=oH l;clear l hu;go_wp2_with fail;refine HC.out.mono ?_;rintro e w2 ⟨rfl,hw⟩;have R:=hw.symm;subst R;go_wp2_with fail;go_ret;exact⟨by rw[←HE.out,HQ.out];rfl,HK.out⟩
section
section
variable {α:Type} {M:List (List α)}
def fe (M:List (List α))(k i:Nat):List α:=(M.take k).flatten++(M.getD k []).take i
theorem mt {k i:Nat}{l:List α}{y:α}(h:M[k]? =some l)(j:l[i]? =some y):fe M k (i+1)=fe M k i++[y]:=by unfold fe;rw[iG,h,Option.getD_some,cU,j,jM];rfl
theorem qK {k:Nat}{l:List α}(h:M[k]? =some l):fe M k l.length=fe M (k+1) 0:=by unfold fe;rw[iG,h,Option.getD_some,dZ,List.take_zero,List.append_nil,cU,h,List.flatten_append];simp
theorem qJ:fe M M.length 0=M.flatten:=by simp[fe]
theorem Ep {k i:Nat}{l:List α}{y:α}(h:M[k]? =some l)(j:l[i]? =some y):fe M k i++[y]<+:M.flatten:=by
 rw[←mt h j];refine⟨l.drop (i+1)++(M.drop (k+1)).flatten,?_⟩;unfold fe;rw[iG,h,Option.getD_some,jM,←jM (l.take (i+1)),List.take_append_drop];conv=>rhs;rw[kE h]
 rw[List.flatten_append,List.flatten_cons]
end
theorem kX {α β γ:Type}(f:β→γ)(g:Nat→α→β)(l:List α):(l.mapIdx g).map f=l.mapIdx fun i x=>f (g i x):=by apply List.ext_getElem?;intro i;rw[cL,jA,jA];cases l[i]?<;>rfl
abbrev iL:=Nat×Nat×bz
def cd (L:List (List bz)):List (List iL):=L.mapIdx fun i l=>l.mapIdx fun k x=>(i,k,x)
theorem nP {L:List (List bz)}{i:Nat}{l:List bz}(h:L[i]? =some l):(cd L)[i]? =some (l.mapIdx fun k x=>(i,k,x)):=by unfold cd;rw[jA,h];rfl
theorem wT {l:List bz}{i k:Nat}{x:bz}(h:l[k]? =some x):(l.mapIdx fun k x=>(i,k,x))[k]? =some (i,k,x):=by rw[jA,h];rfl
theorem Aq (L:List (List bz)):(cd L).length=L.length:=by simp[cd]
theorem nR {L:List (List bz)}{t:iL}:t∈(cd L).flatten↔∃l,L[t.1]? =some l∧l[t.2.1]? =some t.2.2:=by
 constructor;·intro h;obtain⟨r,j,o⟩:=List.mem_flatten.1 h;obtain⟨i,hi,rfl⟩:=List.mem_mapIdx.1 j;obtain⟨k,C,rfl⟩:=List.mem_mapIdx.1 o;exact⟨_,lG hi,lG C⟩
 rintro⟨l,J,R⟩;obtain⟨i,k,x⟩:=t;exact List.mem_flatten.2 ⟨_,mG (nP J),mG (wT R)⟩
theorem pE {f:Nat→Nat→bz→Int}{L:List (List bz)}:ls f L=(((cd L).flatten.map fun t=>(t.2.2.Nj,f t.1 t.2.1 t.2.2)).find? fun t=>decide (t.2≠0)).getD (0,0):=by unfold ls cd;rw[List.map_flatten,kX];congr 4;funext i l;rw[kX]
theorem CW {f:Nat→Nat→bz→Int}{L:List (List bz)}(h:∀t∈(cd L).flatten,f t.1 t.2.1 t.2.2=0):ls f L=(0,0):=by
 rw[pE,List.find?_eq_none.2];·rfl
 intro t j;obtain⟨u,hu,rfl⟩:=dr.1 j;simp[h u hu]
theorem Ah {f:Nat→Nat→bz→Int}{L:List (List bz)}{pre:List iL}{t:iL}(j:pre++[t]<+:(cd L).flatten)(h:∀u∈pre,f u.1 u.2.1 u.2.2=0)(l:f t.1 t.2.1 t.2.2≠0):ls f L=(t.2.2.Nj,f t.1 t.2.1 t.2.2):=by
 obtain⟨r,o⟩:=j;rw[pE,←o,jM,ic,List.singleton_append,List.map_cons,sB];·rfl
 ·intro y C
  obtain⟨u,hu,rfl⟩:=dr.1 C;simp[h u hu]
 simpa using l
def iV (pre:List iL)(v:Int):Int×Int:=match pre.find? (fun t=>decide (t.2.2.dst=v)) with|some t=>(t.1,t.2.1)|none=>(-1,-1)
theorem rA (pre:List iL)(v:Int):(iV pre v=(-1,-1)∧∀t∈pre,t.2.2.dst≠v)∨∃t∈pre,t.2.2.dst=v∧iV pre v=((t.1:Int),(t.2.1:Int)):=by
 unfold iV;cases h:pre.find? (fun t=>decide (t.2.2.dst=v)) with
 |none=>exact .inl ⟨rfl,fun t j=>by simpa using List.find?_eq_none.1 h t j⟩
 |some t=>exact .inr ⟨t,List.mem_of_find?_eq_some h,by simpa using List.find?_some h,rfl⟩
theorem uQ {pre:List iL}{t:iL}{v:Int}:iV (pre++[t]) v=if t.2.2.dst=v∧∀u∈pre,u.2.2.dst≠v then((t.1:Int),(t.2.1:Int)) else iV pre v:=by
 unfold iV;rw[List.find?_append];cases h:pre.find? (fun t=>decide (t.2.2.dst=v)) with
 |some u=>
  rw[ae];·rfl
  rintro⟨_,j⟩;exact j u (List.mem_of_find?_eq_some h) (by simpa using List.find?_some h)
 |none=>
  have l:∀u∈pre,u.2.2.dst≠v:=fun u hu=>by simpa using List.find?_eq_none.1 h u hu
  by_cases e:t.2.2.dst=v;·rw[ap ⟨e,l⟩];simp[e]
  rw[ae fun h=>e h.1];simp[e]
theorem BO {pre:List iL}{t:iL}{v:Int}(h:t.2.2.dst≠v):iV (pre++[t]) v=iV pre v:=by rw[uQ,ae fun h'=>h h'.1]
theorem Ft {pre:List iL}{t:iL}(h:∀u∈pre,u.2.2.dst≠t.2.2.dst):iV (pre++[t]) t.2.2.dst=((t.1:Int),(t.2.1:Int)):=by rw[uQ,ap ⟨rfl,h⟩]
theorem qr {b:aw}{v:Int}{i k:Nat}:jF b v i k↔∃x,(i,k,x)∈(cd b.Ng).flatten∧x.dst=v:=by
 constructor
 ·rintro⟨l,x,j,o,C⟩
  exact⟨x,nR.2 ⟨l,j,o⟩,C⟩
 rintro⟨x,h,C⟩;obtain⟨l,j,o⟩:=nR.1 h;exact⟨l,x,j,o,C⟩
def jp (b:aw):List (Int×Int):=(List.range b.vars.toNat).map fun v:Nat=>iV (cd b.Ng).flatten v
theorem Dj {L:List (List bz)}{pre:List iL}{t u:iL}(Y:pre++[t]<+:(cd L).flatten)(hu:u∈pre):t.1≠u.1∨t.2.1≠u.2.1:=by
 refine Classical.byContradiction fun h=>?_;have o:t.1=u.1:=Classical.byContradiction fun e=>h (.inl e);have C:t.2.1=u.2.1:=Classical.byContradiction fun e=>h (.inr e);obtain⟨m,hm,J⟩:=List.getElem_of_mem hu;obtain⟨r,R⟩:=Y;have Z:(cd L).flatten[m]? =some u:=by rw[←R,jM,ma hm,lG hm,J]
 have a2:(cd L).flatten[pre.length]? =some t:=by rw[←R,jM,kH (by omega)];simp
 obtain⟨i,k,l,b1,b2,b3⟩:=pF Z;obtain⟨j,n,l',c1,c2,c3⟩:=pF a2;have hi:∀ {i k:Nat} {l:List iL} {t:iL},(cd L)[i]? =some l→l[k]? =some t→t.1=i∧t.2.1=k:=by intro i k l t o C;unfold cd at o;rw[jA] at o;obtain⟨l0,_,rfl⟩:=oE.1 o;rw[jA] at C;obtain⟨x,_,rfl⟩:=oE.1 C;exact⟨rfl,rfl⟩
 obtain⟨d1,d2⟩:=hi b1 b2;obtain⟨e1,e2⟩:=hi c1 c2;have:i=j:=by omega
 subst this;have:k=n:=by omega
 subst this;omega
theorem As {b:aw}(o:gY b){pre:List iL}{t u:iL}(j:pre++[t]<+:(cd b.Ng).flatten)(hu:u∈pre)(C:t.2.2.dst≠-1):u.2.2.dst≠t.2.2.dst:=by
 intro e;have J:t∈(cd b.Ng).flatten:=j.subset (eD.2 (.inr (cx.2 rfl)));have l:u∈(cd b.Ng).flatten:=j.subset (eD.2 (.inl hu));obtain⟨R,Y⟩:=o.once t.2.2.dst t.1 t.2.1 u.1 u.2.1 C (qr.2 ⟨_,J,rfl⟩) (qr.2 ⟨_,l,e⟩);rcases Dj j hu with h|h;·exact h R
 exact h Y
theorem vt (L:List (List bz)):(cd L).flatten.map (fun t=>t.2.2)=L.flatten:=by
 unfold cd;rw[List.map_flatten,kX];congr 1;apply List.ext_getElem?;intro i;rw[jA];cases h:L[i]? with
 |none=>rfl
 |some l=>show some _=some l;congr 1;show(l.mapIdx fun k x=>((i,k,x):iL)).map (fun t=>t.2.2)=l;rw[kX];apply List.ext_getElem?;intro k;rw[jA];cases l[k]?<;>rfl
theorem xY (l r:List bz):og (l++r)=og l+og r:=by simp[og]
theorem xZ (x:bz):og [x]=if x.dst= -1 then 0 else 1:=by
 unfold og;by_cases h:x.dst= -1;·simp[h]
 simp[h]
end
end Go.Proofs.YtncdbjponknakaaGreatDoor
