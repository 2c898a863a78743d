/- Part 24 of the proof (its last part says what is proved). No condition. -/
import Derived.Test.YtgdlhckhpolnnaaGreatDoorK22
namespace Go.Proofs.YtgdlhckhpolnnaaGreatDoor
set_option maxRecDepth 100000
set_option maxHeartbeats 8000000
open Go.RowKit Go.Proofs.Tryz
section
theorem tX {P:Program}{a:Act}{w:World}{Q:Exit→Act→World→Prop}{c rest:Code}(l:Nat)(J:Nat→Act→World→Prop)(R:findLabel c l=some (Code.skip.seq rest))
 (pass:∀m a w,J m a w→rest.wp P (Exit.jump l (fun o w'=>∃j,j<m∧J j o w') Q) a w)
 (first:(∀m a w,J m a w→rest.wp P (Exit.jump l (fun o w'=>∃j,J j o w') Q) a w)→c.wp P (Exit.jump l (fun o w'=>∃j,J j o w') Q) a w):(Code.scope c).wp P Q a w:=by
 refine wp_scope_jumps l (fun o w'=>∃j,J j o w') (fun o w'=>Go.leastOf fun m=>J m o w') R (first fun m a w C=>wp_mono (pass m a w C) ?_) ?_;·(
 intro e o w' h;cases e with
 |goto Y=>exact⟨h.1,let⟨j,_,hm⟩:=h.2;⟨j,hm⟩⟩
 |normal=>exact h
 |exit id=>exact h
 |ret=>exact h
 |panic ch=>exact h
 |outgrown=>exact h)
 rintro a w C;obtain⟨h1,h2⟩:=Go.leastOf_spec (p:=fun m=>J m a w) C;refine wp_seq (wp_skip (wp_mono (pass _ a w h1) ?_));intro e o w' h;cases e with
 |goto Y=>obtain⟨h3,j,hm,I⟩:=h;refine⟨h3,⟨j,I⟩,?_⟩;have:=(Go.leastOf_spec (p:=fun m=>J m o w') ⟨j,I⟩).2 j I;show Go.leastOf _<Go.leastOf _;omega
 |normal=>exact h
 |exit id=>exact h
 |ret=>exact h
 |panic ch=>exact h
 |outgrown=>exact h
theorem Is (T:Array Value)(n:Nat)(h:T.size=n):T=((List.range n).map fun i=>T.getD i undef).toArray:=by
 apply Array.ext_getElem?;intro i;by_cases hi:i<n;·simp[hi,h]
 rw[jK (by omega),jK (by simp;omega)]
def kD (ord:List Nat)(i k:Nat):Int:=if ord.idxOf k<i then ord.idxOf k else 0
theorem Gx {ll:List (List Int)}{ord:List Nat}(O:Cw ll ord){j:Nat}(C:j<ll.length):ord[ord.idxOf j]? =some j:=by
 have h1:=O.op.lt j C;have o:ord.idxOf j<ord.length:=by rw[O.len];exact h1
 rw[lG o,List.getElem_idxOf]
theorem DG {ll:List (List Int)}{ord:List Nat}(O:Cw ll ord){i k:Nat}(h:ord[i]? =some k):kD ord (i+1) k=i:=by unfold kD;rw[O.at' i k h,ap (by omega)]
theorem DH {ll:List (List Int)}{ord:List Nat}(O:Cw ll ord){i k j:Nat}(h:ord[i]? =some k)(C:j<ll.length)(o:j≠k):kD ord (i+1) j=kD ord i j:=by
 have:ord.idxOf j≠i:=fun e=>by have:=Gx O C;rw[e,h] at this;exact o (kJ this).symm
 unfold kD;by_cases h1:ord.idxOf j<i;·rw[ap (by omega),ap h1]
 rw[ae (by omega),ae h1]
theorem AL {ll:List (List Int)}{ord:List Nat}(O:Cw ll ord){k:Nat}(j:k<ll.length):kD ord ll.length k=ord.idxOf k:=by unfold kD;rw[ap (O.op.lt k j)]
theorem BW {n:Nat}{pl:Nat→Nat}{t:Nat→Int}(G:fU n pl t)(C:n≤256){j:Nat}(o:j<n):(Lit.int .i64 (t j)).wf=true:=by
 by_cases h:0≤t j
 ·obtain⟨p,e,I,_⟩:=G.low j o h
  rw[e];exact tT (by omega)
 have:=G.neg j o;rw[show t j= -1 by omega];decide
open Classical in
noncomputable def vM (ll:List (List Int))(k:Nat):List Nat:=(List.range ll.length).filter fun a=>decide (dH ll a k)
theorem GL (ll:List (List Int))(k:Nat):di ll ll.length k=(vM ll k).map fun(n:Nat)=>(n:Int):=rfl
open Classical in
theorem DJ {ll:List (List Int)}{k p:Nat}:p∈vM ll k↔dH ll p k:=by unfold vM;rw[List.mem_filter,fg,qal];exact⟨fun h=>h.2,fun h=>⟨lq h,h⟩⟩
open Classical in
theorem DI (ll:List (List Int))(k:Nat):(vM ll k).length≤ll.length:=by unfold vM;have:=List.length_filter_le (fun a=>decide (dH ll a k)) (List.range ll.length);rwa [List.length_range] at this
def Ke (ll:List (List Int))(J:Value)(o:World)(m:Nat)(a:Act)(w:World):Prop:=
 ∃(ord:List Nat) (pl:Nat→Nat) (t:Nat→Int) (pb j g h:Nat) (C I:Value),m=xd pl ll.length t ll.length∧zJ (dH ll) ll.length pl∧(ord.length=ll.length∧∀(m:Nat) x,ord[m]? =some x→pl x=m∧x<ll.length)∧rR (dH ll) ll.length pl t∧
  (a.defers=[]∧a.tmps.size=110∧a.tmps.getD 0 undef=J∧a.tmps.getD 5 undef=C∧a.tmps.getD 6 undef=I∧a.tmps.getD 7 undef=.pointer (some ⟨pb,0,none⟩)∧a.tmps.getD 10 undef=.pointer (some ⟨j,0,none⟩)∧a.tmps.getD 12 undef=.func (.func 172) #[] #[.pointer (some ⟨pb,0,none⟩),.pointer (some ⟨j,0,none⟩)])∧
  aa All o w∧aK (fun b=>b≠h) w C (ord.map fun(n:Nat)=>(n:Int))∧Rows (fun b=>b≠h) w I (gF ll)∧qQ ll.length pl t pb j g h w∧o.heap.size≤h∧pb≠h∧j≠h∧g≠h
theorem En {ll:List (List Int)}{R:Value}{I:World}{m:Nat}{a:Act}{w:World}(h:Ke ll R I m a w):
 ∃(f:Nat→Value) (ord:List Nat) (pl:Nat→Nat) (t:Nat→Int) (pb j g h:Nat) (o C:Value),m=xd pl ll.length t ll.length∧zJ (dH ll) ll.length pl∧(ord.length=ll.length∧∀(m:Nat) x,ord[m]? =some x→pl x=m∧x<ll.length)∧rR (dH ll) ll.length pl t∧
 a= {tmps:=#[R,f 1,f 2,f 3,f 4,o,C,.pointer (some ⟨pb,0,none⟩),f 8,f 9,.pointer (some ⟨j,0,none⟩),f 11,.func (.func 172) #[] #[.pointer (some ⟨pb,0,none⟩),.pointer (some ⟨j,0,none⟩)],f 13,f 14,f 15,f 16,f 17,f 18,f 19,f 20,f 21,f 22,f 23,f 24,f 25,f 26,f 27,f 28,f 29,f 30,f 31,f 32,f 33,f 34,f 35,f 36,f 37,f 38,f 39,f 40,f 41,f 42,f 43,f 44,f 45,f 46,f 47,f 48,f 49,f 50,f 51,f 52,f 53,f 54,f 55,f 56,f 57,f 58,f 59,f 60,f 61,f 62,f 63,f 64,f 65,f 66,f 67,f 68,f 69,f 70,f 71,f 72,f 73,f 74,f 75,f 76,f 77,f 78,f 79,f 80,f 81,f 82,f 83,f 84,f 85,f 86,f 87,f 88,f 89,f 90,f 91,f 92,f 93,f 94,f 95,f 96,f 97,f 98,f 99,f 100,f 101,f 102,f 103,f 104,f 105,f 106,f 107,f 108,f 109],defers:=[]}∧
 aa All I w∧aK (fun b=>b≠h) w o (ord.map fun(n:Nat)=>(n:Int))∧Rows (fun b=>b≠h) w C (gF ll)∧qQ ll.length pl t pb j g h w∧I.heap.size≤h∧pb≠h∧j≠h∧g≠h:=by
 obtain⟨ord,pl,t,pb,j,g,h,o,C,h1,h2,J,h3,⟨d1,d2,d30,d35,d36,d37,d310,d312⟩,h4⟩:=h;obtain⟨T,D⟩:=a;simp only at d1 d2 d30 d35 d36 d37 d310 d312;have Y:=Is T 110 d2;generalize hf:(fun i=>T.getD i undef)=f at Y;have hg:∀i,T.getD i undef=f i:=fun i=>by rw[←hf]
 rw[hg] at d30 d35 d36 d37 d310 d312;refine⟨f,ord,pl,t,pb,j,g,h,o,C,h1,h2,J,h3,?_,h4⟩;rw[d1,Y,←d312,←d310,←d37,←d36,←d35,←d30];rfl
theorem Hu (S:Nat→Prop)(v:Value)(ll:List (List Int))(w:World)(hv:Rows S w v ll)(hR:aP ll)(hL:∀k,k<ll.length→aQ ll 0 k):
 Calls prog 105 #[v] w fun e w'=>∃u t pl,e=.returned u∧aa All w w'∧aK (fun b=>w.heap.size≤b) w' u (lV ll.length t)∧mz ll t pl:=by
 have b0:=fun w1 (R:aa All w w1)=>gt S v ll w1 (aq.keep R.all hv);rw[bL hR] at b0;have d7:∀w1,aa All w w1→Calls prog 103 #[v] w1 fun e w'=>e=.returned (.tuple #[.int .i64 0,.bool false])∧aa All w1 w':=fun w1 R=>by refine(yC S v ll w1 (aq.keep R.all hv) hR).mono ?_;rw[hZ fun k R h=>h.2 (hL k R)];exact fun e w' h=>h
 have h5:=fun w1 (R:aa All w w1)=>Aj S v ll w1 (aq.keep R.all hv) hR hL;have d8:=fun w1 (R:aa All w w1)=>sd S v ll w1 (aq.keep R.all hv) hR;obtain⟨a,cap,rfl,h1,h2,k7,h⟩:=hv;have hl:ll.length≤256:=hR.2.1;have l4:1≤ll.length:=hR.1;have HR:=J5 d7 b0 h5 d8 hR;clear h h1 h2 k7 b0 d7 h5 d8 hR hL;have k8:=fun w=>wX ll.length (by omega) w;go_enter func105,ntmps105;go_wp2;refine tX 0 (Ke ll (.slice a ll.length cap) w) rfl ?pass ?first
 case first=>(
 intro HP;have HP:=oH HP;go_wp2_with fail;refine(HR.1 _ kR).mono ?_;rintro e w1 ⟨rfl,j2⟩;have j3:=oH j2;clear j2;go_wp2_with fail;refine(HR.2.1 _ j3.out).mono ?_;rintro e w2 ⟨rfl,j4⟩;have j5:=oH (j3.out.trans j4);clear j4;go_wp2_with fail;refine(HR.2.2.1 _ j5.out).mono ?_;rintro e w3 ⟨u,ord,rfl,j6,h9,hO⟩;have HO:=J3 (j5.out.trans j6) (kV h9) hO;have d9:(ord.map Int.ofNat).length=ll.length:=by rw[ce,hO.len]
 have c5:=ah.la h9;obtain⟨oa,oc,rfl,o1,o2,o3,_⟩:=h9;rw[d9] at o1 o3 c5 HO⊢;have HV:=oH c5;clear j6 hO c5;go_wp2_with fail;refine(HR.2.2.2.1 _ HO.1).mono ?_;rintro e w4 ⟨ub,rfl,j0,j7⟩;have HB:=J3 (HO.1.trans j0) j0 (jh j7);clear j0 j7;go_wp2_with fail;go_loopg [39] ll.length (fun gg x wr=>∃i:Nat,i≤ll.length∧gg=ll.length-i∧x=.int .i64 i∧aa All w4 wr∧w4.heap.size+1<wr.heap.size∧al wr w4.heap.size 3 (aN ll.length (kD ord i))∧al wr (w4.heap.size+1) 54 #[.slice (some ⟨w4.heap.size,0,none⟩) ll.length ll.length]);·exact⟨0,by omega,by omega,rfl,(kR.alloc _).alloc _,by simp,(al.new _ _ _).alloc _,ac (by simp)⟩
 obtain⟨i,hi,rfl,rfl,J,k9,C,a7⟩:=hrel;have c1:=a7.cl 0;by_cases e0:i<ll.length
 ·obtain⟨k,R⟩:∃k,ord[i]? =some k:=⟨_,lG (by rw[HO.2.2.len];exact e0)⟩;obtain⟨b5,o5,v5,rfl,_,j1,rfl,_⟩:=bn (i:=i) (x:=(k:Int)) (HV.out wr (HB.2.1.trans J)) (by rw[cL,R];rfl);have b2:=HO.2.2.lt k (mG R);have c2:=C.cell k;have f2:=C.free k;rw[bI b2] at c2;have Y:(aN ll.length (kD ord i)).setIfInBounds k (.int .i64 i)=aN ll.length (kD ord (i+1)):=oS (DG HO.2.2 R) fun j hj b7=>DH HO.2.2 R hj b7;have HX:=J4 J C a7 Y;clear J C a7 Y R;go_wp2_with fail;go_roundg (ll.length-(i+1));·exact⟨i+1,by omega,rfl,by go_num,HX.1.setCell (.inr (cf _)) _,by simpa using k9,by rw[←HX.2.2.2];exact HX.2.1.set _ _,HX.2.2.1.far (by simp) _⟩
  omega
 obtain rfl:i=ll.length:=by omega
 have HX:=J3 J C a7;clear J C a7;obtain⟨w5,rfl⟩:=eQ wr;go_wp2_with fail;go_loopg [54] ll.length (fun gg x wr=>∃i:Nat,i≤ll.length∧gg=ll.length-i∧x=.int .i64 i∧aa All w5 wr∧w5.heap.size+1<wr.heap.size∧al wr w5.heap.size 3 (aN ll.length (fun k=>if k<i then-1 else 0))∧al wr (w5.heap.size+1) 54 #[.slice (some ⟨w5.heap.size,0,none⟩) ll.length ll.length]);·exact⟨0,by omega,by omega,rfl,(kR.alloc _).alloc _,by simp,(al.new _ _ _).alloc _,ac (by simp)⟩
 obtain⟨i,hi,rfl,rfl,J,j8,C,a7⟩:=hrel;have c1:=a7.cl 0;by_cases e0:i<ll.length
 ·have c2:=C.cell i;have f2:=C.free i;rw[bI e0] at c2;have Y:(aN ll.length (fun k=>if k<i then-1 else 0)).setIfInBounds i (.int .i64 (-1))=aN ll.length (fun k=>if k<i+1 then-1 else 0):=oS (ap (by omega)) fun j hj b7=>by
   by_cases h:j<i;·rw[ap h,ap (by omega)]
   rw[ae h,ae (by omega)]
  have HY:=J4 J C a7 Y;clear J C a7 Y;go_wp2_with fail;go_roundg (ll.length-(i+1));·exact⟨i+1,by omega,rfl,by go_num,HY.1.setCell (.inr (cf _)) _,by simpa using j8,by rw[←HY.2.2.2];exact HY.2.1.set _ _,HY.2.2.1.far (by simp) _⟩
  omega
 obtain rfl:i=ll.length:=by omega
 have HY:=J3 J C a7;clear J C a7;go_wp2_with fail
 go_step3
 rename_i hK;refine hK _ _ (HP.out (xd (fun x=>ord.idxOf x) ll.length (fun _=> -1) ll.length) _ _ ?_);have O:=HO.2.2;have e1:aN ll.length (kD ord ll.length)=aN ll.length (fun x=>(ord.idxOf x:Int)):=ex fun k R=>AL O R;have e2:aN ll.length (fun k=>if k<ll.length then-1 else 0)=aN ll.length (fun _=>(-1:Int)):=ex fun k R=>ap R;have b1:=HX.2.1;have b3:=HY.2.1;rw[e1] at b1;rw[e2] at b3;have s4:=HX.1.size;have s3:=HB.2.1.size;have s0:=HO.1.size
 refine⟨ord,fun x=>ord.idxOf x,fun _=> -1,w4.heap.size+1,w5.heap.size+1,w4.heap.size,w5.heap.size,_,_,rfl,O.op,⟨O.len,fun m x hx=>⟨O.at' m x hx,O.lt x (mG hx)⟩⟩,Jr O.op fun _ _=>rfl,⟨rfl,rfl,rfl,rfl,rfl,rfl,rfl,rfl⟩,
  (HB.1.trans HX.1).trans HY.1,?_,?_,⟨HX.2.2.kept HY.1 trivial,HY.2.2,b1.kept HY.1 trivial,b3⟩,by omega,by omega,by omega,by omega⟩
 ·exact ah.wide (fun b hb=>by have:b<w3.heap.size:=hb;omega) (ah.keep ((HB.2.1.trans HX.1).trans HY.1).all HO.2.1)
 exact aq.wide (fun b hb=>by have:b<w4.heap.size:=hb;omega) (aq.keep (HX.1.trans HY.1).all HB.2.2))
 clear k8;intro m aj wj hJ;obtain⟨f,ord,pl,t,pb,tb,pn,tn,V5,V6,rfl,O,⟨d9,OA⟩,K,rfl,e3,c5,j9,hT,hh,n1,n2,n3⟩:=En hJ;clear hJ;have c4:=fun wn (R:aa (fun b=>b≠tn) wj wn)=>ah.keep R c5;have e4:=fun wn (R:aa (fun b=>b≠tn) wj wn)=>aq.keep R j9;have h6:(ord.map fun(n:Nat)=>(n:Int)).length=ll.length:=by rw[ce,d9]
 obtain⟨k0,h7⟩:∃k0,ord[0]? =some k0:=⟨_,lG (by omega)⟩;obtain⟨oa,oc,rfl,o1,o2,o3,_⟩:=c5;rw[h6] at o1 o3 c4⊢;obtain⟨ob,oo,vv,rfl,_⟩:=bn (i:=0) (x:=(k0:Int)) (c4 wj kR) (by rw[cL,h7];rfl);obtain⟨ba,bc,rfl,p1,p2,p3,_⟩:=j9;rw[fK] at p1 p3 e4⊢;unfold maxLen at o2 p2;have o:=J8 O OA K e3 c4 e4 hT d9;clear O OA K e3 c4 e4 h6 hT d9 h7;go_wp2_with fail;·(
 subst h;have l5:ll.length≤1:=o1;go_loopg [13,65] (ll.length-1) (fun gg ch x wr=>∃(m:Nat) (b:Bool) (u:Nat→Int),m≤ll.length-1∧gg=ll.length-1-m∧x=.int .i64 m∧ch=.bool b∧gQ (dH ll) ll.length pl t u (m+1)∧fU ll.length pl u∧(b=false→u=t)∧(b=true→∃j,j<ll.length∧u j≠t j)∧aa (fun b=>b≠tn) wj wr∧qQ ll.length pl u pb tb pn tn wr)
 case atStart=>refine⟨0,false,t,by omega,by omega,rfl,rfl,GA t 1 fun k R h0=>?_,o.2.2.1.1.good,fun _=>rfl,(fun h=>by cases h),kR,o.2.2.2.2.2.2.1⟩;have e1:pl k≠pl 0:=fun e=>h0 (o.1.inj _ _ R o.1.pos e);have e2:=o.1.zero;omega
 obtain⟨m,b,u,hm,rfl,rfl,rfl,hP,hG,b8,C,J,hT⟩:=hrel;by_cases e0:m<ll.length-1;·exfalso;omega
 obtain rfl:m=ll.length-1:=by omega
 rw[show ll.length-1+1=ll.length by omega] at hP;have l0:=hT.tp.cl 0;have I:=J6 hP hG b8 C J hT;clear hP hG b8 C J hT;cases b with
 |true=>
  go_wp2_with fail
  go_step3
  refine⟨rfl,_,((GH o.1 o.2.2.1 I.2.1 I.1 _ (cf _)).2 (I.2.2.2.1 (by simp))),ord,pl,u,pb,tb,pn,tn,_,_,rfl,o.1,⟨o.2.2.2.2.2.2.2,o.2.1⟩,sN o.1 o.2.2.1 I.2.1 I.1,⟨rfl,rfl,rfl,rfl,rfl,rfl,rfl,rfl⟩,
   am (o.2.2.2.1.all.trans (I.2.2.2.2.1.mono fun b (hb:b<w.heap.size)=>by show b≠tn;omega)),o.2.2.2.2.1 _ I.2.2.2.2.1,o.2.2.2.2.2.1 _ I.2.2.2.2.1,I.2.2.2.2.2,hh,n1,n2,n3⟩
 |false=>go_wp2_with fail;simp only[Exit.jump];go_ret;obtain rfl:u=t:=I.2.2.1 (by simp);have G:=I.2.1;have O:=o.1;refine⟨_,u,pl,rfl,am (o.2.2.2.1.all.trans (I.2.2.2.2.1.mono fun b (hb:b<w.heap.size)=>by show b≠tn;omega)),sL I.2.2.2.2.2.tn (by omega) (by omega) (fun i hi=>BW G hl hi),⟨O,G,fun j hj=>js I.1 j hj (O.lt j hj),fun j hj x=>BK O o.2.2.1 I.1 hj⟩⟩)
 skip;go_loopg [13,65] (ll.length-1) (fun gg ch x wr=>∃(m:Nat) (b:Bool) (u:Nat→Int),m≤ll.length-1∧gg=ll.length-1-m∧x=.int .i64 m∧ch=.bool b∧gQ (dH ll) ll.length pl t u (m+1)∧fU ll.length pl u∧(b=false→u=t)∧(b=true→∃j,j<ll.length∧u j≠t j)∧aa (fun b=>b≠tn) wj wr∧qQ ll.length pl u pb tb pn tn wr)
 case atStart=>refine⟨0,false,t,by omega,by omega,rfl,rfl,GA t 1 fun k R h0=>?_,o.2.2.1.1.good,fun _=>rfl,(fun h=>by cases h),kR,o.2.2.2.2.2.2.1⟩;have e1:pl k≠pl 0:=fun e=>h0 (o.1.inj _ _ R o.1.pos e);have e2:=o.1.zero;omega
 obtain⟨m,b,u,hm,rfl,rfl,rfl,hP,hG,b8,C,J,hT⟩:=hrel;by_cases e0:m<ll.length-1;·(
 obtain⟨k,R⟩:∃k,ord[m+1]? =some k:=⟨_,lG (by rw[o.2.2.2.2.2.2.2];omega)⟩;obtain⟨c6,b2⟩:=o.2.1 _ k R;have e3:k≠0:=fun e=>by subst e;have:=o.1.zero;omega
 obtain⟨b5,o5,v5,l1,_,j1,rfl,_⟩:=bn (i:=m+1) (x:=(k:Int)) (o.2.2.2.2.1 wr J) (by rw[cL,R];rfl);cases l1;rw[show oo+(m+1)=oo+1+m by omega] at j1;obtain⟨q,hq⟩:=eR (vM ll k);have k1:∀p,p∈q↔dH ll p k:=fun p=>by rw[←hq];exact DJ
 have l6:q.length≤256:=by rw[←hq];exact fR (DI ll k) hl
 obtain⟨rb,ro,rv,rfl,_,k2,k3⟩:=bn (x:=q.map fun(n:Nat)=>(n:Int)) (o.2.2.2.2.2.1 wr J) (by rw[mX b2,GL,hq]);have e5:=ah.la k3;obtain⟨qa,qc,rfl,q1,q2,q3,_⟩:=k3;rw[ce] at q1 q3 e5 k2;have k4:=fun wn (R:aa All wr wn)=>hT.keep R trivial trivial trivial trivial;have HN:=J10 hP hG b8 C J k4 k1 e5 c6 e3;clear hP hG b8 C J hT k4 k1 e5 R hq c6 e3;obtain⟨wo,rfl⟩:=eQ wr;go_wp2_with fail;go_loopg [16,74] q.length (fun gg nr x wr=>∃(j:Nat) (v:Int),j≤q.length∧gg=q.length-j∧x=.int .i64 j∧nr=.int .i64 v∧lA u (q.take j) v∧aa All wo wr);·exact⟨0,-1,by omega,by omega,rfl,rfl,by rw[List.take_zero];exact Dv u,kR⟩
 clear j1 k2;obtain⟨j,v,hj,rfl,rfl,rfl,hN,a8⟩:=hrel;have T:=HN.2.2.2.2.2.1 _ a8;have c0:=T.tp.cl 0;by_cases k5:j<q.length;·(
 obtain⟨p,hp⟩:=eG k5;have e6:q.take (j+1)=q.take j++[p]:=by rw[cU,hp];rfl
 obtain⟨b6,o6,v6,rfl,_,l7,rfl,_⟩:=bn (i:=j) (x:=(p:Int)) (HN.2.2.2.2.2.2.2.1 _ a8) (by rw[cL,hp];rfl);have k6:=lq ((HN.2.2.2.2.2.2.1 p).1 (mG hp));have e7:=fun c (hN:lA u (q.take j) (c:Nat))=>AF HN.2.1 (fun p hp=>lq ((HN.2.2.2.2.2.2.1 p).1 (List.mem_of_mem_take hp))) hN;have c1:=T.tn.cell p;rw[bI k6] at c1;clear hp;by_cases a1:my u p;·(
 have hw:=fun(y:Int) (hy:u p=y) (c:Nat) (hN:lA u (q.take j) c)=>Gf ll.length pl u pb tb pn tn c p wr hl HN.2.1 o.1.zero o.1.inj o.1.lt (e7 c hN).1 k6 (e7 c hN).2 a1 T;have b4:p=0∨0≤u p:=a1;obtain⟨y,hy⟩:=eR (u p);rw[hy] at c1 b4;have HP:=J5 a8 e6 hN a1 (hw y hy);rcases Du hN with rfl|⟨c,rfl⟩;·(
 clear a8 e6 hN a1 hw e7 T hy;by_cases a6:p=0
 ·have t0:((p:Int) !=0)=false:=by rw[gj];omega
  clear a6 b4;go_wp2_with fail;go_roundg (q.length-(j+1));·exact⟨j+1,p,by omega,rfl,by go_num,rfl,by rw[HP.2.1];exact rd HP.2.2.1 (by decide) HP.2.2.2.1,HP.1⟩
  omega
 have t0:((p:Int) !=0)=true:=by rw[bne_iff_ne];omega
 have c7:¬y<0:=by omega
 have ty:decide (y<0)=false:=by simpa using c7
 clear a6 b4;go_wp2_with fail;go_roundg (q.length-(j+1));·exact⟨j+1,p,by omega,rfl,by go_num,rfl,by rw[HP.2.1];exact rd HP.2.2.1 (by decide) HP.2.2.2.1,HP.1⟩
 omega)
 have hm:=HP.2.2.2.2 c hN;have HM:=oH hm;have tc:decide ((c:Int)<0)=false:=by simp
 clear a8 e6 hN a1 hw e7 T hy hm;by_cases a6:p=0
 ·have t0:((p:Int) !=0)=false:=by rw[gj];omega
  clear a6 b4;go_wp2_with fail;refine HM.out.mono ?_;rintro e w8 ⟨mm,rfl,l2,e8,e9⟩;have h3:=J2 e8 e9;clear e8 e9;go_wp2_with fail;go_roundg (q.length-(j+1));·exact⟨j+1,mm,by omega,rfl,by go_num,rfl,by rw[HP.2.1];exact sY HP.2.2.1 HP.2.2.2.1 h3.1,HP.1.trans h3.2⟩
  omega
 have t0:((p:Int) !=0)=true:=by rw[bne_iff_ne];omega
 have c7:¬y<0:=by omega
 have ty:decide (y<0)=false:=by simpa using c7
 clear a6 b4;go_wp2_with fail;refine HM.out.mono ?_;rintro e w8 ⟨mm,rfl,l2,e8,e9⟩;have h3:=J2 e8 e9;clear e8 e9;go_wp2_with fail;go_roundg (q.length-(j+1));·exact⟨j+1,mm,by omega,rfl,by go_num,rfl,by rw[HP.2.1];exact sY HP.2.2.1 HP.2.2.2.1 h3.1,HP.1.trans h3.2⟩
 omega)
 have a6:p≠0:=fun e=>a1 (.inl e);have c7:u p<0:=by refine Classical.byContradiction fun h=>a1 (.inr (by omega))
 obtain⟨y,hy⟩:=eR (u p);rw[hy] at c1 c7;have t0:((p:Int) !=0)=true:=by rw[bne_iff_ne];omega
 have ty:decide (y<0)=true:=by simpa using c7
 have HP:=J4 a8 e6 hN a1;clear a8 e6 hN a1 e7 T hy a6;go_wp2_with fail;go_roundg (q.length-(j+1));·exact⟨j+1,v,by omega,rfl,by go_num,rfl,by rw[HP.2.1];exact AG HP.2.2.1 HP.2.2.2,HP.1⟩
 omega)
 obtain rfl:j=q.length:=by omega
 rw[dZ] at hN;obtain⟨p0,a6,h8⟩:=o.1.fwd k b2 HN.2.2.2.2.2.2.2.2.2;have c6:=HN.2.2.2.2.2.2.2.2.1;have a1:=js HN.1 p0 (lq a6) (by omega);have b9:=Dt hN HN.2.2.2.2.2.2.1 ⟨p0,a6,a1⟩;obtain⟨h4,c,rfl,l8,l3⟩:=Db o.1 HN.2.1 b2 HN.2.2.2.2.2.2.2.2.2 ⟨p0,a6,h8,a1⟩ b9;have c8:=DF o.1 (by rw[c6];exact HN.1) b2 b9;rw[c6] at c8;have c1:=T.tn.cell k;have f1:=T.tn.free k;rw[bI b2] at c1;have hold:=HN.1.old k (by omega);obtain⟨y,hy⟩:=eR (u k);rw[hy] at c1 hold;have Y:(aN ll.length u).setIfInBounds k (.int .i64 c)=aN ll.length (fun j=>if j=k then(c:Int) else u j):=oS (ap rfl) fun j _ b7=>ae b7;clear hN a1 b9 a6 h8 c6 l3;by_cases c9:y=c;·(
 have ty:(y !=(c:Int))=false:=by rw[gj];exact c9
 have hu:(fun j=>if j=k then(c:Int) else u j)=u:=by
  funext j;by_cases e:j=k;·subst e;rw[ap rfl,hy,c9]
  rw[ae e]
 rw[hu] at h4 c8;have I:=J4 h4 c8 a8 T;clear h4 c8 a8 T Y hu hold c9 hy;go_wp2_with fail;go_roundg (ll.length-1-(m+1));·exact⟨m+1,b,u,by omega,rfl,by go_num,rfl,I.2.1,I.1,HN.2.2.1,HN.2.2.2.1,HN.2.2.2.2.1.trans I.2.2.1.all,I.2.2.2⟩
 omega)
 have ty:(y !=(c:Int))=true:=by rw[bne_iff_ne];exact c9
 have b7:∃j,j<ll.length∧(if j=k then(c:Int) else u j)≠t j:=⟨k,b2,by rw[ap rfl,←hold];exact fun e=>c9 e.symm⟩;have I:=J6 h4 c8 a8 T Y b7;clear h4 c8 a8 T Y hold c9 hy b7;go_wp2_with fail;go_roundg (ll.length-1-(m+1))
 ·have T:=I.2.2.2.1
  refine⟨m+1,true,fun j=>if j=k then(c:Int) else u j,by omega,rfl,by go_num,rfl,I.2.1,I.1,(fun h=>by cases h),fun _=>I.2.2.2.2.2,(HN.2.2.2.2.1.trans I.2.2.1.all).setCell (.inl fun h=>h rfl) _,⟨T.pp.far n1 _,T.tp.far n2 _,T.pn.far n3 _,?_⟩⟩;rw[←I.2.2.2.2.1];exact T.tn.set _ _
 omega)
 obtain rfl:m=ll.length-1:=by omega
 rw[show ll.length-1+1=ll.length by omega] at hP;have l0:=hT.tp.cl 0;have I:=J6 hP hG b8 C J hT;clear hP hG b8 C J hT;cases b with
 |true=>
  go_wp2_with fail
  go_step3
  refine⟨rfl,_,((GH o.1 o.2.2.1 I.2.1 I.1 _ (cf _)).2 (I.2.2.2.1 (by simp))),ord,pl,u,pb,tb,pn,tn,_,_,rfl,o.1,⟨o.2.2.2.2.2.2.2,o.2.1⟩,sN o.1 o.2.2.1 I.2.1 I.1,⟨rfl,rfl,rfl,rfl,rfl,rfl,rfl,rfl⟩,
   am (o.2.2.2.1.all.trans (I.2.2.2.2.1.mono fun b (hb:b<w.heap.size)=>by show b≠tn;omega)),o.2.2.2.2.1 _ I.2.2.2.2.1,o.2.2.2.2.2.1 _ I.2.2.2.2.1,I.2.2.2.2.2,hh,n1,n2,n3⟩
 |false=>go_wp2_with fail;simp only[Exit.jump];go_ret;obtain rfl:u=t:=I.2.2.1 (by simp);have G:=I.2.1;have O:=o.1;refine⟨_,u,pl,rfl,am (o.2.2.2.1.all.trans (I.2.2.2.2.1.mono fun b (hb:b<w.heap.size)=>by show b≠tn;omega)),sL I.2.2.2.2.2.tn (by omega) (by omega) (fun i hi=>BW G hl hi),⟨O,G,fun j hj=>js I.1 j hj (O.lt j hj),fun j hj x=>BK O o.2.2.1 I.1 hj⟩⟩
end
theorem Ap (S:Nat→Prop)(R:Value)(j:List Int)(x:Int)(w:World)(Y:aK S w R j):
 Calls prog 266 #[R,.int .i64 x] w fun e w'=>(∃r:Int,e=.returned (.int .i64 r)∧decide (0≤r)=pB (x∈j))∧w=w':=by
 obtain⟨a,cap,rfl,h1,h2,_,h⟩:=Y;have H:=oH h;clear h;go_enter func266,ntmps266;go_wp2;go_loopg [8] j.length (fun g s wr=>∃k:Nat,k≤j.length∧g=j.length-k∧s=.int .i64 k∧wr=w∧x∉j.take k);·exact⟨0,by omega,by omega,rfl,rfl,by simp⟩
 obtain⟨k,hk,rfl,rfl,rfl,o⟩:=hrel;by_cases C:k<j.length;·(
 obtain⟨b,off,c,rfl,hs,hc,rfl,hw⟩:=H.out k j[k] (lG C);obtain⟨y,hy⟩:=eR (j[k]);rw[hy] at hc;have hm:y∈j:=hy▸eL C;have I:j.take (k+1)=j.take k++[y]:=by rw[cU,lG C,hy];rfl
 by_cases e:x=y
 ·have te:(x==y)=true:=by rw[cy];exact e
  have J:=oH (show pB (x∈j)=true from av (e▸hm));clear hy hm o e I;go_wp2_with fail;go_ret;exact⟨⟨k,rfl,by rw[J.out];simp⟩,rfl⟩
 have te:(x==y)=false:=by rw[bE];exact e
 have J:=oH (show x∉j.take (k+1) by rw[I];simp[o,e]);clear hy hm o e I;go_wp2_with fail;go_roundg (j.length-(k+1));·exact⟨k+1,by omega,rfl,by go_num,rfl,J.out⟩
 omega)
 obtain rfl:k=j.length:=by omega
 rw[dZ] at o;have J:=oH (show pB (x∈j)=false from au o);clear o;go_wp2_with fail;go_ret;exact⟨⟨-1,rfl,by rw[J.out];decide⟩,rfl⟩
theorem ui (S:Nat→Prop)(o:Value)(j:List Int)(x:Int)(w:World)(J:aK S w o j):
 Calls prog 247 #[o,.int .i64 x] w fun e w'=>e=.returned (.bool (pB (x∈j)))∧w=w':=by
 have H:=oH (Ap S o j x w J);obtain⟨a,cap,rfl,h1,h2,_,h⟩:=J;clear h;go_enter func247,ntmps247;go_wp2_with fail;refine H.out.mono ?_;rintro e w' ⟨⟨r,rfl,hr⟩,hw⟩;have C:=hw.symm;subst C;obtain⟨p,I⟩:=eR (pB (x∈j));rw[I] at hr;have R:=oH I;clear I;have Y:decide (r≥0)=p:=hr;go_wp2_with fail;go_ret;exact⟨by rw[R.out];rfl,rfl⟩
theorem Dl (S:Nat→Prop)(ll:List (List Int))(Y:Value)(t:Nat→Int)(pl:Nat→Nat)(i:Nat)(w:World)(ha:aK S w Y (lV ll.length t))(T:mz ll t pl)(hl:ll.length≤256)(hi:i<ll.length):
 Calls prog 267 #[Y,.int .i64 i] w fun e w'=>e=.returned (.bool true)∧w=w':=by
 obtain⟨a,cap,rfl,h1,h2,h3,h⟩:=ha;rw[nW] at h1 h3⊢;have H:=J2 h T;have t0:=T.good.zero;have C:=T.ord.lt i hi;clear h T;obtain⟨b0,o0,c0,rfl,_,I,rfl,_⟩:=H.1 0 (t 0) (tQ (by omega));rw[t0,dj] at I;clear t0;go_enter func267,ntmps267;go_wp2;go_loopg [1,5] ll.length (fun g x s wr=>∃m j:Nat,m<ll.length∧g=ll.length-m∧s=.int .i64 m∧x=.int .i64 j∧wr=w∧j<ll.length∧pl j+m<ll.length);·exact⟨0,i,by omega,by omega,rfl,rfl,rfl,hi,by omega⟩
 obtain⟨m,j,hm,rfl,rfl,rfl,rfl,hj,a1⟩:=hrel;by_cases o:j=0
 ·have te:((j:Int)==0)=true:=by rw[cy];omega
  clear o;go_wp2_with fail;go_ret;exact⟨rfl,rfl⟩
 have te:((j:Int)==0)=false:=by rw[bE];omega
 obtain⟨p,C,J,a6⟩:=H.2.up hj o;obtain⟨b1,o1,c1,e1,_,R,rfl,_⟩:=H.1 j (t j) (tQ hj);cases e1;rw[C] at R;have tp:decide ((p:Int)<0)=false:=by simp
 clear C o;go_wp2_with fail;go_roundg (ll.length-(m+1));·exact⟨m+1,p,by omega,rfl,by go_num,rfl,rfl,J,by omega⟩
 omega
theorem CI (S:Nat→Prop)(ll:List (List Int))(va:Value)(t:Nat→Int)(pl:Nat→Nat)(i:Nat)(w:World)(ha:aK S w va (lV ll.length t))(T:mz ll t pl)(hl:ll.length≤256)(hi:i<ll.length):
 Calls prog 248 #[va,.int .i64 i] w fun e w'=>∃u,e=.returned u∧aa All w w'∧aK (fun b=>w.heap.size≤b) w' u ((oJ ll.length t i).map fun(n:Nat)=>(n:Int)):=by
 obtain⟨i3,I3⟩:=iH kt;have hle:=fun k (hk:k<ll.length)=>Dl S ll va t pl k w ha T hl hk;have a1:=ah.la ha;obtain⟨a,cap,rfl,h1,h2,h3,h⟩:=ha;rw[nW] at h1 h3 hle a1⊢;have hp:=T.ord.lt i hi;obtain⟨C,hC⟩:=eR (oJ ll.length t i);have b2:C.length≤ll.length+1:=by rw[←hC];exact uL t _ _
 have b0:∀x∈C,x<ll.length:=fun x hx=>by rw[←hC,oJ,uM T.good x _ i hi (Nat.le_of_lt (T.ord.lt i hi))] at hx;exact(oL T.good hi hx).1
 rw[hC];have H:=J5 hle T a1 hC b0;clear h T hle a1 hC b0;have tl:decide ((ll.length:Int)<1)=false:=by simp;omega
 have b3:decide ((ll.length:Int)>256)=false:=by simp;omega
 have ti:decide ((i:Int)<0)=false:=by simp
 have b4:decide (ll.length≤i)=false:=by simp;omega
 have b5:decide ((i:Int)≥(ll.length:Int))=false:=by simp;omega
 go_enter func248,ntmps248;go_wp2_with fail;clear tl b3 ti b5 b4;go_loopg [27] ll.length (fun g s wr=>∃k:Nat,k≤ll.length∧g=ll.length-k∧s=.int .i64 k∧wr=w);·exact⟨0,by omega,by omega,rfl,rfl⟩
 obtain⟨k,hk,rfl,rfl,hw⟩:=hrel;have a6:=hw.symm;subst a6;by_cases b6:k<ll.length
 ·have HL:=oH (H.1 k b6);go_wp2_with fail;refine HL.out.mono ?_;rintro e w' ⟨rfl,hw⟩;have a6:=hw.symm;subst a6;go_wp2_with fail;go_roundg (ll.length-(k+1));·exact⟨k+1,by omega,rfl,by go_num,rfl⟩
  omega
 obtain rfl:k=ll.length:=by omega
 go_wp2_with fail;go_loopg [1,6] (ll.length+1) (fun g x o wr=>∃L:List Nat,((∃j f:Nat,x=.int .i64 j∧j<ll.length∧pl j≤f∧f≤ll.length∧L++kp t f j=C∧g=f+1)∨(x=.int .i64 (-1)∧L=C∧g=0))∧aa All w wr∧wr.ownsRow w.heap.size 3 1 o L.length (aI (L.map fun(n:Nat)=>(n:Int))));·exact⟨[],.inl ⟨i,ll.length,rfl,hi,by omega,cf _,H.2.2.2.1,rfl⟩,kR,rfl,.inl ⟨rfl,rfl⟩⟩
 obtain⟨L,b7,R,J⟩:=hrel;rcases b7 with ⟨j,f,rfl,hj,c5,hf,hL,rfl⟩|⟨rfl,rfl,rfl⟩;·(
 have c6:L.length≤1000:=by have:=congrArg List.length hL;rw[iQ] at this;omega
 obtain⟨b1,o1,c1,rfl,_,a7,rfl,_⟩:=bn (i:=j) (x:=t j) (H.2.2.1 w kR) (tQ hj);have b8:=jy w _ a7;have a8:(wr.alloc (.cells #[.int .i64 j] 3)).ownsRow w.heap.size 3 1 u6 L.length (aI (L.map fun(n:Nat)=>(n:Int))):=be J ((aa.refl All wr).alloc _) (fun _ _=>trivial);have hB:=R.size;have tj:decide ((j:Int)≥0)=true:=by simp
 have c7:decide ((0:Int)≤(j:Int))=true:=by simp
 obtain⟨y,hy⟩:=eR (t j);rw[hy] at a7;have HT:=J3 R hL hy;clear hL hy;go_wp2_with (
  at_builtin;refine aR _ rfl (.tmp 41) (.tmp 43) 54 rfl w.heap.size 3 i3 _ 1 8 underlying54 I3.1 I3.2.1 I3.2.2.1 I3.2.2.2 rfl (by decide) _ _ _ rfl a8 (some ⟨wr.heap.size,0,none⟩) 1 1 [.int .i64 j] rfl rfl ?_ ?_ (by unfold maxLen;omega) (by omega) (by simp;omega) ?_;·intro _;exact⟨_,_,rfl,fun j u hu=>by rw[cN,al.cell (al.new _ _ _)];simpa using hu⟩
  ·intro u hu
   rw[cx.1 hu];rfl
  intro v2 w2 I b9 c4;have Y:aa (fun b=>b<w.heap.size) w w2:=((R.alloc _).all).grown b9 fun g hg=>.inl (by have:=(aD J hg).1;show¬(g<w.heap.size);omega);have c8:=Y.cell (p:=⟨b1,o1+j,none⟩) b8 a7)
 by_cases c9:y<0;·(
 have e1:y= -1:=by have:=H.2.1.good.neg j hj;have:=HT.2.2;omega
 subst e1;have HE:=J2 Y I;clear Y I;go_wp2_with fail;go_roundg 0
 ·refine⟨L++[j],.inr ⟨rfl,?_,rfl⟩,am HE.1,?_⟩
  ·rw[←HT.2.1];cases f with
   |zero=>rfl
   |succ f=>rw[kp,HT.2.2,ap (by decide)]
  simpa [aI] using HE.2
 omega)
 obtain⟨p,hp,c0,d7,_⟩:=H.2.1.good.low j hj (by have:=HT.2.2;omega);rw[HT.2.2] at hp;subst hp;obtain⟨f',rfl⟩:∃f',f=f'+1:=⟨f-1,by omega⟩;have HE:=J2 Y I;clear Y I;go_wp2_with fail;go_roundg (f'+1)
 ·refine⟨L++[j],.inl ⟨p,f',rfl,c0,by omega,by omega,?_,rfl⟩,am HE.1,?_⟩
  ·rw[←HT.2.1,kp,HT.2.2,ae (by omega),dP,jM];rfl
  simpa [aI] using HE.2
 omega)
 have HE:=J2 R J;have d8:L.length≤ll.length+1:=b2;clear R J;go_wp2_with fail;go_ret;refine⟨_,rfl,HE.1,jr HE.2 (by rw[ce]) (by rw[ce];omega) (fun g hg=>(aD HE.2 hg).1) fun x hx=>?_⟩;obtain⟨n,hn,rfl⟩:=dr.1 hx;exact tT (by have:=H.2.2.2.2 n hn;omega)
theorem uk (S:Nat→Prop)(ll:List (List Int))(C:Value)(t:Nat→Int)(pl:Nat→Nat)(a i:Nat)(w:World)(Y:aK S w C (lV ll.length t))(T:mz ll t pl)(hl:ll.length≤256)(hi:i<ll.length):
 Calls prog 213 #[C,.int .i64 a,.int .i64 i] w fun e w'=>e=.returned (.bool (pB (¬gA (dH ll) a i)))∧aa All w w':=by
 have H:=oH (CI S ll C t pl i w Y T hl hi);have j:=zP T (x:=a) hi;have e:pB ((a:Int)∈(oJ ll.length t i).map fun(n:Nat)=>(n:Int))=pB (¬gA (dH ll) a i):=by congr 1;rw[eq_iff_iff,←j,dr];exact⟨fun⟨n,hn,e⟩=>Int.ofNat.inj e▸hn,fun h=>⟨a,h,rfl⟩⟩
 have HE:=oH e;obtain⟨A,cap,rfl,h1,h2,_,h⟩:=Y;clear h j e T;go_enter func213,ntmps213;go_wp2_with fail;refine H.out.mono ?_;rintro e w1 ⟨u,rfl,o,hu⟩;have I:=ui _ u _ a w1 hu;obtain⟨q,J⟩:=eR (pB ((a:Int)∈(oJ ll.length t i).map fun(n:Nat)=>(n:Int)));rw[J] at I;have HC:=oH I;have HQ:=oH J;clear I J;have HK:=oH o;clear o hu;go_wp2_with fail;refine HC.out.mono ?_;rintro e w2 ⟨rfl,hw⟩;have R:=hw.symm;subst R;go_wp2_with fail;go_ret;exact⟨by rw[←HE.out,HQ.out];rfl,HK.out⟩
section
open Go.RowKit Go.Shelf
attribute [local go_sem] Oper.semAt_some
def Cj (x:bz)(a f:Value):List Value:=[.int .u8 x.kind,.int .u8 x.op,.int .i64 x.dst,.int .i64 x.ref,.int .i64 x.Ni,a,f,.int .i64 x.num,.int .i64 x.Nj]
structure BE (S:Nat→Prop)(w0:World)(B1:Option Addr)(L:List (List bz))(A F:Nat→Nat→Value):Prop where
 row:∀(k:Nat) l,L[k]? =some l→∃rb ro Ak ck,B1=some ⟨rb,ro,none⟩∧S rb∧w0.cell? ⟨rb,ro+k,none⟩=some (.slice Ak l.length ck)∧l.length≤maxLen∧
  ∀(i:Nat) x,l[i]? =some x→∃xb xo,Ak=some ⟨xb,xo,none⟩∧S xb∧∀(j:Nat) c,(Cj x (A k i) (F k i))[j]? =some c→w0.cell? ⟨xb,xo+i*9+j,none⟩=some c
 ints:∀(k:Nat) l,L[k]? =some l→∀(i:Nat) x,l[i]? =some x→aK S w0 (A k i) x.args∧aK S w0 (F k i) x.Nh∧jx x
theorem vw {S:Nat→Prop}{w:World}{B1:Option Addr}{n d:Nat}{L:List (List bz)}(h:bW S w (.slice B1 n d) L):∃A F,BE S w B1 L A F:=by
 have hc:∀k i:Nat,∃af:Value×Value,∀l x,L[k]? =some l→l[i]? =some x→aK S w af.1 x.args∧aK S w af.2 x.Nh∧jx x∧
  ∃rb ro Ak ck,B1=some ⟨rb,ro,none⟩∧w.cell? ⟨rb,ro+k,none⟩=some (.slice Ak l.length ck)∧∃J xo,Ak=some ⟨J,xo,none⟩∧S J∧∀(j:Nat) c,(Cj x af.1 af.2)[j]? =some c→w.cell? ⟨J,xo+i*9+j,none⟩=some c:=by
  intro k i;cases hk:L[k]? with
  |none=>exact⟨(.nilFunc,.nilFunc),fun l x h=>by cases h⟩
  |some l=>
   cases hi:l[i]? with
   |none=>refine⟨(.nilFunc,.nilFunc),fun l' x h R=>?_⟩;cases h;rw[hi] at R;cases R
   |some x=>obtain⟨rb,ro,rv,e,_,o,C⟩:=bn h hk;obtain⟨Ak,ck,rfl,_⟩:=id C;obtain⟨J,xo,cs,e2,Y,_,a1,a,f,rfl,h1,R,h3⟩:=aZ C hi;refine⟨(a,f),fun l' x' h h'=>?_⟩;cases h;rw[hi] at h';cases h';exact⟨h1,R,h3,rb,ro,Ak,ck,e,o,J,xo,e2,Y,a1⟩
 obtain⟨g,hg⟩:=Classical.axiomOfChoice fun k=>Classical.axiomOfChoice (hc k);refine⟨fun k i=>(g k i).1,fun k i=>(g k i).2,⟨fun k l hk=>?_,fun k l hk i x hi=>?_⟩⟩;·obtain⟨rb,ro,rv,e,hS,o,C⟩:=bn h hk;obtain⟨Ak,ck,rfl,h1,R,_⟩:=id C;refine⟨rb,ro,Ak,ck,e,hS,o,by omega,fun i x hi=>?_⟩;obtain⟨_,_,_,a6,a7,a8,b0,e',I,J,xo,e2,Y,a1⟩:=hg k i l x hk hi;rw[e] at e';cases e';rw[o] at I;cases I;exact⟨J,xo,e2,Y,a1⟩
 obtain⟨h1,R,h3,_⟩:=hg k i l x hk hi;exact⟨h1,R,h3⟩
def iJ (S:Nat→Prop)(j W:World):Prop:=∀(b i:Nat) v,S b→j.cell? ⟨b,i,none⟩=some v→W.cell? ⟨b,i,none⟩=some v
def jU (S:Nat→Prop)(j A B:World):Prop:=iJ S j A→iJ S j B
section
variable {S:Nat→Prop} {w0 W W':World}
theorem iJ.refl (S:Nat→Prop)(w0:World):iJ S w0 w0:=fun _ _ _ _ h=>h
theorem iJ.kept (h:iJ S w0 W)(k:aa S W W'):iJ S w0 W':=fun b i v j o=>k.cell (p:=⟨b,i,none⟩) j (h b i v j o)
theorem iJ.below {w:World}(h:iJ S w0 w)(j:Below w.heap.size w W):iJ S w0 W:=fun b i v o C=>by have h1:=h b i v o C;exact(j.cell (p:=⟨b,i,none⟩) (jy w _ h1)).trans h1
theorem Dd {l:Nat}{o C:Obj}(I:W.heap[l]? =some o)(J:o.isCells=false):jU S w0 W (W.putObj l C):=by
 intro h b i v R Y;have h1:=h b i v R Y;have j:b≠l:=by rintro rfl;unfold World.cell? at h1;simp only[I] at h1;cases o<;>first|(simp[Obj.isCells] at J;done)|(simp at h1)
 rw[World.cell?_of_block (World.putObj_heap_other j)];exact h1
theorem BY {A B C:World}(h:jU S w0 A B)(k:jU S w0 B C):jU S w0 A C:=fun hl=>k (h hl)
theorem BX (B:Nat):∀(W:World) (l:Nat) (o j:Obj),B≤l→W.heap[l]? =some o→o.isCells=false→o.isWalk=false→jU S w0 W (W.putObj l j):=fun _ _ _ _ _ C I _=>Dd C I
end
abbrev EK (L:List (List bz)):= {t:iL//∃l,L[t.1]? =some l∧l[t.2.1]? =some t.2.2}
theorem zk (par vars:Int)(j:Option Addr)(n d1:Nat)(w:World):Calls prog 108 #[.agg #[.int .i64 par,.int .i64 vars,.slice j n d1]] w fun e w'=>
 e=.returned (.func (.func 174) #[] #[.pointer (some ⟨w.heap.size,0,none⟩)])∧w'=w.alloc (.cells #[.int .i64 par,.int .i64 vars,.slice j n d1] 42):=by
 have o:∀(fn:Fn) (first cap:Array Value) (w:World),(Instr.makeFunc fn first cap).run prog w=.ok (.func fn first cap) w:=fun _ _ _ _=>rfl;go_enter func108,ntmps108;go_wp2;go_ret;exact⟨rfl,rfl⟩
theorem tM (n:Nat)(hn:1≤n)(S:Nat→Prop)(w0:World)(par vars:Int)(B1:Option Addr)(d1:Nat)(L:List (List bz))(A F:Nat→Nat→Value)(hI:BE S w0 B1 L A F)(hL:L.length≤64)(Bn:Nat)(w:World)(hh:iJ S w0 w)(hc:al w Bn 42 #[.int .i64 par,.int .i64 vars,.slice B1 L.length d1]):
 SeqStopsK Fence.wide n prog 174 #[.pointer (some ⟨Bn,0,none⟩)]
  (fun x:EK L=>#[Value.agg #[.int .i64 (x.1.1:Nat),.int .i64 (x.1.2.1:Nat)],Value.agg #[.int .u8 x.1.2.2.kind,.int .u8 x.1.2.2.op,.int .i64 x.1.2.2.dst,.int .i64 x.1.2.2.ref,.int .i64 x.1.2.2.Ni,A x.1.1 x.1.2.1,F x.1.1 x.1.2.1,.int .i64 x.1.2.2.num,.int .i64 x.1.2.2.Nj]])
  (jU S w0) (fun xs=>xs.map Subtype.val=(cd L).flatten) (fun pre=>pre.map Subtype.val<+:(cd L).flatten) (cd L).flatten.length w:=fun l J Jx W hW R _ hY h0=>by
 have b7:W.cell? ⟨Bn,2,none⟩=some (.slice B1 L.length d1):=(hW.cell (p:=⟨Bn,2,none⟩) hc.lt).trans (hc.cell 2);have a6:=hh.below hW;have HL:=J4 a6 hY hI R;clear a6 hY hW hh hc hI R;refine callsIn_of_wp func174 rfl trivial ?_ rfl;simp only[ntmps174,List.size_toArray,kI,List.length_nil,Nat.reduceAdd,Nat.reduceSub,Array.replicate_succ,Array.replicate_zero,List.push_toArray,List.append_toArray,mF,List.cons_append];gi_wp2
 gi_loopw [10] (fun r wr=>∃(k:Nat) (pre:List (EK L)),k≤L.length∧r=.int .i64 k∧pre.map Subtype.val=fe (cd L) k 0∧J pre wr∧iJ S w0 wr) (fun r _=>L.length-(intOf r).toNat)
 ·exact⟨0,[],by omega,rfl,by simp[fe],h0,HL.1⟩
 obtain⟨k,pre,hk,rfl,o,R,C⟩:=hrel;by_cases b8:k<L.length;·(
 obtain⟨row,I⟩:=eG b8;obtain⟨rb,ro,Ak,ck,rfl,a7,a8,b9,b0⟩:=HL.2.2.1.row k row I;have c5:=C rb (ro+k) _ a7 a8;unfold maxLen at b9;have HR:=J5 I b0 o R C;clear I b0 a8 a7 o R C;gi_wp2
 gi_loopw [17] (fun r wr=>∃(i:Nat) (pre:List (EK L)),i≤row.length∧r=.int .i64 i∧pre.map Subtype.val=fe (cd L) k i∧J pre wr∧iJ S w0 wr) (fun r _=>row.length-(intOf r).toNat)
 ·exact⟨0,pre,by omega,rfl,HR.2.2.1,HR.2.2.2.1,HR.2.2.2.2⟩
 obtain⟨i,pre,hi,rfl,o,R,C⟩:=hrel;by_cases b1:i<row.length;·(
 obtain⟨x,hx⟩:=eG b1;obtain⟨xb,xo,rfl,b2,b3⟩:=HR.2.1 i x hx;have Y:=fun j c hj=>C xb (xo+i*9+j) c b2 (b3 j c hj);have a1:=Ep (nP HR.1) (wT hx);rw[←o] at a1;have hlen:pre.length<(cd L).flatten.length:=by have:=a1.length_le;rw[iQ,ce,List.length_singleton] at this;omega
 have z0:=Y 0 _ rfl;have z1:=Y 1 _ rfl;have z2:=Y 2 _ rfl;have z3:=Y 3 _ rfl;have z4:=Y 4 _ rfl;have z5:=Y 5 _ rfl;have z6:=Y 6 _ rfl;have z7:=Y 7 _ rfl;have z8:=Y 8 _ rfl;rw[dj] at z0;obtain⟨i1,i2,_⟩:=HL.2.2.1.ints k row HR.1 i x hx;obtain⟨aA,cA,eA,_⟩:=i1;obtain⟨aF,cF,eF,_⟩:=i2;rw[eA] at z5;rw[eF] at z6;have b4:aa All wr (wr.alloc (.cells #[.int .u8 x.kind,.int .u8 x.op,.int .i64 x.dst,.int .i64 x.ref,.int .i64 x.Ni,.slice aA x.args.length cA,.slice aF x.Nh.length cF,.int .i64 x.num,.int .i64 x.Nj] 56)):=kR.alloc _;have b5:J pre (wr.alloc (.cells #[.int .u8 x.kind,.int .u8 x.op,.int .i64 x.dst,.int .i64 x.ref,.int .i64 x.Ni,.slice aA x.args.length cA,.slice aF x.Nh.length cF,.int .i64 x.num,.int .i64 x.Nj] 56)):=HL.2.2.2 _ _ _ none R (World.grownBy_alloc wr _ none) (fun r e=>by cases e);obtain⟨fn,tmps,assign,body,hy,hR⟩:=HL.2.1 pre ⟨(k,i,x),row,HR.1,hx⟩ _ b5 hlen;dsimp only at hy;rw[eA,eF] at hy;have HX:=J4 (C.kept b4.all) o a1 hx;clear b5 b4 Y b3 b2 o a1 R eA eF;gi_wp2;refine hR.mono ?_;rintro e W3 (⟨rfl,c0,c1⟩|⟨rfl,b6⟩)
 ·have c4:=c1 HX.1;gi_wp2
  go_roundw
  case rel=>exact⟨i+1,pre++[⟨(k,i,x),row,HR.1,hx⟩],by omega,by simp,by rw[mt (nP HR.1) (wT hx),ic,HX.2.1];rfl,c0,c4⟩
  case measure=>simp[intOf];omega
 gi_wp2;refine bodyPost_ret (results_none rfl _ _ _) rfl ?_;exact⟨⟨_,rfl⟩,.inr ⟨pre++[⟨(k,i,x),row,HR.1,hx⟩],by rw[ic];exact HX.2.2.1,b6⟩⟩)
 obtain rfl:i=row.length:=by omega
 have HE:=oH (show pre.map Subtype.val=fe (cd L) (k+1) 0 by rw[o,←qK (nP HR.1),List.length_mapIdx]);clear o;gi_wp2
 go_roundw
 case rel=>exact⟨k+1,pre,by omega,by simp,HE.out,R,C⟩
 case measure=>simp[intOf];omega)
 obtain rfl:k=L.length:=by omega
 have HE:=oH (show pre.map Subtype.val=(cd L).flatten by rw[o,←Aq L,qJ]);clear o;gi_wp2
 go_end0
 exact⟨⟨_,rfl⟩,.inl ⟨pre,HE.out,R⟩⟩
end
section
open Go.RowKit Go.Shelf
attribute [local go_sem] Oper.semAt_some
theorem lW {F:Fence}{n:Nat}{P:Program}{α:Type}{g:Operand}{ps:Array Tmp}{assign body:Code}{Q:Exit→Act→World→Prop}{a:Act}{w:World}
 (b5:F.round=none) (h1:1≤n) {gf:Nat} {lb:Array Value} (hg:a.eval g=.func (.func gf) #[] lb) (b6:F.fn gf) (eg:∀args w,(callFunc gf args).run P w=.ok (.enter gf args) w)
 {j:α→Array Value} {Kp:World→World→Prop} {S Sp:List α→Prop} {N:Nat} {w0:World} (a8:SeqStopsK F (n-1) P gf lb j Kp S Sp N w0)
 (b0:∀ {A B C:World},Kp A B→Kp B C→Kp A C) (b7:∀(W:World) (l:Nat) (o o':Obj),w.heap.size≤l→W.heap[l]? =some o→o.isCells=false→o.isWalk=false→Kp W (W.putObj l o')) (b3:∀(W:World) (o:Obj),Kp W (W.alloc o)) (b8:Below w0.heap.size w0 w) (b9:∀x,(j x).size=ps.size)
 (I:List α→World→Prop) (Ix:Code→List α→World→Prop) (hI:OwnFrom w.heap.size I) (c0:∀c,OwnFrom w.heap.size (Ix c)) (b4:∀pre W,I pre W→w.heap.size≤W.heap.size) (h0:I [] w) (q1 q2:Nat) (t1 t2:TypeId) (c1 c2:α→Array Value)
 (Y:∀(l:Nat) (x:α) (W:World) (K:Act→World→Prop),
  K {tmps:=(((ps.zip (j x)).foldl (fun t (p,v)=>t.setIfInBounds p v) a.tmps).setIfInBounds q1 (.pointer (some ⟨W.heap.size,0,none⟩))).setIfInBounds q2 (.pointer (some ⟨W.heap.size+1,0,none⟩)),defers:=[]} ((W.alloc (.cells (c1 x) t1)).alloc (.cells (c2 x) t2))→
  assign.wpIn (F.inRound l) (n-1-1) P (Exit.then K (fun _ _ _=>False)) {tmps:=(ps.zip (j x)).foldl (fun t (p,v)=>t.setIfInBounds p v) a.tmps,defers:=[]} W)
 (a1:∀(l:Nat) (pre:List α) (x:α) (J R:Nat) (W:World),J≠R→w.heap.size≤J→w.heap.size≤R→al W J t1 (c1 x)→al W R t2 (c2 x)→I pre W→pre.length<N→
  body.wpIn (F.inRound l) (n-1-1) P (ownPostG w.heap.size Kp I Ix (pre++[x]) W)
   {tmps:=(((ps.zip (j x)).foldl (fun t (p,v)=>t.setIfInBounds p v) a.tmps).setIfInBounds q1 (.pointer (some ⟨J,0,none⟩))).setIfInBounds q2 (.pointer (some ⟨R,0,none⟩)),defers:=[]} W)
 (a6:∀(D:Nat) (xs:List α) (W:World),w.heap.size≤D→S xs→I xs W→W.heap[D]? =some (.deferred (some []))→Q .normal {a with defers:= {target:=.collected D,args:=#[]}::a.defers} W)
 (a7:∀(D:Nat) (c:Code) (pre:List α) (W:World),w.heap.size≤D→Sp pre→Ix c pre W→W.heap[D]? =some (.deferred (some []))→c.wpIn F n P Q {a with defers:= {target:=.collected D,args:=#[]}::a.defers} W):
 (Code.rangeFunc g ps assign body).wpIn F n P Q a w:=
 wpIn_rangeFunc_ownH b5 h1 hg b6 eg a8 b0 b7 b8 b9 I Ix hI c0 h0
  (fun x a' W=>(∃J R,(J≠R∧w.heap.size≤J∧w.heap.size≤R∧a'= {tmps:=(((ps.zip (j x)).foldl (fun t (p,v)=>t.setIfInBounds p v) a.tmps).setIfInBounds q1 (.pointer (some ⟨J,0,none⟩))).setIfInBounds q2 (.pointer (some ⟨R,0,none⟩)),defers:=[]})∧al W J t1 (c1 x)∧al W R t2 (c2 x)))
  (fun x a' s A B row h hg hr=>by obtain⟨J,R,h1,h2,h3⟩:=h;exact⟨J,R,h1,iz (B:=w.heap.size) (cs:=fun _:Unit=>c1 x) s A B row h2 hg hr,iz (B:=w.heap.size) (cs:=fun _:Unit=>c2 x) s A B row h3 hg hr⟩)
  (fun l pre x W K hi hK=>Y l x W K (hK _ _ (((KeepsOthers.alloc _ _).trans (KeepsOthers.alloc _ _)).from _) (b0 (b3 _ _) (b3 _ _)) (hI.alloc _ (hI.alloc _ hi))
   ⟨W.heap.size,W.heap.size+1,⟨by omega,b4 _ _ hi,by have:=b4 _ _ hi;omega,rfl⟩,(al.new _ _ _).alloc _,ac (by simp)⟩))
  (fun l pre x a' W _ _ hi ⟨J,R,⟨h1,h2,h3,e⟩,h4,h5⟩ c4=>by rw[e];exact a1 l pre x J R W h1 h2 h3 h4 h5 hi c4)
  a6 a7
theorem qic {S:Nat→Prop}{w:World}{v:Value}{l:List bz}(h:tZ S w v l):tZ (fun b=>b<w.heap.size) w v l:=by obtain⟨a,cap,o,h1,C,I,h⟩:=h;refine⟨a,cap,o,h1,C,I,fun i x J=>?_⟩;obtain⟨b,off,cs,e,hs,hl,j,R,Y,rfl,h4,h5,h6⟩:=h i x J;exact⟨b,off,_,e,jy w _ (j 0 _ rfl),hl,j,R,Y,rfl,kV h4,kV h5,h6⟩
theorem vJ {S:Nat→Prop}{w:World}{v:Value}{l:List (List bz)}(h:bW S w v l):bW (fun b=>b<w.heap.size) w v l:=by obtain⟨a,cap,o,h1,C,I,h⟩:=h;refine⟨a,cap,o,h1,C,I,fun i x J=>?_⟩;obtain⟨b,off,c,e,Y,j,R⟩:=h i x J;exact⟨b,off,c,e,jy w _ j,j,qic R⟩
def AM (f:Nat→Int×Int)(j:Nat):Int:=if j%2=0 then(f (j/2)).1 else(f (j/2)).2
theorem GI (f:Nat→Int×Int)(v:Nat):AM f (v*2)=(f v).1:=by unfold AM;rw[ap (by omega),Nat.mul_div_cancel _ (by omega)]
theorem GJ (f:Nat→Int×Int)(v:Nat):AM f (v*2+1)=(f v).2:=by unfold AM;rw[ae (by omega),show(v*2+1)/2=v by omega]
theorem Lw {f g:Nat→Int×Int}{v j:Nat}(h:∀u,u≠v→f u=g u)(o:j≠v*2)(h1:j≠v*2+1):AM f j=AM g j:=by unfold AM;rw[h (j/2) (by omega)]
theorem JE {n v:Nat}{f g:Nat→Int×Int}(h:∀u,u≠v→g u=f u):((aN (n*2) (AM f)).setIfInBounds (v*2) (.int .i64 (g v).1)).setIfInBounds (v*2+1) (.int .i64 (g v).2)=aN (n*2) (AM g):=by
 rw[fZ,fZ];refine ex fun j _=>?_;unfold lu;by_cases h1:j=v*2+1;·rw[ap h1,h1,GJ]
 rw[ae h1];by_cases o:j=v*2;·rw[ap o,o,GI]
 rw[ae o];exact Lw (fun u hu=>(h u hu).symm) o h1
theorem FU:(prog.info? 165).map (fun i=>(i.zero,i.size,i.bytes))=some (some (.agg #[.int .i64 0,.int .i64 0]),2,16):=by kernel_rfl
theorem Gi (n:Nat)(R:n≤1048576)(w:World):(Instr.makeSlice 84 (.int .i64 n) (.int .i64 n)).run prog w=.ok (.slice (some ⟨w.heap.size,0,none⟩) n n) (w.alloc (.cells (aN (n*2) fun _=>0) 165)):=by
 obtain⟨i3,hi,C,I,J⟩:=info_parts FU;rw[run_make (P:=prog) w 84 165 i3 _ underlying84 hi C .i64 .i64 n n (by omega) (by omega) (by rw[J];omega) (by omega)];have e:madeCells (Value.agg #[.int .i64 0,.int .i64 0]).cells ((n:Int).toNat*i3.size)=aN (n*2) fun _=>0:=by(
 rw[I,dP];apply Array.ext_getElem?;intro j;by_cases o:j<n*2
 ·rw[bI o]
  rcases Nat.mod_two_eq_zero_or_one j with h|h<;>simp[madeCells,o,Value.cells,h]
 rw[jK (by rw[size_madeCells];omega),jK (by rw[kU];omega)])
 rw[e,dP]
end
end Go.Proofs.YtgdlhckhpolnnaaGreatDoor
