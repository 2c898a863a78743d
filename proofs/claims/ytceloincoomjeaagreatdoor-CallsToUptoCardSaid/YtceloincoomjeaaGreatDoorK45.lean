/- Part 46 of the proof of CallsTo (its last part says what is proved). No condition. -/
import Derived.Test.YtceloincoomjeaaGreatDoorK44
namespace Go.Proofs.YtceloincoomjeaaGreatDoor
set_option maxRecDepth 100000
set_option maxHeartbeats 8000000
open Go.RowKit Go.Proofs.Tryz
theorem vr {S:Nat→Prop}{w:World}{v:Value}{l:List Int}(h:aK S w v l):aK (fun b=>S b∧b<w.heap.size) w v l:=by obtain⟨A,c,e,o,C,I,J⟩:=h;refine⟨A,c,e,o,C,I,fun i x R=>?_⟩;obtain⟨b,off,u,Y,Z,j,e4⟩:=J i x R;exact⟨b,off,u,Y,⟨Z,jy w _ j⟩,j,e4⟩
def yO (x:bz)(a f:Value):List Value:=[.int .u8 x.kind,.int .u8 x.op,.int .i64 x.dst,.int .i64 x.ref,.int .i64 x.Ni,a,f,.int .i64 x.num,.int .i64 x.Nj]
def ki (g lo j:Nat)(hf:Bool)(w:World)(l:List bz):Prop:=∃cur,al w g 52 cur∧∀(k:Nat) y,l[k]? =some y→∃a f,
 (∀(r:Nat) u,(yO y a f)[r]? =some u→cur[k*9+r]? =some u)∧aK (fun b=>((k<j∨(k=j∧hf=true))→lo≤b)∧b≠g) w a y.args∧aK (fun b=>(k<j→lo≤b)∧b≠g) w f y.Nh∧jx y
theorem ki.keep {g lo j:Nat}{I:Bool}{w o:World}{l:List bz}{S:Nat→Prop}(h:ki g lo j I w l)(k:aa S w o)(R:∀b,b<w.heap.size→S b):ki g lo j I o l:=by obtain⟨cur,Y,Z⟩:=h;have C:aa All w o:=⟨k.os,k.output,k.size,fun b J _=>k.block b J (R b J)⟩;refine⟨cur,Y.kept C trivial,fun k y hy=>?_⟩;obtain⟨a,f,e1,e2,e3,e4⟩:=Z k y hy;exact⟨a,f,e1,ah.keep C.all e2,ah.keep C.all e3,e4⟩
theorem ki.get {g lo j:Nat}{C:Bool}{w:World}{l:List bz}(h:ki g lo j C w l){k:Nat}{x:bz}(I:l[k]? =some x):∃a f,(∀(r:Nat) u,(yO x a f)[r]? =some u→w.cell? ⟨g,k*9+r,none⟩=some u)∧(∀r,w.frozen? ⟨g,k*9+r,none⟩=false)∧aK (fun b=>b≠g) w a x.args∧aK (fun b=>b≠g) w f x.Nh:=by obtain⟨cur,o,J⟩:=h;obtain⟨a,f,R,Y,Z,e4⟩:=J k x I;exact⟨a,f,fun r u hu=>by rw[o.cell];exact R r u hu,fun r=>o.free _,ah.wide (fun _ h=>h.2) Y,ah.wide (fun _ h=>h.2) Z⟩
theorem rE {cur:Array Value}{i j:Nat}{u v:Value}(h:cur[j]? =some v)(l:i≠j):(cur.setIfInBounds i u)[j]? =some v:=by rw[Array.getElem?_setIfInBounds_ne l];exact h
theorem Hi {cur:Array Value}{i:Nat}{u v:Value}(h:cur[i]? =some v):(cur.setIfInBounds i u)[i]? =some u:=by rw[Array.getElem?_setIfInBounds_self_of_lt (mV.1 h).1]
theorem rC {y:bz}{a f:Value}{r:Nat}{u:Value}(h:(yO y a f)[r]? =some u):r<9:=(lS.1 h).1
theorem Lp {y:bz}{a f j:Value}{r:Nat}{u:Value}(h:(yO y j f)[r]? =some u)(l:r≠5):(yO y a f)[r]? =some u:=by have:=rC h;rcases r with _|_|_|_|_|_|_|_|_|r<;>first|exact h|omega
theorem Lq {y:bz}{a f j:Value}{r:Nat}{u:Value}(h:(yO y a j)[r]? =some u)(l:r≠6):(yO y a f)[r]? =some u:=by have:=rC h;rcases r with _|_|_|_|_|_|_|_|_|r<;>first|exact h|omega
theorem ki.args {g lo j:Nat}{w:World}{l:List bz}{x:bz}{u:Value}(h:ki g lo j false w l)(hx:l[j]? =some x)(hu:aK (fun b=>lo≤b∧b≠g) w u x.args):ki g lo j true (w.setCell ⟨g,j*9+5,none⟩ u) l:=by
 obtain⟨cur,h1,h2⟩:=h;have J:aa (fun b=>b≠g) w (w.setCell ⟨g,j*9+5,none⟩ u):=(aa.refl _ w).setCell (p:=⟨g,j*9+5,none⟩) (.inl fun h=>h rfl) _;refine⟨_,h1.set _ _,fun k y R=>?_⟩;obtain⟨a,f,Y,e2,Z,e4⟩:=h2 k y R;by_cases C:k=j
 ·subst C;rw[hx] at R;cases R;refine⟨u,f,fun r v I=>?_,ah.wide (fun b o=>⟨fun _=>o.1,o.2⟩) (ah.keep (J.mono fun b o=>o.2) hu),ah.keep (J.mono fun b o=>o.2) Z,e4⟩;by_cases hr:r=5
  ·subst hr
   cases I;exact Hi (Y 5 a rfl)
  exact rE (Y r v (Lp I hr)) (by omega)
 refine⟨a,f,fun r v I=>?_,ah.wide (fun b o=>⟨fun h=>o.1 (h.elim .inl fun h=>absurd h.1 C),o.2⟩) (ah.keep (J.mono fun b o=>o.2) e2),ah.keep (J.mono fun b o=>o.2) Z,e4⟩;have:=rC I;exact rE (Y r v I) (by omega)
theorem ki.Nh {g lo j:Nat}{w:World}{l:List bz}{x:bz}{u:Value}(h:ki g lo j true w l)(hx:l[j]? =some x)(hu:aK (fun b=>lo≤b∧b≠g) w u x.Nh):ki g lo (j+1) false (w.setCell ⟨g,j*9+6,none⟩ u) l:=by
 obtain⟨cur,h1,h2⟩:=h;have I:aa (fun b=>b≠g) w (w.setCell ⟨g,j*9+6,none⟩ u):=(aa.refl _ w).setCell (p:=⟨g,j*9+6,none⟩) (.inl fun h=>h rfl) _;refine⟨_,h1.set _ _,fun k y J=>?_⟩;obtain⟨a,f,R,Z,e3,e4⟩:=h2 k y J;by_cases Y:k=j
 ·subst Y;rw[hx] at J;cases J;refine⟨a,u,fun r v C=>?_,ah.wide (fun b o=>⟨fun _=>o.1 (.inr ⟨rfl,rfl⟩),o.2⟩) (ah.keep (I.mono fun b o=>o.2) Z),ah.wide (fun b o=>⟨fun _=>o.1,o.2⟩) (ah.keep (I.mono fun b o=>o.2) hu),e4⟩;by_cases hr:r=6
  ·subst hr
   cases C;exact Hi (R 6 f rfl)
  exact rE (R r v (Lq C hr)) (by omega)
 refine⟨a,f,fun r v C=>?_,ah.wide (fun b o=>⟨fun h=>o.1 (h.elim (fun h=>.inl (by omega)) fun h=>by cases h.2),o.2⟩) (ah.keep (I.mono fun b o=>o.2) Z),ah.wide (fun b o=>⟨fun h=>o.1 (by omega),o.2⟩) (ah.keep (I.mono fun b o=>o.2) e3),e4⟩;have:=rC C;exact rE (R r v C) (by omega)
theorem ki.done {g lo c:Nat}{w:World}{l:List bz}(h:ki g lo l.length false w l)(J:lo≤g)(R:l.length≤c)(hm:c≤maxLen)(j:l.length*96≤140737488355328):tZ (fun b=>lo≤b∧b<w.heap.size) w (.slice (some ⟨g,0,none⟩) l.length c) l:=by obtain⟨cur,o,Y⟩:=h;refine⟨_,_,rfl,R,hm,j,fun k y C=>?_⟩;obtain⟨a,f,Z,e2,e3,e4⟩:=Y k y C;have I:=(lS.1 C).1;refine⟨g,0,yO y a f,rfl,⟨J,o.lt⟩,rfl,fun r u hu=>?_,a,f,rfl,vr (ah.wide (fun b j=>j.1 (.inl I)) e2),vr (ah.wide (fun b j=>j.1 I) e3),e4⟩;rw[o.cell,cN];exact Z r u hu
theorem tV {P:Program}(w:World){ops:Array Oper}{rest:List Oper}{o:Oper}{a:Act}{Q:Exit→Act→World→Prop}(b1:o.guard=none)(s x:Operand)(t:TypeId)
 (ho:o.op=.call {callee:=.builtin .append,args:=#[s,x],argTypes:=#[t,t]})
 (i:TypeInfo) (z:Value) (ht:P.underlying t=some (.slice 52)) (hi:P.info? 52=some i) (hz:i.zero=some z)
 (I:i.size=9) (b2:i.bytes=96) (b3:z.cells.size=9)
 (j lo:Nat) (hs:a.eval s=.slice (some ⟨j,0,none⟩) 0 0) (hg:al w j 52 #[]) {S:Nat→Prop} {A:Option Addr} {m c:Nat} {l:List bz} (hx:a.eval x=.slice A m c) (b4:tZ S w (.slice A m c) l) (hS:∀b,S b→b<j)
 (h:∀A' c' J g,j≤g→(0<l.length→A'=some ⟨g,0,none⟩∧ki g lo 0 false J l)→l.length≤c'→c'≤maxLen→w.grownBy J (some j)→wpList P ops Q rest (a.put o.dst (.slice A' l.length c')) J):wpList P ops Q (o::rest) a w:=by
 obtain⟨hm,c3,b5,C,h1,h2,h3,h4⟩:=xn b4;have b6:C.flatten.length=m*9:=by
  have:∀L:List (List Value),(∀c∈L,c.length=9)→L.flatten.length=L.length*9:=by(
 intro L;induction L with
 |nil=>intro _;simp
 |cons c L ih=>intro hL;rw[List.flatten_cons,iQ,kI,Nat.succ_mul,ih fun d hd=>hL d (List.mem_cons_of_mem _ hd),hL c (List.mem_cons_self ..)];omega)
  rw[this C h2,h1,hm]
 have b7:∀u∈C.flatten,u.oneCell'=true:=by intro u hu;obtain⟨cs,R,hu⟩:=List.mem_flatten.1 hu;obtain⟨k,hk⟩:=cY.1 R;have c4:=(lS.1 hk).1;obtain⟨c5,Z,a',f',e1,e2,e3,e4⟩:=h3 k _ (lG (by omega));rw[hk] at Z;cases Z;obtain⟨_,_,rfl,_⟩:=e2;obtain⟨_,_,rfl,_⟩:=e3;subst e1;simp only[fX,List.not_mem_nil,or_false] at hu;rcases hu with rfl|rfl|rfl|rfl|rfl|rfl|rfl|rfl|rfl<;>rfl
 have a1:w.ownsRow j 52 9 (.slice (some ⟨j,0,none⟩) 0 0) 0 []:=⟨by simp,.inr ⟨j,0,#[],rfl,cf _,hg,cf _,Nat.zero_le _,by simp,by simp⟩⟩;have a6:=hg.lt;refine aR w b1 s x t ho j 52 i z 9 96 ht hi hz I b2 b3 (by decide) _ 0 [] hs a1 A m c C.flatten hx b6 h4 b7 (by omega) (by rw[cN,hm];exact b5) (by omega) fun v' J a7 Y b8=>?_;rw[cN,mF,hm] at a7;obtain⟨c2,hv⟩:=a7;rcases hv with ⟨rfl,h0⟩|⟨g,cap,cur,rfl,b9,hh,hc,a8,c6,c0⟩
 ·have c1:l.length=0:=h0
  have:=h none 0 J j (cf _) (fun h=>by omega) (by omega) (by unfold maxLen;omega) Y;rw[c1] at this;exact this
 have c7:g=j∨g=w.heap.size:=by
  rcases b8 with e|e;·left;injection e
  right;injection e
 have b0:aa S w J:=(aa.refl _ w).grown Y fun b hb=>.inl fun h=>absurd (hS b h) (by have e:j=b:=kJ hb;omega);refine h (some ⟨g,0,none⟩) cap J g b9 (fun _=>⟨rfl,cur,hh,fun k y hy=>?_⟩) hc a8 Y;obtain⟨cs,R,a',f',e1,e2,e3,e4⟩:=h3 k y hy;subst e1;refine⟨a',f',fun r u hu=>?_,ah.wide (fun b hb=>⟨fun h=>absurd h (by simp),by have:=hS b hb;omega⟩) (ah.keep b0 e2),ah.wide (fun b hb=>⟨fun h=>by omega,by have:=hS b hb;omega⟩) (ah.keep b0 e3),e4⟩;have hf:=wN C h2 k _ R r u hu;rw[←Array.getElem?_toList];rw[←c0] at hf;have a6:k*9+r<l.length*9:=by have:=(lS.1 hf).1;rw[fN] at this;omega
 rw[rY a6] at hf;exact hf
def MH (c:aE):Prop:=c.Nf.length≤100∧c.Nd.length≤100∧∀b∈c.Nf,b.Ng.length≤100∧∀l∈b.Ng,l.length≤300
def vY (c:aE)(w:World)(e:Ending)(w':World):Prop:=∃b:Bool,e=.returned (.bool b)∧(b=true→MH c)∧aa All w w'
theorem vY.no {c:aE}{w j:World}(h:aa All w j):vY c w (.returned (.bool false)) j:=⟨false,rfl,fun h=>Bool.noConfusion h,h⟩
theorem Hk (S:Nat→Prop)(cv:Value)(c:aE)(w:World)(hc:cQ S w cv c):
 Calls prog 4 #[cv,.int .i64 300] w (vY c w):=by
 obtain⟨ka,kf,rfl,b8,a1,b9⟩:=hc;have a6:=bV.la a1;obtain⟨A1,c1,rfl,m1,m2,m3,_⟩:=b8;obtain⟨A2,c2,rfl,m4,m5,m6,_⟩:=a1;unfold maxLen at*;obtain⟨W0,C⟩:=eQ (w.alloc (.cells #[.slice A1 c.Nd.length c1,.slice A2 c.Nf.length c2,.int .i64 c.main] 30));have J:aa All w W0:=by rw[C];exact kR.alloc _
 have bK:al W0 w.heap.size 30 #[.slice A1 c.Nd.length c1,.slice A2 c.Nf.length c2,.int .i64 c.main]:=by rw[C];exact ac rfl
 obtain⟨k0,k1,k2⟩:=bK.c3;have R:=J2 C J;have HP:=oH (a6 W0 J);clear C J bK a6 b9;go_enter func4,ntmps4;go_upto_region 1 with fail;rw[←R.1];by_cases h0:c.Nf.length≤100;·(
 have a7:decide ((100:Int)<(c.Nf.length:Int))=false:=by simp;omega
 by_cases h1:c.Nd.length≤100;·(
 have a8:decide ((100:Int)<(c.Nd.length:Int))=false:=by simp;omega
 have HS:=J2 h0 h1;clear h0 h1;go_wp2_with fail;go_loopg [5,6] c.Nf.length (fun g s5 s6 wr=>∃(j n:Nat),j≤c.Nf.length∧g=c.Nf.length-j∧s6=.int .i64 j∧s5=.int .i64 n∧n≤300∧wr=W0∧∀(i:Nat) b,i<j→c.Nf[i]? =some b→b.Ng.length≤100∧∀l∈b.Ng,l.length≤300);·exact⟨0,0,by omega,by omega,rfl,rfl,by omega,rfl,fun i l hi=>by omega⟩
 obtain⟨j,n,hj,rfl,rfl,rfl,hn,hw,o⟩:=hrel;have Y:=hw.symm;subst Y;by_cases c0:j<c.Nf.length;·(
 obtain⟨b,hb⟩:=eG c0;obtain⟨gb,go,d7,rfl,c3,b0,b1,bv,rfl,Z,c4,c5⟩:=aZ HP.out hb;obtain⟨vA,vc,rfl,v1,v2,v3,_⟩:=id Z;unfold maxLen at v2;have z2:=b1 2 _ rfl;have HB:=J3 o hb Z;clear o hb Z b1 c4 c5 b0 c3;by_cases g0:b.Ng.length≤100;·(
 have b2:decide ((100:Int)<(b.Ng.length:Int))=false:=by simp;omega
 have c6:=oH g0;go_wp2_with fail;go_loopg [5,7] b.Ng.length (fun g s5 s7 wr=>∃(k I:Nat),k≤b.Ng.length∧g=b.Ng.length-k∧s7=.int .i64 k∧s5=.int .i64 I∧I≤300+k*300∧wr=W0∧∀(i:Nat) l,i<k→b.Ng[i]? =some l→l.length≤300);·exact⟨0,n,by omega,by omega,rfl,rfl,by omega,rfl,fun i l hi=>by omega⟩
 obtain⟨k,I,hk,rfl,rfl,rfl,d8,hw,o⟩:=hrel;have Y:=hw.symm;subst Y;have d9:k*300≤100*300:=Nat.mul_le_mul_right _ (by omega);by_cases b3:k<b.Ng.length;·(
 obtain⟨l,hl⟩:=eG b3;obtain⟨rb,ro,rv,rfl,c7,e0,b4⟩:=bn HB.2.2 hl;obtain⟨LA,lc,rfl,l1,l2,l3,_⟩:=id b4;unfold maxLen at l2;have HL:=J2 o hl;clear o hl b4 c7;by_cases g1:l.length≤300;·(
 have b5:decide ((300:Int)<(l.length:Int))=false:=by simp;omega
 have c8:=oH g1;go_wp2_with fail;go_roundg (b.Ng.length-(k+1))
 ·refine⟨k+1,I+l.length,by omega,rfl,by go_num,by go_num,by omega,rfl,fun i z hi hz=>?_⟩
  by_cases e:i=k;·subst e;rw[HL.2] at hz;cases hz;exact c8.out
  exact HL.1 i z (by omega) hz
 omega)
 have b5:decide ((300:Int)<(l.length:Int))=true:=by simp;omega
 clear g1;go_wp2_with fail;go_ret;exact .no R.2)
 obtain rfl:k=b.Ng.length:=by omega
 have HA:=oH o;clear o;by_cases g2:I≤300;·(
 have b6:decide ((300:Int)<(I:Int))=false:=by simp;omega
 have c9:=oH g2;go_wp2_with fail;go_roundg (c.Nf.length-(j+1))
 ·refine⟨j+1,I,by omega,rfl,by go_num,rfl,c9.out,rfl,fun i z hi hz=>?_⟩
  by_cases e:i=j;·subst e;rw[HB.2.1] at hz;cases hz;refine⟨c6.out,fun l hl=>?_⟩;obtain⟨i2,b7⟩:=cY.1 hl;exact HA.out i2 l (lS.1 b7).1 b7
  exact HB.1 i z (by omega) hz
 omega)
 have b6:decide ((300:Int)<(I:Int))=true:=by simp;omega
 clear g2;go_wp2_with fail;go_ret;exact .no R.2)
 have b2:decide ((100:Int)<(b.Ng.length:Int))=true:=by simp;omega
 clear g0;go_wp2_with fail;go_ret;exact .no R.2)
 obtain rfl:j=c.Nf.length:=by omega
 have HY:=oH (show MH c from⟨HS.1,HS.2,fun b hb=>by obtain⟨i,hi⟩:=cY.1 hb;exact o i b (lS.1 hi).1 hi⟩);clear o;go_wp2_with fail;go_ret;exact⟨true,rfl,fun _=>HY.out,R.2⟩)
 have a8:decide ((100:Int)<(c.Nd.length:Int))=true:=by simp;omega
 clear h1;go_wp2_with fail;go_ret;exact .no R.2)
 have a7:decide ((100:Int)<(c.Nf.length:Int))=true:=by simp;omega
 clear h0;go_wp2_with fail;go_ret;exact .no R.2
theorem Dg:(prog.info? 79).map (fun i=>(i.zero,i.size,i.bytes))=some (some (.agg #[.int .i64 0,.int .i64 0]),2,16):=by kernel_rfl
def zF (c:aE)(w:World)(e:Ending)(w':World):Prop:=∃u,e=.returned u∧aa All w w'∧cQ (fun b=>w.heap.size≤b∧b<w'.heap.size) w' u c
theorem ux {α:Type}{n bw:Nat}{E:cO α}{P:Program}(w:World){ops:Array Oper}{rest:List Oper}{o:Oper}{a:Act}{Q:Exit→Act→World→Prop}(g:zG E)(a1:o.guard=none)(s x:Operand)(t:TypeId)
 (ho:o.op=.call {callee:=.builtin .append,args:=#[s,x],argTypes:=#[t,t]})
 (e:TypeId) (i:TypeInfo) (z:Value) (ht:P.underlying t=some (.slice e)) (hi:P.info? e=some i) (hz:i.zero=some z)
 (C:i.size=n) (a6:i.bytes=bw) (a7:z.cells.size=n) (a8:0<n)
 (B:Nat) (hs:a.eval s=.slice none 0 0) (hB:B≤w.heap.size) {S:Nat→Prop} {A:Option Addr} {m c:Nat} {l:List α} (hx:a.eval x=.slice A m c) (b0:rx n bw E S w (.slice A m c) l)
 (h:∀A' c' J,rx n bw E (fun b=>B≤b∧b<J.heap.size) J (.slice A' l.length c') l→w.grownBy J none→wpList P ops Q rest (a.put o.dst (.slice A' l.length c')) J):wpList P ops Q (o::rest) a w:=by
 obtain⟨hm,b5,R,j,h1,h2,h3,h4⟩:=xn b0;have b1:j.flatten.length=m*n:=by
  have:∀L:List (List Value),(∀c∈L,c.length=n)→L.flatten.length=L.length*n:=by(
 intro L;induction L with
 |nil=>intro _;simp
 |cons c L ih=>intro hL;rw[List.flatten_cons,iQ,kI,Nat.succ_mul,ih fun d hd=>hL d (List.mem_cons_of_mem _ hd),hL c (List.mem_cons_self ..)];omega)
  rw[this j h2,h1,hm]
 have b2:∀u∈j.flatten,u.oneCell'=true:=by intro u hu;obtain⟨cs,b3,hu⟩:=List.mem_flatten.1 hu;obtain⟨k,hk⟩:=cY.1 b3;have b6:=(lS.1 hk).1;obtain⟨b7,Y,hE⟩:=h3 k _ (lG (by omega));rw[hk] at Y;cases Y;exact g.one hE u hu
 have Z:w.ownsRow B e n (.slice none 0 0) 0 []:=⟨by simp,.inl ⟨rfl,rfl⟩⟩;refine aR w a1 s x t ho B e i z n bw ht hi hz C a6 a7 a8 _ 0 [] hs Z A m c j.flatten hx b1 h4 b2 (by omega) (by rw[cN,hm];exact R) hB fun v' J I b4 _=>?_;rw[cN,mF,hm] at I;obtain⟨A',c',rfl⟩:=aU I;refine h A' c' J (dR.read (E:=E) (B:=B) (e:=e) ?_ ?_ R) b4;·exact⟨fun _ hh=>g.any hh,fun _ hh=>g.any hh⟩
 exact⟨j,fun _=>False,I,h1,h2,fun _ hh=>hh.elim,fun k y hy=>by obtain⟨cs,hc,hE⟩:=h3 k y hy;exact⟨cs,hc,g.any hE⟩⟩
theorem wD (S:Nat→Prop)(cv:Value)(c:aE)(w:World)(hc:cQ S w cv c)(hS:∀b,S b→b<w.heap.size)(hf:MH c):
 Calls prog 7 #[cv] w (zF c w):=by
 obtain⟨iI,R,Y,Z,a1⟩:=info_parts kt;have II:=J4 R Y Z a1;clear R Y Z a1;obtain⟨iC,R,Y,Z,a1⟩:=info_parts Dg;have IC:=J4 R Y Z a1;clear R Y Z a1;obtain⟨iO,R,Y,Z,a1⟩:=info_parts FT;have i0:=J4 R Y Z a1;clear R Y Z a1;obtain⟨iR,R,Y,Z,a1⟩:=info_parts BZ;have IR:=J4 R Y Z a1;clear R Y Z a1;obtain⟨iB,R,Y,Z,a1⟩:=info_parts yx;have IB:=J4 R Y Z a1;clear R Y Z a1;have hc:=dc.wide hS hc;obtain⟨ka,kf,rfl,l6,l7,l8⟩:=hc;have e4:=bu.la l6;have l9:=bV.la l7;obtain⟨A1,c1,rfl,m1,m2,m3,_⟩:=l6;obtain⟨A2,c2,rfl,m4,m5,m6,_⟩:=l7;unfold maxLen at m2 m5;have p8:=hf.1;have HS:=J4 e4 l9 l8 hf;clear e4 l9 l8 hf hS;obtain⟨W0,c3⟩:=eQ ((w.alloc (.cells #[.slice A1 c.Nd.length c1,.slice A2 c.Nf.length c2,.int .i64 c.main] 30)).alloc (.cells #[.slice none 0 0,.slice none 0 0,.int .i64 0] 30));have r5:w.heap.size+2≤W0.heap.size:=by rw[c3];simp
 have p9:W0.heap.size≤w.heap.size+2:=by rw[c3];simp
 have m0:aa All w W0:=by rw[c3];exact(kR.alloc _).alloc _
 have bK:al W0 w.heap.size 30 #[.slice A1 c.Nd.length c1,.slice A2 c.Nf.length c2,.int .i64 c.main]:=by rw[c3];exact(al.new _ _ _).alloc _
 have bZ:al W0 (w.heap.size+1) 30 #[.slice none 0 0,.slice none 0 0,.int .i64 0]:=by rw[c3];exact ac (by simp)
 obtain⟨k0,k1,k2⟩:=bK.c3;have HW:=J4 c3 m0 bK bZ;clear c3 m0 bK bZ;go_enter func7,ntmps7;go_upto_region 1 with fail;rw[←HW.1];obtain⟨q3,e7⟩:=eQ W0.heap.size;obtain⟨W1,i1⟩:=eQ (W0.alloc (.cells #[.slice none 0 0,.slice none 0 0,.int .i64 c.main] 30));have m7:aa All W0 W1:=by rw[i1];exact kR.alloc _
 have b1:al W1 q3 30 #[.slice none 0 0,.slice none 0 0,.int .i64 c.main]:=by rw[i1,e7];exact al.new _ _ _
 have r6:q3<W1.heap.size:=b1.lt;have r7:W0.heap.size≤q3:=eE e7.symm;have r8:q3≤W0.heap.size:=eE e7;have H1:=J4 i1 m7 b1 e7;clear i1 m7 b1 e7;go_upto_region 2 with fail;rw[←H1.1,←H1.2.2.2];have bK:=H1.2.1;clear k0 k1 k2;have e8:=HW.2.2.1.kept H1.2.1 trivial;obtain⟨k0,k1,k2⟩:=e8.c3;clear e8 bK;have c4:=H1.2.2.1;obtain⟨o0,o1,o2⟩:=c4.c3;clear c4
 go_upto_region 3 with (at_builtin
                        go_loud (
                        refine ux (E:=rI) W1 FF rfl (.tmp 14) (.tmp 16) 27 rfl 79 iC _ underlying27 IC.1 IC.2.1 IC.2.2.1 IC.2.2.2 rfl (by decide) W1.heap.size rfl (cf _) rfl (HS.1 W1 (HW.2.1.trans H1.2.1)) ?_;intro CA ca v0 e4 m8;have b6:aa All W1 v0:=kR.grown m8 fun b hb=>by cases hb
                        have bb:=H1.2.2.1.kept b6 trivial;have f0:=bb.free 0;have y0:=bb.cell 0;simp only[gc] at y0;have HV:=J3 e4 b6 bb;clear e4 m8 b6 bb))
 have k5:=HV.2.2.set 0 (.slice CA c.Nd.length ca);have o:=(aa.refl (fun b=>b≠q3) v0).setCell (p:=⟨q3,0,none⟩) (.inl fun h=>h rfl) (.slice CA c.Nd.length ca);simp only[ga] at k5;have HT:=J2 k5 o;clear k5 o k0 k1 k2 o0 o1 o2 y0 f0;generalize v0.setCell _ _=W2 at*;have e9:aa (fun b=>b≠q3) W1 W2:=HV.2.1.all.trans HT.2;have i2:aa All w W2:=am ((HW.2.1.trans H1.2.1).all.trans (e9.mono fun b (hb:b<w.heap.size)=>by show b≠_;omega));have b7:ev (fun b=>W1.heap.size≤b∧b<W2.heap.size) W2 (.slice CA c.Nd.length ca) c.Nd:=bT.Good.wide bu (fun b (hb:W1.heap.size≤b∧b<v0.heap.size)=>show W1.heap.size≤b∧b<W2.heap.size by have:=HT.2.size;omega) (bT.Good.keep bu (HT.2.mono fun b (hb:W1.heap.size≤b∧b<v0.heap.size)=>by show b≠_;omega) HV.1);have m9:=(HW.2.2.2.kept H1.2.1 trivial).kept e9 (by show _≠_;omega);have n0:=(HW.2.2.1.kept H1.2.1 trivial).kept e9 (by show _≠_;omega);have r9:W1.heap.size≤W2.heap.size:=e9.size;have H2:=J5 i2 HT.1 b7 m9 n0;clear e9 i2 b7 m9 n0 HT HV;go_wp2_with fail;go_loopg [4] c.Nf.length (fun gg s wr=>∃(i:Nat) (v:Value),i≤c.Nf.length∧gg=c.Nf.length-i∧s=.int .i64 i∧aa (fun b=>b≠q3) W2 wr∧al wr q3 30 #[.slice CA c.Nd.length ca,v,.int .i64 c.main]∧dR 3 48 qO W2.heap.size wr v (c.Nf.take i));·exact⟨0,_,by omega,by omega,rfl,kR,H2.2.1,by rw[List.take_zero];exact dR.nil⟩
 obtain⟨i,v,hi,rfl,rfl,I,c4,C⟩:=hrel;have s0:W2.heap.size≤wr.heap.size:=I.size;have h2:aa All w wr:=am (H2.1.all.trans (I.mono fun b (hb:b<w.heap.size)=>by show b≠_;omega));have e8:=H2.2.2.2.2.kept I (by show _≠_;omega);obtain⟨k0,k1,k2⟩:=e8.c3;clear e8;by_cases q0:i<c.Nf.length;·(
 obtain⟨b,hb⟩:=eG q0;have k6:=HS.2.2.2.2.2 b (mG hb);obtain⟨gb,go,u0,rfl,_,_,i4,bv,rfl,n1,n2,n3⟩:=aZ (HS.2.1 wr h2) hb;have j8:=bg.la n1;obtain⟨B1,d1,rfl,q1,q2,q4,_⟩:=n1;unfold maxLen at q2;have z0:=i4 0 _ rfl;rw[dj] at z0;have z1:=i4 1 _ rfl;have z2:=i4 2 _ rfl;obtain⟨W5,i5⟩:=eQ (wr.alloc (.cells #[.int .i64 b.params,.int .i64 b.vars,.slice B1 b.Ng.length d1] 48));have n4:aa All wr W5:=by rw[i5];exact kR.alloc _
 have b5:al W5 wr.heap.size 48 #[.int .i64 b.params,.int .i64 b.vars,.slice B1 b.Ng.length d1]:=by rw[i5];exact al.new _ _ _
 have s3:=b5.lt;have q5:=k6.1;have HB:=J12 hb j8 i5 n4 b5 I h2 c4 C n2 n3 k6.2;clear hb j8 i5 n4 b5 I h2 c4 C n2 n3 i4 k6;obtain⟨wo,rfl⟩:=eQ wr;go_upto_region 7 with fail;rw[←HB.2.2.1];clear z0 z1 z2 k0 k1 k2;go_wp2_with fail;go_loopg [6,7] b.Ng.length (fun gg s6 s7 wn=>∃k:Nat,k≤b.Ng.length∧gg=b.Ng.length-k∧s7=.int .i64 k∧aa All W5 wn∧dR 1 49 (eT tZ) W5.heap.size wn s6 (b.Ng.take k));·exact⟨0,by omega,by omega,rfl,kR,by rw[List.take_zero];exact dR.nil⟩
 obtain⟨k,hk,rfl,rfl,I,C⟩:=hrel;have s4:W5.heap.size≤wr.heap.size:=I.size;have d9:=HB.2.2.2.2.1.kept I trivial;obtain⟨b0,b1,b2⟩:=d9.c3;by_cases n5:k<b.Ng.length;·(
 obtain⟨l,hl⟩:=eG n5;obtain⟨rb,ro,rv,rfl,_,n6,k7⟩:=bn (HB.2.1 wr (HB.2.2.2.1.trans I)) hl;have q6:=HB.2.2.2.2.2.2.2.2.2.2.2 l (mG hl);have n7:w.heap.size≤wr.heap.size:=by omega
 obtain⟨LA,lc,rfl,l1,l2,l3,_⟩:=id k7;unfold maxLen at l2;obtain⟨X,hX⟩:=eQ (wr.alloc (.cells #[] 52));have a7:aa All wr X:=by rw[hX];exact kR.alloc _
 have bX:al X wr.heap.size 52 #[]:=by rw[hX];exact al.new _ _ _
 have n8:=d9.alloc (.cells #[] 52);obtain⟨d0,d1,d2⟩:=n8.c3;have n9:=((aa.refl All wr).alloc (.cells #[] 52)).cell trivial n6;have HX:=J4 hX a7 bX (cT.keep a7.all k7);have HL:=J3 hl I C;clear hX a7 bX hl I C d9 n8 n6 k7;obtain⟨w6,rfl⟩:=eQ wr
 go_upto_region 12 with (at_builtin
                         go_loud (rw[←HX.1];refine tV X rfl (.tmp 38) (.tmp 43) 49 rfl iO _ underlying49 i0.1 i0.2.1 i0.2.2.1 i0.2.2.2 rfl w6.heap.size w6.heap.size rfl HX.2.2.1 rfl HX.2.2.2 (fun b hb=>Nat.lt_of_lt_of_le hb n7) ?_;intro A8 c8 v8 g8 q7 o3 o4 j9 k3;have o5:aa All w6 v8:=HX.2.1.grown k3 fun q hq=>.inr (eE (kJ hq));have HV:=J3 o5 o3 j9;clear o5 o3 k3 j9))
 clear b0 b1 b2 d0 d1 d2 n9;go_wp2_with fail;go_loopg [9] l.length (fun gg s9 wn=>∃j:Nat,j≤l.length∧gg=l.length-j∧s9=.int .i64 j∧aa (fun q=>q≠g8) v8 wn∧(0<l.length→ki g8 w6.heap.size j false wn l));·exact⟨0,by omega,by omega,rfl,kR,fun h=>(HV.2.1 h).2⟩
 obtain⟨j,hj,rfl,rfl,I,a8⟩:=hrel;have o6:=HV.1.size;have s5:=I.size;by_cases o7:j<l.length;·(
 obtain⟨x,hx⟩:=eG o7;obtain⟨rfl,q8⟩:=HV.2.1 (by omega);have a8:=a8 (by omega);have q9:g8<wr.heap.size:=by obtain⟨_,h,_⟩:=a8;exact h.lt
 have e0:=oH hx;have i6:=J2 I a8;clear I a8 q8 hx;obtain⟨a5,f5,xc,k8,e1,e2⟩:=i6.2.get e0.out;obtain⟨ua,uc,rfl,_⟩:=id e1;obtain⟨va,vc,rfl,_⟩:=id e2;obtain⟨X5,i7⟩:∃X,X=wr.alloc (.cells #[] 3):=⟨_,rfl⟩;have a7:aa All wr X5:=by rw[i7];exact kR.alloc _
 have bX:al X5 wr.heap.size 3 #[]:=by rw[i7];exact al.new _ _ _
 have h3:=rB (ah.keep a7.all e1);have xq:=((aa.refl All wr).alloc (.cells #[] 3)).cell (p:=⟨g8,j*9+5,none⟩) trivial (xc 5 _ rfl);have h4:=i6.2.keep a7 (fun _ _=>trivial);have j0:=J5 i7 a7 bX h3 h4;clear i7 a7 bX h3 h4 xc k8 e1 e2
 go_upto_region 16 with (at_builtin
                         go_loud (rw[←j0.1];refine gx (E:=eT rQ) X5 BR rfl (.tmp 53) (.tmp 58) 50 rfl 3 iI _ underlying50 II.1 II.2.1 II.2.2.1 II.2.2.2 rfl (by decide) wr.heap.size wr.heap.size rfl j0.2.2.1 (cf _) rfl j0.2.2.2.1 ?_;intro C5 e5 v5 o8 o9;have b6:aa (fun b=>b<wr.heap.size) X5 v5:=kR.grown o9 fun b hb=>.inl fun h=>absurd (kJ hb) (by omega);have c5:aa All wr v5:=am (j0.2.1.all.trans b6);have c7:=i6.2.keep c5 (fun _ _=>trivial);obtain⟨a',f',h5,b8,_,_⟩:=c7.get e0.out;have y5:=h5 5 _ rfl;have r0:=b8 5;have j1:=J3 c5 c7 (jT o8);clear o8 o9 b6 c5 c7 h5 b8))
 have o:=(aa.refl (fun b=>b≠g8) v5).setCell (p:=⟨g8,j*9+5,none⟩) (.inl fun h=>h rfl) (.slice C5 x.args.length e5);have p3:=j1.2.1.args (u:=.slice C5 x.args.length e5) e0.out (ah.wide (fun b hb=>⟨by omega,by omega⟩) j1.2.2);have j2:=J2 o p3;have r3:=j1.1.size;have p7:=o.size;clear o p3 xq y5 r0;generalize v5.setCell _ _=W6 at*;obtain⟨a6,f6,xc,k8,e1,e2⟩:=j2.2.get e0.out;obtain⟨ua,uc,rfl,_⟩:=id e1;obtain⟨va,vc,rfl,_⟩:=id e2;obtain⟨X6,j3⟩:∃X,X=W6.alloc (.cells #[] 3):=⟨_,rfl⟩;have a7:aa All W6 X6:=by rw[j3];exact kR.alloc _
 have bX:al X6 W6.heap.size 3 #[]:=by rw[j3];exact al.new _ _ _
 have h3:=rB (ah.keep a7.all e2);have xq:=((aa.refl All W6).alloc (.cells #[] 3)).cell (p:=⟨g8,j*9+6,none⟩) trivial (xc 6 _ rfl);have h4:=j2.2.keep a7 (fun _ _=>trivial);have j4:=J5 j3 a7 bX h3 h4;clear j3 a7 bX h3 h4 xc k8 e1 e2;go_wp2_with (at_builtin;go_loud (rw[←j4.1];refine gx (E:=eT rQ) X6 BR rfl (.tmp 64) (.tmp 69) 50 rfl 3 iI _ underlying50 II.1 II.2.1 II.2.2.1 II.2.2.2 rfl (by decide) W6.heap.size W6.heap.size rfl j4.2.2.1 (cf _) rfl j4.2.2.2.1 ?_;intro C6 e6 v6 p4 p5;have b6:aa (fun b=>b<W6.heap.size) X6 v6:=kR.grown p5 fun b hb=>.inl fun h=>absurd (kJ hb) (by omega);have c5:aa All W6 v6:=am (j4.2.1.all.trans b6);have c7:=j2.2.keep c5 (fun _ _=>trivial);obtain⟨a',f',h5,b8,_,_⟩:=c7.get e0.out;have y6:=h5 6 _ rfl;have u1:=b8 6;have k9:=J3 c5 c7 (jT p4);clear p4 p5 b6 c5 c7 h5 b8));go_roundg (l.length-(j+1))
 ·have h1:=i6.1.trans (j1.1.all.trans j2.1)
  have o:=(aa.refl (fun b=>b≠g8) v6).setCell (p:=⟨g8,j*9+6,none⟩) (.inl fun h=>h rfl) (.slice C6 x.Nh.length e6);exact⟨j+1,by omega,rfl,by go_num,h1.trans (k9.1.all.trans o),fun _=>k9.2.1.Nh (u:=.slice C6 x.Nh.length e6) e0.out (ah.wide (fun b hb=>⟨by omega,by omega⟩) k9.2.2)⟩
 omega)
 obtain rfl:j=l.length:=by omega
 have k4:tZ (fun b=>w6.heap.size≤b∧b<wr.heap.size) wr (.slice A8 l.length c8) l:=by
  by_cases h0:0<l.length
  ·obtain⟨rfl,_⟩:=HV.2.1 h0
   exact(a8 h0).done q7 o4 HV.2.2 l3
  exact⟨_,_,rfl,o4,HV.2.2,l3,fun i x hx=>by have:=(lS.1 hx).1;omega⟩
 have l0:aa All w6 wr:=am (HV.1.all.trans (I.mono fun b (hb:b<w6.heap.size)=>by show b≠_;omega));obtain⟨A6,c6,rfl⟩:=HL.2.2.form;rw[fN,Nat.min_eq_left hk];have C:=HL.2.2;rw[fN,Nat.min_eq_left hk] at C;have h6:=C.keep (aS cT) (l0.alloc (.cells #[.slice A8 l.length c8] 49)) (fun _ _ _=>trivial);have HM:=J3 l0 C k4;clear I a8 k4 l0 C;go_wp2_with (
  at_builtin;refine bN (E:=eT tZ) _ (aS cT) rfl (.tmp 73) (.tmp 75) 46 rfl iR _ 24 underlying46 IR.1 IR.2.1 IR.2.2.1 IR.2.2.2 rfl (by decide) _ _ rfl h6 wr.heap.size 0 1 rfl [.slice A8 l.length c8] l rfl ?_ ?_ (by rw[fN];omega) (by omega) (by simp;omega) (fun b=>w6.heap.size≤b∧b<wr.heap.size) ?_ ?_ ?_
  ·intro j u hu
   rw[cN,al.cell (al.new _ _ _)];simpa using hu
  ·intro u hu
   rw[cx.1 hu];rfl
  ·intro b hb;obtain⟨xs,ho⟩:=HM.2.1.own;refine⟨by omega,by have:=hb.2;simp;omega,fun e=>?_⟩;have:=(aD ho e).2;omega
  ·exact⟨_,rfl,cT.keep (kR.alloc _) HM.2.2⟩
  intro A9 c9 v9 J b9 b3;have d7:aa All W5 v9:=((HL.2.1.trans HM.1).alloc _).grown b9 fun b hb=>.inr (b3 b hb);rw[fN,Nat.min_eq_left hk] at J;have H9:=J2 d7 J;clear d7 J b9 b3 h6)
 go_roundg (b.Ng.length-(k+1));·exact⟨k+1,by omega,rfl,by go_num,H9.1,by rw[show b.Ng.take (k+1)=b.Ng.take k++[l] by rw[cU,HL.1];rfl];exact H9.2⟩
 omega)
 obtain rfl:k=b.Ng.length:=by omega
 rw[dZ] at C;obtain⟨A6,c6,rfl⟩:=C.form;have f5:=d9.free 2;have h7:=d9.set 2 (.slice A6 b.Ng.length c6);have o:=(aa.refl (fun q=>q≠wo.heap.size) wr).setCell (p:=⟨wo.heap.size,2,none⟩) (.inl fun h=>h rfl) (.slice A6 b.Ng.length c6);simp only[ga] at h7;obtain⟨W8,l4⟩:=eQ (wr.setCell ⟨wo.heap.size,2,none⟩ (.slice A6 b.Ng.length c6));rw[←l4] at h7 o;have o6:wr.heap.size≤W8.heap.size:=o.size;have h8:=C.keep (aS cT) o (fun q h1 _=>by show q≠_;omega);have j5:aa All wo W8:=am ((HB.2.2.2.1.trans I).all.trans (o.mono fun q (hq:q<wo.heap.size)=>by show q≠_;omega));have j6:=HB.2.2.2.2.2.2.2.1.kept j5 trivial;obtain⟨Av,e3,rfl⟩:=HB.2.2.2.2.2.2.2.2.1.form;rw[fN,Nat.min_eq_left hi] at j6;obtain⟨p0,p1,p2⟩:=j6.c3;obtain⟨d0,d1,d2⟩:=h7.c3;have d8:=HB.2.2.2.2.2.2.2.2.1.keep gI (j5.alloc (.cells #[.int .i64 b.params,.int .i64 b.vars,.slice A6 b.Ng.length c6] 48)) (fun _ _ _=>trivial);have b4:bW (fun q=>W5.heap.size≤q∧q<W8.heap.size) W8 (.slice A6 b.Ng.length c6) b.Ng:=jT (h8.read (aS cT) (by omega));rw[fN,Nat.min_eq_left hi] at d8;have h9:∀q,(Value.slice Av i e3).ownBlock=some q→q<wo.heap.size:=by intro q e;obtain⟨xs,ho⟩:=HB.2.2.2.2.2.2.2.2.1.own;rw[fN,Nat.min_eq_left hi] at ho;exact(aD ho e).2
 have HM:=J6 l4 j5 h7 j6 h9 b4;clear l4 j5 h7 j6 h9 b4 h8 o I C d9;go_upto_region 19 with fail;rw[←HM.1];clear b0 b1 b2 f5;go_wp2_with (
  at_builtin;go_loud (
  refine bN (E:=qO) _ gI rfl (.tmp 80) (.tmp 82) 28 rfl iB _ 40 underlying28 IB.1 IB.2.1 IB.2.2.1 IB.2.2.2 rfl (by decide) _ _ rfl d8 W8.heap.size 0 1 rfl [.int .i64 b.params,.int .i64 b.vars,.slice A6 b.Ng.length c6] b rfl ?_ ?_ (by rw[fN];omega) (by omega) (by simp;omega) (fun q=>W5.heap.size≤q∧q<W8.heap.size) ?_ ?_ ?_
  ·intro j u hu
   rw[cN,al.cell (al.new _ _ _)];simpa using hu
  ·intro u hu;simp only[fX,List.not_mem_nil,or_false] at hu;rcases hu with rfl|rfl|rfl<;>rfl
  ·intro q hq;refine⟨by omega,by have:=hq.2;simp;omega,fun e=>?_⟩;have:=HM.2.2.2.2.1 q e;omega
  ·exact⟨_,rfl,bg.keep (kR.alloc _) HM.2.2.2.2.2,HB.2.2.2.2.2.2.2.2.2.1,HB.2.2.2.2.2.2.2.2.2.2.1⟩
  intro A9 c9 v9 J b9 b3;have d7:aa (fun q=>q<W2.heap.size) wo v9:=((HM.2.1.mono fun _ _=>trivial).alloc _).grown b9 fun q hq=>.inl fun h=>by have:=b3 q hq;omega
  have j7:=HB.2.2.2.2.2.2.2.1.kept d7 (by show _<_;omega);have y9:=j7.cell 1;have f9:=j7.free 1;simp only[gc] at y9;rw[fN,Nat.min_eq_left hi] at J;have H9:=J3 d7 J j7;have s8:=d7.size;clear d7 J b9 b3 d8 j7))
 go_roundg (c.Nf.length-(i+1));·have o:=(aa.refl (fun b=>b≠q3) v9).setCell (p:=⟨q3,1,none⟩) (.inl fun h=>h rfl) (.slice A9 (i+1) c9);have p6:=H9.2.2.set 1 (.slice A9 (i+1) c9);simp only[ga] at p6;have i2:aa (fun b=>b≠q3) W2 v9:=⟨H9.1.os.trans HB.2.2.2.2.2.1.os,H9.1.output.trans HB.2.2.2.2.2.1.output,by omega,fun q hq r4=>(H9.1.block q (by omega) hq).trans (HB.2.2.2.2.2.1.block q hq r4)⟩;refine⟨i+1,.slice A9 (i+1) c9,by omega,rfl,by go_num,i2.trans o,p6,?_⟩;rw[show c.Nf.take (i+1)=c.Nf.take i++[b] by rw[cU,HB.1];rfl];exact H9.2.1.keep gI o (fun q h1 _=>by show q≠_;omega)
 omega)
 obtain rfl:i=c.Nf.length:=by omega
 rw[dZ] at C;obtain⟨Av,e3,rfl⟩:=C.form;have hz:=H2.2.2.2.1.kept I (by show _≠_;omega);obtain⟨p0,p1,p2⟩:=c4.c3;obtain⟨z0,z1,z2⟩:=hz.c3;have f0:=hz.free 0;have f1:=hz.free 1;have f2:=hz.free 2;have l5:=((hz.set 0 (.slice CA c.Nd.length ca)).set 1 (.slice Av c.Nf.length e3)).set 2 (.int .i64 c.main);have o:=(((aa.refl (fun b=>b≠w.heap.size+1) wr).setCell (p:=⟨w.heap.size+1,0,none⟩) (.inl fun h=>h rfl) (.slice CA c.Nd.length ca)).setCell (p:=⟨w.heap.size+1,1,none⟩) (.inl fun h=>h rfl) (.slice Av c.Nf.length e3)).setCell (p:=⟨w.heap.size+1,2,none⟩) (.inl fun h=>h rfl) (.int .i64 c.main);simp only[ga] at l5;obtain⟨c0,c1,c2⟩:=l5.c3;have b4:mL (fun q=>W2.heap.size≤q∧q<wr.heap.size) wr (.slice Av c.Nf.length e3) c.Nf:=C.read gI (by omega);have b7:=bT.Good.keep bu (I.mono fun b (hb:W1.heap.size≤b∧b<W2.heap.size)=>by show b≠_;omega) H2.2.2.1;have HF:=J4 o b4 b7 h2;clear o b4 b7 h2 l5 hz C I c4;go_wp2_with fail;generalize ((wr.setCell _ _).setCell _ _).setCell _ _=WF at*;have u2:=HF.1.size;refine bodyPost_ret (v:=.agg #[.slice CA c.Nd.length ca,.slice Av c.Nf.length e3,.int .i64 c.main]) (by simp[results,Tryz.f7,go_sem,c0,c1,c2]) rfl ⟨_,rfl,am (HF.2.2.2.all.trans (HF.1.mono fun b (hb:b<w.heap.size)=>by show b≠_;omega)),_,_,rfl,?_,?_,HS.2.2.1⟩;·exact bT.Good.wide bu (fun b (hb:W1.heap.size≤b∧b<W2.heap.size)=>show w.heap.size≤b∧b<WF.heap.size by omega) (bT.Good.keep bu (HF.1.mono fun b (hb:W1.heap.size≤b∧b<W2.heap.size)=>by show b≠_;omega) HF.2.2.1)
 exact bT.Good.wide bV (fun b (hb:W2.heap.size≤b∧b<wr.heap.size)=>show w.heap.size≤b∧b<WF.heap.size by omega) (bT.Good.keep bV (HF.1.mono fun b (hb:W2.heap.size≤b∧b<wr.heap.size)=>by show b≠_;omega) HF.2.1)
theorem si (z:ByteArray):z.toList=z.data.toList:=by
 have:∀(i:Nat) (r:List UInt8),i≤z.size→ByteArray.toList.loop z i r=r.reverse++z.data.toList.drop i:=by(
 intro i;induction C:z.size-i generalizing i with
 |zero=>
  intro r hi;rw[ByteArray.toList.loop];have e:¬i<z.size:=by omega
  rw[ae e,List.drop_of_length_le (by simp only[Array.length_toList];show z.size≤i;omega)];simp
 |succ n o=>
  intro r hi;have j:i<z.size:=by omega
  have l:i<z.data.toList.length:=by simpa using j
  rw[ByteArray.toList.loop,ap j,o (i+1) (by omega) _ (by omega),List.drop_eq_getElem_cons l];simp[ByteArray.get!,j])
 unfold ByteArray.toList;rw[this 0 [] (by omega)];simp
theorem qq {l:List UInt8}{i:Nat}{b:UInt8}(h:l[i]? =some b)(j:b.toNat<128):Utf8.decode ⟨l.toArray⟩ i=(b.toNat,1):=by
 have hi:=(lS.1 h).1;have e:(ByteArray.mk l.toArray).get! (i+0)=b:=by have o:=(lS.1 h).2;simp[ByteArray.get!,hi,o]
 unfold Utf8.decode;simp only[e,j,if_true]
theorem kc (l:List UInt8):(ByteArray.mk l.toArray).size=l.length:=by simp[ByteArray.size]
theorem zq {l:List UInt8}(I:0<l.length)(o:l.length≤24)(C:∀i b,l[i]? =some b→b.toNat<128∧(ey b.toNat||(i !=0&&fY b.toNat))=true):
 ∀(k f i:Nat),l.length-i=k→i≤l.length→k<f→fH ⟨l.toArray⟩ f i i=true
 |0,f+1,i,J,hi,R=>by rw[jQ (by rw[kc];omega)];exact bL (by omega)
 |k+1,f+1,i,J,hi,R=>by(
 have j:i<l.length:=by omega
 obtain⟨Y,Z⟩:=C i l[i] (lG j);rw[gK (by rw[kc];exact j),qq (lG j) Y];rw[gE,gE];exact⟨⟨Z,bL (by omega)⟩,zq I o C k f (i+1) (by omega) (by omega) (by omega)⟩)
theorem yM {l:List UInt8}(o:0<l.length)(j:l.length≤24)(C:∀i b,l[i]? =some b→b.toNat<128∧(ey b.toNat||(i !=0&&fY b.toNat))=true):dW ⟨l.toArray⟩=true:=by unfold dW;exact zq o j C l.length _ 0 (by omega) (by omega) (by rw[kc];omega)
theorem JW:(mu.all fun l=>match l with|_::b::_=>decide (97≤b.toNat)|_=>false)=true:=by decide
theorem JV {c d:UInt8}{r:List UInt8}(o:d.toNat<97):jv ⟨(c::d::r).toArray⟩=false:=by unfold jv;rw[List.any_eq_false];intro l j;rw[si];have h:=List.all_eq_true.1 JW l j;rw[cy];rintro e;rw[←e] at h;have:=of_decide_eq_true h;omega
theorem Bo (n:Int):∃d r,iK n=d::r∧d.toNat<97:=by
 unfold iK;by_cases h:n<0
 ·rw[ap h]
  exact⟨45,_,rfl,by decide⟩
 rw[ae h,mF];have j:=sw n.natAbs;cases l:kK n.natAbs with
 |nil=>rw[l] at j;simp at j
 |cons d r=>have:=nd n.natAbs d (by rw[l];exact List.mem_cons_self ..);exact⟨d,r,rfl,by omega⟩
theorem names:kP:=by
 constructor;·(
 intro c n R hn;have Y:97≤c.toNat∧c.toNat≤122:=by rcases R with rfl|rfl|rfl|rfl<;>decide
 have o:ey (c.toNat:Int)=true:=by unfold ey od;simp only[Bool.or_eq_true,gE,iH];exact .inl (.inl (.inl (.inl ⟨by omega,by omega⟩)))
 have hw:jv (aL c n)=false:=by obtain⟨d,r,e,C⟩:=Bo n;unfold aL tr;rw[e];exact JV C
 unfold aB;rw[hw,Bool.not_false,Bool.and_true];by_cases h:0≤n;·(
 rw[bL h];have I:iK n=kK n.natAbs:=by unfold iK;rw[ae (by omega)];rfl
 have J:=sw n.natAbs;unfold aL tr;rw[I];refine yM (by simp) (by simp;omega) fun i b j=>?_;rcases i with _|i
 ·cases j
  rw[o];exact⟨by omega,rfl⟩
 have:=nd n.natAbs b (mG (by simpa using j));refine⟨by omega,?_⟩;have C:fY (b.toNat:Int)=true:=by unfold fY od;rw[gE];exact⟨bL (by omega),bL (by omega)⟩
 rw[C];simp)
 rw[cI h];have I:iK n=45::kK n.natAbs:=by unfold iK;rw[ap (by omega)];rfl
 unfold aL tr;rw[I];unfold dW;rw[gK (by rw[kc];simp),qq (b:=c) (i:=0) rfl (by omega),kc];rw[show(c::45::kK n.natAbs).length=(kK n.natAbs).length+1+1 by simp,gK (by rw[kc];simp),show Utf8.decode ⟨(c::45::kK n.natAbs).toArray⟩ (0+(c.toNat,1).2)=((45:UInt8).toNat,1) from qq (l:=c::45::kK n.natAbs) (i:=1) (b:=45) rfl (by decide)];have Z:ey ((45:UInt8).toNat:Int)=false:=by decide
 have e2:fY ((45:UInt8).toNat:Int)=false:=by decide
 simp only[Z,e2,Bool.and_false,Bool.or_false,Bool.false_and])
 ·unfold aB
  have J:dW fO=true:=yM (l:=[109,97,105,110]) (by decide) (by decide) fun i b j=>by(
 rcases i with _|_|_|_|i;·cases j;decide
 ·cases j;decide
 ·cases j;decide
 ·cases j;decide
 simp at j)
  have h2:jv fO=false:=by unfold jv;rw[si];decide
  rw[J,h2];rfl
 unfold aB;have:dW gR=false:=by unfold dW;rw[jQ (by simp[gR,ByteArray.size])];rfl
 rw[this];rfl
end Go.Proofs.YtceloincoomjeaaGreatDoor
