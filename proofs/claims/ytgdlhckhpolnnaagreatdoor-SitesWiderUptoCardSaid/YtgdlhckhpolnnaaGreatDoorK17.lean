/- Part 18 of the proof (its last part says what is proved). No condition. -/
import Derived.Test.YtgdlhckhpolnnaaGreatDoorK16
namespace Go.Proofs.YtgdlhckhpolnnaaGreatDoor
set_option maxRecDepth 100000
set_option maxHeartbeats 8000000
open Go.RowKit Go.Proofs.Tryz
def lw (l:List eS):Nat:=(l.map fun b=>b.code.length).sum
theorem rp {l:List eS}{k:Nat}{b:eS}(h:l[k]? =some b):lw (l.take (k+1))=lw (l.take k)+b.code.length:=by unfold lw;rw[cU,h];simp
def vX (b:eS):Prop:=aB b.name=true∧∀x∈b.code,fj x
noncomputable def ox (f:cD):Nat:=if pB (fT f)=true then gl f else 0
theorem pG {f:cD}(h:pB (fT f)=false):ox f=0:=by unfold ox;rw[h];rfl
theorem vh {f:cD}(h:pB (fT f)=true):ox f=lw (f.Ng.take f.Ng.length):=by unfold ox;rw[ap h];unfold gl lw;rw[dZ]
def Cr (f:cD):Prop:=¬(aB f.name=true∧cC f.params∧f.params.length≤6∧1≤f.Ng.length∧f.Ng.length≤64)
theorem FK {f:cD}:fT f↔¬Cr f∧∀(i:Nat) b,f.Ng[i]? =some b→vX b:=by
 unfold Cr;rw[Classical.not_not];constructor
 ·rintro⟨h1,j,o,C,I,J⟩
  exact⟨⟨h1,j,o,C,I⟩,fun i b R=>J b (mG R)⟩
 rintro⟨⟨h1,j,o,C,I⟩,J⟩;exact⟨h1,j,o,C,I,fun b R=>by obtain⟨i,hi⟩:=cY.1 R;exact J i b hi⟩
theorem AP (S:Nat→Prop)(p v:Value)(f:cD)(w:World)(h1:gB S w p f.params)(h2:mJ S w v f.Ng)(hl:gz w):
 Calls prog 89 #[.agg #[.string f.name,p,v,.int .i64 f.Nj]] w fun e w'=>e=.returned (.tuple #[.int .i64 (ox f:Int),.bool (pB (fT f))])∧aa All w w':=by
 have hP:=fun wn (hk:aa All w wn)=>nw S p f.params wn (ax.keep hk.all h1);have hB:=fun wn (hk:aa All w wn)=>eH.keep (S:=S) hk.all h2;have hL:=fun wn (hk:aa All w wn)=>hl.keep hk;obtain⟨A1,c1,rfl,_⟩:=h1;obtain⟨A2,c2,rfl,m1,m2,m3,_⟩:=h2;unfold maxLen at m2;have c9:aa All w (w.alloc (.cells #[.string f.name,.slice A1 f.params.length c1,.slice A2 f.Ng.length c2,.int .i64 f.Nj] 110)):=(aa.refl All w).alloc _;have d7:∀wn,aa All (w.alloc (.cells #[.string f.name,.slice A1 f.params.length c1,.slice A2 f.Ng.length c2,.int .i64 f.Nj] 110)) wn→∀i,wn.cell? ⟨w.heap.size,i,none⟩=(#[.string f.name,.slice A1 f.params.length c1,.slice A2 f.Ng.length c2,.int .i64 f.Nj]:Array Value)[i]?:=fun wn h i=>sh h i;have HC:=J5 hP hB hL c9 d7;clear hP hB hL c9 d7 hl;obtain⟨W1,b9⟩:=eQ (w.alloc (.cells #[.string f.name,.slice A1 f.params.length c1,.slice A2 f.Ng.length c2,.int .i64 f.Nj] 110));rw[←b9] at HC;have HW:=oH b9;clear b9;go_enter func89,ntmps89;go_upto_region 1 with fail;rw[←HW.out];go_cut [36] (fun e3 wx=>e3=.bool (pB (Cr f))∧aa All W1 wx)
 case first=>(
 have g0:=HC.2.2.2.2 W1 kR 0;simp only[gc] at g0;have I:=fun wn=>gT f.name wn;have hE:Cr f↔¬(aB f.name=true∧cC f.params∧f.params.length≤6∧1≤f.Ng.length∧f.Ng.length≤64):=Iff.rfl;by_cases d1:aB f.name=true;·(
 rw[d1] at I;have a1:=HC.1;by_cases d2:cC f.params;·(
 rw[av d2] at a1;by_cases d3:f.params.length≤6;·(
 have t3:decide ((6:Int)<(f.params.length:Int))=false:=by simp;omega
 by_cases d4:1≤f.Ng.length;·(
 have t4:decide ((f.Ng.length:Int)<1)=false:=by simp;omega
 by_cases d5:f.Ng.length≤64
 ·have t5:decide ((64:Int)<(f.Ng.length:Int))=false:=by simp;omega
  have HR:=oH (au (P:=Cr f) (fun h=>hE.1 h ⟨d1,d2,d3,d4,d5⟩));have HN:=J2 I a1;clear I a1 d1 d2 hE;go_wp2_with fail;refine(HN.1 _).mono ?_;rintro e w1 ⟨rfl,C⟩;have q:=HC.2.2.2.2 w1 C;have q1:=q 1;have H1:=oH C;simp only[gc] at q1;clear C q;go_wp2_with fail;refine(HN.2 _ (HC.2.2.2.1.trans H1.out)).mono ?_;rintro e w2 ⟨rfl,J⟩;have q:=HC.2.2.2.2 w2 (H1.out.trans J);have r1:=q 1;have r2:=q 2;have H2:=oH (H1.out.trans J);simp only[gc] at r1 r2;clear J q;go_wp2_with fail;go_meet;exact⟨by rw[HR.out],H2.out⟩
 have t5:decide ((64:Int)<(f.Ng.length:Int))=true:=by simp;omega
 have HR:=oH (av (hE.2 fun h=>d5 h.2.2.2.2));have HN:=J2 I a1;clear I a1 d1 d2 hE;go_wp2_with fail;refine(HN.1 _).mono ?_;rintro e w1 ⟨rfl,C⟩;have q:=HC.2.2.2.2 w1 C;have q1:=q 1;have H1:=oH C;simp only[gc] at q1;clear C q;go_wp2_with fail;refine(HN.2 _ (HC.2.2.2.1.trans H1.out)).mono ?_;rintro e w2 ⟨rfl,J⟩;have q:=HC.2.2.2.2 w2 (H1.out.trans J);have r1:=q 1;have r2:=q 2;have H2:=oH (H1.out.trans J);simp only[gc] at r1 r2;clear J q;go_wp2_with fail;go_meet;exact⟨by rw[HR.out],H2.out⟩)
 have t4:decide ((f.Ng.length:Int)<1)=true:=by simp;omega
 have HR:=oH (av (hE.2 fun h=>d4 h.2.2.2.1));have HN:=J2 I a1;clear I a1 d1 d2 hE;go_wp2_with fail;refine(HN.1 _).mono ?_;rintro e w1 ⟨rfl,C⟩;have q:=HC.2.2.2.2 w1 C;have q1:=q 1;have H1:=oH C;simp only[gc] at q1;clear C q;go_wp2_with fail;refine(HN.2 _ (HC.2.2.2.1.trans H1.out)).mono ?_;rintro e w2 ⟨rfl,J⟩;have q:=HC.2.2.2.2 w2 (H1.out.trans J);have r1:=q 1;have r2:=q 2;have H2:=oH (H1.out.trans J);simp only[gc] at r1 r2;clear J q;go_wp2_with fail;go_meet;exact⟨by rw[HR.out],H2.out⟩)
 have t3:decide ((6:Int)<(f.params.length:Int))=true:=by simp;omega
 have HR:=oH (av (hE.2 fun h=>d3 h.2.2.1));have HN:=J2 I a1;clear I a1 d1 d2 hE;go_wp2_with fail;refine(HN.1 _).mono ?_;rintro e w1 ⟨rfl,C⟩;have q:=HC.2.2.2.2 w1 C;have q1:=q 1;have H1:=oH C;simp only[gc] at q1;clear C q;go_wp2_with fail;refine(HN.2 _ (HC.2.2.2.1.trans H1.out)).mono ?_;rintro e w2 ⟨rfl,J⟩;have q:=HC.2.2.2.2 w2 (H1.out.trans J);have r1:=q 1;have H2:=oH (H1.out.trans J);simp only[gc] at r1;clear J q;go_wp2_with fail;go_meet;exact⟨by rw[HR.out],H2.out⟩)
 rw[au d2] at a1;have HR:=oH (av (hE.2 fun h=>d2 h.2.1));have HN:=J2 I a1;clear I a1 d1 d2 hE;go_wp2_with fail;refine(HN.1 _).mono ?_;rintro e w1 ⟨rfl,C⟩;have q:=HC.2.2.2.2 w1 C;have q1:=q 1;have H1:=oH C;simp only[gc] at q1;clear C q;go_wp2_with fail;refine(HN.2 _ (HC.2.2.2.1.trans H1.out)).mono ?_;rintro e w2 ⟨rfl,J⟩;have H2:=oH (H1.out.trans J);clear J;go_wp2_with fail;go_meet;exact⟨by rw[HR.out],H2.out⟩)
 have a6:aB f.name=false:=by simpa using d1
 rw[a6] at I;have HR:=oH (av (hE.2 fun h=>d1 h.1));have HN:=oH I;clear I d1 a6 hE;go_wp2_with fail;refine(HN.out _).mono ?_;rintro e w1 ⟨rfl,C⟩;have H1:=oH C;clear C;go_wp2_with fail;go_meet;exact⟨by rw[HR.out],H1.out⟩)
 obtain⟨rfl,C⟩:=hcut;have hE:=FK (f:=f);by_cases eb:Cr f;·rw[av eb];have HR:=oH (au (P:=fT f) fun h=>(hE.1 h).1 eb);have H1:=oH (HC.2.2.2.1.trans C);clear eb hE C;go_wp2_with fail;go_ret2;exact⟨by rw[HR.out,pG HR.out];rfl,H1.out⟩
 rw[au eb];have HE:=oH (hE.trans ⟨fun h=>h.2,fun h=>⟨eb,h⟩⟩);have h0:f.Ng.length≤64:=by have:=Classical.not_not.1 eb;exact this.2.2.2.2
 have q2:=HC.2.2.2.2 wc C 2;simp only[gc] at q2;have H1:=oH C;clear eb hE C;go_wp2_with fail;clear q2;go_loopg [4,40] f.Ng.length (fun g s4 e4 wr=>∃k:Nat,k≤f.Ng.length∧g=f.Ng.length-k∧e4=.int .i64 k∧s4=.int .i64 (lw (f.Ng.take k):Nat)∧lw (f.Ng.take k)≤k*1200000000000∧aa All W1 wr∧∀(i:Nat) b,i<k→f.Ng[i]? =some b→vX b);·exact⟨0,by omega,by omega,rfl,rfl,by simp[lw],H1.out,fun i b hi=>by omega⟩
 obtain⟨k,hk,rfl,rfl,rfl,e9,c0,b6⟩:=hrel;obtain⟨wo,rfl⟩:=eQ wr;have HA:=J3 c0 b6 (HC.2.2.2.1.trans c0);clear c0 b6;by_cases e5:k<f.Ng.length;·(
 obtain⟨b,hb⟩:=eG e5;obtain⟨bb,o,cs,rfl,_,_,b2,vb,rfl,d8,_,_⟩:=aZ (HC.2.1 wo HA.2.2) hb;have z0:=b2 0 _ rfl;rw[dj] at z0;have z1:=b2 1 _ rfl;have z2:=b2 2 _ rfl;have d9:=rp hb;have hIn:=fun wn (hk:aa All wo wn)=>it.keep (S:=S) hk.all d8;obtain⟨A3,c3,rfl,n1,n2,n3,_⟩:=d8;unfold maxLen at n2;have I:=fun wn=>gT b.name wn;have HB:=J3 hb d9 hIn;clear b2 hb d9 hIn;have c4:vX b↔aB b.name=true∧∀x∈b.code,fj x:=Iff.rfl;have b7:∀wn,aa All (wo.alloc (.cells #[.string b.name,.slice A3 b.code.length c3,.int .i64 b.Nj] 135)) wn→∀i,wn.cell? ⟨wo.heap.size,i,none⟩=(#[.string b.name,.slice A3 b.code.length c3,.int .i64 b.Nj]:Array Value)[i]?:=fun wn h i=>sh h i;have HX:=oH b7;have e0:aa All wo (wo.alloc (.cells #[.string b.name,.slice A3 b.code.length c3,.int .i64 b.Nj] 135)):=kR.alloc _;have b3:=oH e0;clear b7 e0;by_cases d1:aB b.name=true;·(
 rw[d1] at I;have HO:=oH (c4.trans ⟨fun h=>h.2,fun h=>⟨d1,h⟩⟩);have HN:=oH I;clear I d1 c4;go_wp2_with fail;refine(HN.out _).mono ?_;rintro e w1 ⟨rfl,C⟩;have y1:=HX.out w1 C 1;simp only[gc] at y1;have H2:=oH C;clear C z0 z1 z2;go_wp2_with fail;clear y1;go_loopg [51] b.code.length (fun g e6 wr=>∃j:Nat,j≤b.code.length∧g=b.code.length-j∧e6=.int .i64 j∧aa All (wo.alloc (.cells #[.string b.name,.slice A3 b.code.length c3,.int .i64 b.Nj] 135)) wr∧∀(i:Nat) x,i<j→b.code[i]? =some x→fj x);·exact⟨0,by omega,by omega,rfl,H2.out,fun i x hi=>by omega⟩
 obtain⟨j,hj,rfl,rfl,c5,b8⟩:=hrel;have HJ:=J3 c5 b8 (b3.out.trans c5);clear c5 b8;by_cases e7:j<b.code.length;·(
 obtain⟨x,hx⟩:=eG e7;obtain⟨b5,o5,h3,rfl,_,_,R,va,vf,rfl,e1,e2,e8⟩:=aZ (HB.2.2 wr HJ.2.2) hx;have z0:=R 0 _ rfl;rw[dj] at z0;have z1:=R 1 _ rfl;have z2:=R 2 _ rfl;have z3:=R 3 _ rfl;have z4:=R 4 _ rfl;have z5:=R 5 _ rfl;have z6:=R 6 _ rfl;have z7:=R 7 _ rfl;have z8:=R 8 _ rfl;have Y:=fun wn (hk:aa All wr wn)=>DT S va vf x wn (ax.keep hk.all e1) (ax.keep hk.all e2) e8 (HC.2.2.1 wn ((HA.2.2.trans HJ.2.2).trans hk));have b4:∀O,aa All wr (wr.alloc O):=fun O=>kR.alloc _;obtain⟨a7,c7,rfl,_⟩:=e1;obtain⟨a8,c8,rfl,_⟩:=e2;by_cases d2:fj x
 ·rw[av d2] at Y;have HR:=J4 Y d2 hx b4;clear Y d2 hx R b4;go_wp2_with fail;refine(HR.1 _ (HR.2.2.2 _)).mono ?_;rintro e w3 ⟨rfl,b0⟩;have H3:=oH ((HJ.1.alloc _).trans b0);clear b0 z0 z1 z2 z3 z4 z5 z6 z7 z8;go_wp2_with fail;go_roundg (b.code.length-(j+1))
  ·refine⟨j+1,by omega,rfl,by go_num,H3.out,fun i y hi hy=>?_⟩
   by_cases e:i=j;·subst e;rw[HR.2.2.1] at hy;cases hy;exact HR.2.1
   exact HJ.2.1 i y (by omega) hy
  omega
 rw[au d2] at Y;have b1:=oH (au (P:=fT f) fun h=>d2 (HO.1 (HE.1 h k b HB.1) x (mG hx)));have HR:=J2 Y b4;clear Y d2 hx R b4;go_wp2_with fail;refine(HR.1 _ (HR.2 _)).mono ?_;rintro e w3 ⟨rfl,b0⟩;have H3:=oH ((HJ.1.alloc _).trans b0);clear b0 z0 z1 z2 z3 z4 z5 z6 z7 z8;go_wp2_with fail;go_ret2;exact⟨by rw[b1.out,pG b1.out];rfl,(HA.2.2.trans b3.out).trans H3.out⟩)
 obtain rfl:j=b.code.length:=by omega
 have y1:=HX.out wr HJ.1 1;simp only[gc] at y1;go_wp2_with fail;go_roundg (f.Ng.length-(k+1))
 ·refine⟨k+1,by omega,rfl,by go_num,?_,by rw[HB.2.1];omega,(HA.1.trans b3.out).trans HJ.1,fun i b' hi c6=>?_⟩;·rw[HB.2.1];go_num
  by_cases e:i=k;·subst e;rw[HB.1] at c6;cases c6;exact HO.2 fun x hx=>by obtain⟨i,hi⟩:=cY.1 hx;exact HJ.2.1 i x (lS.1 hi).1 hi
  exact HA.2.1 i b' (by omega) c6
 omega)
 have a6:aB b.name=false:=by simpa using d1
 rw[a6] at I;have b1:=oH (au (P:=fT f) fun h=>d1 (HE.1 h k b HB.1).1);have HN:=oH I;clear I d1 a6 c4;go_wp2_with fail;refine(HN.out _).mono ?_;rintro e w1 ⟨rfl,C⟩;have H2:=oH C;clear C z0 z1 z2;go_wp2_with fail;go_ret2;exact⟨by rw[b1.out,pG b1.out];rfl,(HA.2.2.trans b3.out).trans H2.out⟩)
 obtain rfl:k=f.Ng.length:=by omega
 have HY:=oH (av (P:=fT f) (HE.2 fun i b hb=>HA.2.1 i b (lS.1 hb).1 hb));go_wp2_with fail;go_ret2;exact⟨by rw[HY.out,vh HY.out];rfl,HA.2.2⟩
theorem CE {S:Nat→Prop}{w:World}{v:Value}{l:List eS}(h:mJ S w v l):∀k,lw (l.take k)≤k*1200000000000:=by
 intro k;induction k with
 |zero=>simp[lw]
 |succ k C=>
  cases j:l[k]? with
  |none=>rw[cU,j,Option.toList_none,List.append_nil];exact fR C (Nat.mul_le_mul_right _ (Nat.le_succ k))
  |some b=>rw[rp j];obtain⟨a,cap,rfl,_,_,_,h⟩:=h;obtain⟨_,_,cs,_,_,_,_,vb,rfl,o,_⟩:=h k b j;obtain⟨_,_,_,_,_,I,_⟩:=o;omega
theorem FJ {S:Nat→Prop}{w:World}{v:Value}{f:cD}(h:mJ S w v f.Ng):ox f≤76800000000000:=by
 have o:=CE h f.Ng.length;by_cases j:fT f
 ·rw[vh (av j)]
  have:=j.2.2.2.2.1;omega
 rw[pG (au j)];omega
def jI (l:List cD):Nat:=(l.map gl).sum
theorem Bt {l:List cD}{k:Nat}{b:cD}(h:l[k]? =some b):jI (l.take (k+1))=jI (l.take k)+gl b:=by unfold jI;rw[cU,h];simp
theorem Hq (l:List cD)(k:Nat):jI (l.take k)≤jI l:=by
 have:jI l=jI (l.take k)+jI (l.drop k):=by
  conv=>lhs;rw[←List.take_append_drop k l]
  unfold jI;rw[ic,List.sum_append]
 omega
theorem yU (S:Nat→Prop)(va vf:Value)(q:dN)(w:World)(h1:Kx S w va q.Nd)(h2:BC S w vf q.Nf)(hl:gz w):
 Calls prog 46 #[.agg #[va,vf]] w fun e w'=>e=.returned (.bool (pB (fV q)))∧aa All w w':=by
 have hA:=fun wn (hk:aa All w wn)=>lJ.keep (S:=S) hk.all h1;have hB:=fun wn (hk:aa All w wn)=>iX.keep (S:=S) hk.all h2;have hL:=fun wn (hk:aa All w wn)=>hl.keep hk;obtain⟨A1,c1,rfl,l1,l2,l3,_⟩:=h1;obtain⟨A2,c2,rfl,m1,m2,m3,_⟩:=h2;unfold maxLen at m2 l2;have b8:aa All w (w.alloc (.cells #[.slice A1 q.Nd.length c1,.slice A2 q.Nf.length c2] 69)):=(aa.refl All w).alloc _;have b9:∀wn,aa All (w.alloc (.cells #[.slice A1 q.Nd.length c1,.slice A2 q.Nf.length c2] 69)) wn→∀i,wn.cell? ⟨w.heap.size,i,none⟩=(#[.slice A1 q.Nd.length c1,.slice A2 q.Nf.length c2]:Array Value)[i]?:=fun wn h i=>sh h i;have HC:=J5 hA hB hL b8 b9;clear hA hB hL b8 b9 hl;go_enter func46,ntmps46;by_cases d1:q.Nd.length≤16;·(
 have t1:decide ((16:Int)<(q.Nd.length:Int))=false:=by simp;omega
 by_cases d2:q.Nf.length≤64;·(
 have t2:decide ((64:Int)<(q.Nf.length:Int))=false:=by simp;omega
 go_wp2_with fail;go_loopg [23] q.Nd.length (fun g d7 wr=>∃k:Nat,k≤q.Nd.length∧g=q.Nd.length-k∧d7=.int .i64 k∧aa All (w.alloc (.cells #[.slice A1 q.Nd.length c1,.slice A2 q.Nf.length c2] 69)) wr∧∀(i:Nat) a,i<k→q.Nd[i]? =some a→xA a);·exact⟨0,by omega,by omega,rfl,kR,fun i a hi=>by omega⟩
 obtain⟨k,hk,rfl,rfl,a1,R⟩:=hrel;have HA:=J3 a1 R (HC.2.2.2.1.trans a1);clear a1 R;by_cases b5:k<q.Nd.length;·(
 obtain⟨a,ha⟩:=eG b5;obtain⟨bb,o,cs,rfl,_,_,Y,rfl,hz,_⟩:=aZ (HC.1 wr HA.2.2) ha;have z0:=Y 0 _ rfl;rw[dj] at z0;have z1:=Y 1 _ rfl;have z2:=Y 2 _ rfl;have z3:=Y 3 _ rfl;have hE:xA a↔aB a.name=true∧aB a.level=true∧1≤a.size∧a.size≤256:=Iff.rfl;have a6:¬xA a→pB (fV q)=false:=fun h=>au fun h'=>h (h'.2.2.1 a (mG ha));have b0:=fun wn=>gT a.name wn;have b1:=fun wn=>gT a.level wn;have b3:∀wn,aa All (wr.alloc (.cells #[.string a.name,.int .i64 a.size,.string a.level,.int .i64 a.Nj] 106)) wn→∀i,wn.cell? ⟨wr.heap.size,i,none⟩=(#[.string a.name,.int .i64 a.size,.string a.level,.int .i64 a.Nj]:Array Value)[i]?:=fun wn h i=>sh h i;have c0:aa All wr (wr.alloc (.cells #[.string a.name,.int .i64 a.size,.string a.level,.int .i64 a.Nj] 106)):=kR.alloc _;have HX:=J3 b3 c0 ha;clear Y b3 c0 ha;by_cases e1:aB a.name=true;·(
 rw[e1] at b0;by_cases e2:aB a.level=true;·(
 rw[e2] at b1;have HN:=J2 b0 b1;clear b0 b1;by_cases e3:1≤a.size;·(
 have u3:decide (a.size<1)=false:=by simp;omega
 by_cases e4:a.size≤256;·(
 have u4:decide (256<a.size)=false:=by simp;omega
 have HY:=oH (hE.2 ⟨e1,e2,e3,e4⟩);clear e1 e2 hE a6;go_wp2_with fail;refine(HN.1 _).mono ?_;rintro e w1 ⟨rfl,j⟩;have y2:=HX.1 w1 j 2;simp only[gc] at y2;have H1:=oH j;clear j z0 z1 z2 z3;go_wp2_with fail;refine(HN.2 _).mono ?_;rintro e w2 ⟨rfl,J⟩;have y1:=HX.1 w2 (H1.out.trans J) 1;simp only[gc] at y1;have H2:=oH (H1.out.trans J);clear J y2;go_wp2_with fail;go_roundg (q.Nd.length-(k+1))
 ·refine⟨k+1,by omega,rfl,by go_num,(HA.1.trans HX.2.1).trans H2.out,fun i b hi hb=>?_⟩
  by_cases e:i=k;·subst e;rw[HX.2.2] at hb;cases hb;exact HY.out
  exact HA.2.1 i b (by omega) hb
 omega)
 have u4:decide (256<a.size)=true:=by simp;omega
 have I:=oH (a6 fun h=>e4 (hE.1 h).2.2.2);clear e1 e2 hE a6;go_wp2_with fail;refine(HN.1 _).mono ?_;rintro e w1 ⟨rfl,j⟩;have y2:=HX.1 w1 j 2;simp only[gc] at y2;have H1:=oH j;clear j z0 z1 z2 z3;go_wp2_with fail;refine(HN.2 _).mono ?_;rintro e w2 ⟨rfl,J⟩;have y1:=HX.1 w2 (H1.out.trans J) 1;simp only[gc] at y1;have H2:=oH (H1.out.trans J);clear J y2;go_wp2_with fail;go_ret;exact⟨by rw[I.out];rfl,(HA.2.2.trans HX.2.1).trans H2.out⟩)
 have u3:decide (a.size<1)=true:=by simp;omega
 have I:=oH (a6 fun h=>e3 (hE.1 h).2.2.1);clear e1 e2 hE a6;go_wp2_with fail;refine(HN.1 _).mono ?_;rintro e w1 ⟨rfl,j⟩;have y2:=HX.1 w1 j 2;simp only[gc] at y2;have H1:=oH j;clear j z0 z1 z2 z3;go_wp2_with fail;refine(HN.2 _).mono ?_;rintro e w2 ⟨rfl,J⟩;have y1:=HX.1 w2 (H1.out.trans J) 1;simp only[gc] at y1;have H2:=oH (H1.out.trans J);clear J y2;go_wp2_with fail;go_ret;exact⟨by rw[I.out];rfl,(HA.2.2.trans HX.2.1).trans H2.out⟩)
 have c4:aB a.level=false:=by simpa using e2
 rw[c4] at b1;have HN:=J2 b0 b1;have I:=oH (a6 fun h=>e2 (hE.1 h).2.1);clear b0 b1 e1 e2 c4 hE a6;go_wp2_with fail;refine(HN.1 _).mono ?_;rintro e w1 ⟨rfl,j⟩;have y2:=HX.1 w1 j 2;simp only[gc] at y2;have H1:=oH j;clear j z0 z1 z2 z3;go_wp2_with fail;refine(HN.2 _).mono ?_;rintro e w2 ⟨rfl,J⟩;have H2:=oH (H1.out.trans J);clear J y2;go_wp2_with fail;go_ret;exact⟨by rw[I.out];rfl,(HA.2.2.trans HX.2.1).trans H2.out⟩)
 have c5:aB a.name=false:=by simpa using e1
 rw[c5] at b0;have HN:=oH b0;have I:=oH (a6 fun h=>e1 (hE.1 h).1);clear b0 b1 e1 c5 hE a6;go_wp2_with fail;refine(HN.out _).mono ?_;rintro e w1 ⟨rfl,j⟩;have H1:=oH j;clear j z0 z1 z2 z3;go_wp2_with fail;go_ret;exact⟨by rw[I.out];rfl,(HA.2.2.trans HX.2.1).trans H1.out⟩)
 obtain rfl:k=q.Nd.length:=by omega
 have c6:∀a∈q.Nd,xA a:=fun a ha=>by obtain⟨i,hi⟩:=cY.1 ha;exact HA.2.1 i a (lS.1 hi).1 hi
 have HP:=oH (show fV q↔(∀f∈q.Nf,fT f)∧jI q.Nf≤4096 from⟨fun h=>h.2.2.2,fun h=>⟨d1,d2,c6,h.1,h.2⟩⟩);have y1:=HC.2.2.2.2 wr HA.1 1;simp only[gc] at y1;obtain⟨wo,rfl⟩:=eQ wr;clear c6;go_wp2_with fail;clear y1;go_loopg [5,51] q.Nf.length (fun g s5 d8 wr=>∃k:Nat,k≤q.Nf.length∧g=q.Nf.length-k∧d8=.int .i64 k∧s5=.int .i64 (jI (q.Nf.take k):Nat)∧jI (q.Nf.take k)≤4096∧aa All w wr∧∀(i:Nat) f,i<k→q.Nf[i]? =some f→fT f);·exact⟨0,by omega,by omega,rfl,rfl,by simp[jI],HA.2.2,fun i f hi=>by omega⟩
 obtain⟨k,hk,rfl,rfl,rfl,b4,a1,R⟩:=hrel;have HF:=J2 a1 R;by_cases b5:k<q.Nf.length;·(
 obtain⟨f,hf⟩:=eG b5;obtain⟨bb,o,cs,rfl,_,_,Y,vp,vb,rfl,c9,b6,_⟩:=aZ (HC.2.1 wr a1) hf;have z0:=Y 0 _ rfl;rw[dj] at z0;have z1:=Y 1 _ rfl;have z2:=Y 2 _ rfl;have z3:=Y 3 _ rfl;have d9:=FJ b6;have b2:=Bt hf;have hle:=Hq q.Nf (k+1);have C:=AP S vp vb f (wr.alloc (.cells #[.string f.name,vp,vb,.int .i64 f.Nj] 110)) (ax.keep (kR.alloc _) c9) (eH.keep (kR.alloc _) b6) (HC.2.2.1 _ (a1.alloc _));obtain⟨a7,c7,rfl,_⟩:=c9;obtain⟨a8,c8,rfl,_⟩:=b6;clear a1 R Y;by_cases e1:fT f;·(
 have b7:ox f=gl f:=by unfold ox;rw[av e1];rfl
 rw[av e1] at C;by_cases e2:jI (q.Nf.take (k+1))≤4096;·(
 have u2:decide ((4096:Int)<(jI (q.Nf.take k):Int)+(ox f:Int))=false:=by simp;omega
 have HN:=J5 C hf e1 b2 b7;clear C hf e1 b2 b7;go_wp2_with fail;refine HN.1.mono ?_;rintro e w1 ⟨rfl,j⟩;have H1:=oH ((HF.1.alloc _).trans j);clear j z0 z1 z2 z3;go_wp2_with fail;go_roundg (q.Nf.length-(k+1))
 ·refine⟨k+1,by omega,rfl,by go_num,?_,e2,H1.out,fun i b hi hb=>?_⟩;·rw[HN.2.2.2.1,←HN.2.2.2.2];go_num
  by_cases e:i=k;·subst e;rw[HN.2.1] at hb;cases hb;exact HN.2.2.1
  exact HF.2 i b (by omega) hb
 omega)
 have u2:decide ((4096:Int)<(jI (q.Nf.take k):Int)+(ox f:Int))=true:=by simp;omega
 have I:=oH (au (P:=fV q) fun h=>by have:=(HP.1 h).2;omega);have HN:=oH C;clear C hf e1 b2 b7;go_wp2_with fail;refine HN.out.mono ?_;rintro e w1 ⟨rfl,j⟩;have H1:=oH ((HF.1.alloc _).trans j);clear j z0 z1 z2 z3;go_wp2_with fail;go_ret;exact⟨by rw[I.out];rfl,H1.out⟩)
 rw[au e1] at C;have I:=oH (au (P:=fV q) fun h=>e1 ((HP.1 h).1 f (mG hf)));have HN:=oH C;clear C hf e1 b2;go_wp2_with fail;refine HN.out.mono ?_;rintro e w1 ⟨rfl,j⟩;have H1:=oH ((HF.1.alloc _).trans j);clear j z0 z1 z2 z3;go_wp2_with fail;go_ret;exact⟨by rw[I.out];rfl,H1.out⟩)
 obtain rfl:k=q.Nf.length:=by omega
 rw[dZ] at b4;have HY:=oH (av (P:=fV q) (HP.2 ⟨fun f hf=>by obtain⟨i,hi⟩:=cY.1 hf;exact R i f (lS.1 hi).1 hi,b4⟩));clear a1 R;go_wp2_with fail;go_ret;exact⟨by rw[HY.out];rfl,HF.1⟩)
 have t2:decide ((64:Int)<(q.Nf.length:Int))=true:=by simp;omega
 have I:=oH (au (P:=fV q) fun h=>d2 h.2.1);go_wp2_with fail;go_ret;exact⟨by rw[I.out];rfl,HC.2.2.2.1⟩)
 have t1:decide ((16:Int)<(q.Nd.length:Int))=true:=by simp;omega
 have I:=oH (au (P:=fV q) fun h=>d1 h.1);go_wp2_with fail;go_ret;exact⟨by rw[I.out];rfl,HC.2.2.2.1⟩
def qZ (r:Int)(n:Nat):Bool:=decide (0≤r)&&decide (r<n)
theorem yq (o:Nat)(r:Int)(n:Nat)(J:n≤1000000000000000)(hr:aV r)(w:World)(C:al w o 4 #[.bool true]):
 Calls prog 233 #[.int .i64 r,.int .i64 n,.pointer (some ⟨o,0,none⟩)] w fun e w'=>(∃k:Int,e=.returned (.int .i64 k)∧(qZ r n=true→k=r))∧w'=w.setCell ⟨o,0,none⟩ (.bool (qZ r n)):=by
 have R:=C.cl 0;have f0:=C.free 0;clear C;unfold aV at hr;by_cases I:0≤r;·(
 have d0:decide (0≤r)=true:=by simpa using I
 by_cases h1:r<n
 ·have d1:decide (r<(n:Int))=true:=by simpa using h1
  have j:=oH (show qZ r n=true by unfold qZ;rw[d0,d1];rfl);go_enter func233,ntmps233;go_wp2;go_ret;exact⟨⟨_,rfl,fun _=>rfl⟩,by rw[j.out]⟩
 have d1:decide (r<(n:Int))=false:=by simpa using h1
 have j:=oH (show qZ r n=false by unfold qZ;rw[d0,d1];rfl);go_enter func233,ntmps233;go_wp2;all_goals(go_ret;exact⟨⟨_,rfl,fun h=>absurd (j.out.symm.trans h) (by decide)⟩,by rw[j.out]⟩))
 have d0:decide (0≤r)=false:=by simpa using I
 have j:=oH (show qZ r n=false by unfold qZ;rw[d0];rfl);go_enter func233,ntmps233;go_wp2;all_goals(go_ret;exact⟨⟨_,rfl,fun h=>absurd (j.out.symm.trans h) (by decide)⟩,by rw[j.out]⟩)
theorem qE (S:Nat→Prop)(v:Value)(l:List ByteArray)(bf bx j bY:Nat)(xs ys:Array Value)(r:Int)(s:ByteArray)(w:World)(hv:gB S w v l)(hS:∀b,S b→b≠j)(hr:aV r)
 (hf:al w bf 247 #[.func (.func 233) #[] #[.pointer (some ⟨j,0,none⟩)]]) (hx:al w bx 56 xs) (a1:xs[3]? =some (.int .i64 r))
 (ho:al w j 4 #[.bool true]) (hy:al w bY 188 ys) (C:∃z,ys[3]? =some (.string z)) (J:qZ r l.length=true) (hs:l[r.toNat]? =some s):
 Calls prog 234 #[v,.pointer (some ⟨bf,0,none⟩),.pointer (some ⟨bx,0,none⟩),.pointer (some ⟨j,0,none⟩),.pointer (some ⟨bY,0,none⟩)] w fun e w'=>e=.returned (.tuple #[])∧w'=(w.setCell ⟨j,0,none⟩ (.bool true)).setCell ⟨bY,3,none⟩ (.string s):=by
 obtain⟨z,C⟩:=C;have c1:=hf.cl 0;have c2:=hx.cell 3;have c3:=ho.cl 0;have c4:=hy.cell 3;have f3:=ho.free 0;have f4:=hy.free 3;rw[a1] at c2;rw[C] at c4;have I:=fun n hn=>yq j r n hn hr w ho;have a7:bY≠j:=fun e=>by subst e;have:=al.ne hy ho (by decide);exact this rfl
 have R:al (w.setCell ⟨j,0,none⟩ (.bool true)) bY 188 ys:=hy.far a7 _;have c5:=R.cell 3;have f5:=R.free 3;rw[C] at c5;obtain⟨A,cap,rfl,k1,k2,k3,k⟩:=hv;unfold maxLen at k2;obtain⟨b,o,c,rfl,a6,hc,rfl⟩:=k _ _ hs;have a8:=(lS.1 hs).1;have b0:0≤r∧r<l.length:=by unfold qZ at J;simpa using J
 obtain⟨rn,rfl⟩:∃rn:Nat,r=rn:=⟨r.toNat,by omega⟩;rw[dP] at hc a8;have Y:=I l.length (by omega);rw[J] at Y;have b1:(w.setCell ⟨j,0,none⟩ (.bool true)).cell? ⟨b,o+rn,none⟩=some (.string s):=by rw[World.cell?_of_block (pI w ⟨j,0,none⟩ (.bool true) b (hS b a6))];exact hc
 have b2:(w.setCell ⟨j,0,none⟩ (.bool true)).cell? ⟨j,0,none⟩=some (.bool true):=by have:=(ho.set 0 (.bool true)).cell 0;simpa using this
 have HF:=oH Y;clear k I Y hf hx ho hy R a1 C J hs a6 hS hr;go_enter func234,ntmps234;go_wp2_with fail;refine HF.out.mono ?_;rintro e w' ⟨⟨k,rfl,hk⟩,rfl⟩;have hk:=hk trivial;subst hk;go_wp2_with fail
 go_end0
 exact⟨rfl,rfl⟩
theorem sX (S:Nat→Prop)(v:Value)(l:List ByteArray)(Y bx o bY:Nat)(xs:Array Value)(r:Int)(w:World)(hv:gB S w v l)(hr:aV r)
 (hf:al w Y 247 #[.func (.func 233) #[] #[.pointer (some ⟨o,0,none⟩)]]) (hx:al w bx 56 xs) (I:xs[3]? =some (.int .i64 r))
 (R:al w o 4 #[.bool true]) (J:qZ r l.length=false):
 Calls prog 234 #[v,.pointer (some ⟨Y,0,none⟩),.pointer (some ⟨bx,0,none⟩),.pointer (some ⟨o,0,none⟩),.pointer (some ⟨bY,0,none⟩)] w fun e w'=>e=.returned (.tuple #[])∧w'=w.setCell ⟨o,0,none⟩ (.bool false):=by
 have c1:=hf.cl 0;have c2:=hx.cell 3;have c3:=R.cl 0;rw[I] at c2;have j:=fun n hn=>yq o r n hn hr w R;obtain⟨A,cap,rfl,k1,k2,k3,k⟩:=hv;have C:=j l.length (by omega);rw[J] at C;have a1:(w.setCell ⟨o,0,none⟩ (.bool false)).cell? ⟨o,0,none⟩=some (.bool false):=by have:=(R.set 0 (.bool false)).cell 0;simpa using this
 have HF:=oH C;clear k j C hf hx R I J hr;go_enter func234,ntmps234;go_wp2_with fail;refine HF.out.mono ?_;rintro e w' ⟨⟨k,rfl,hk⟩,rfl⟩;clear hk;go_wp2_with fail
 go_end0
 exact⟨rfl,rfl⟩
def de (l:List ByteArray):List Value:=l.map fun s=>Value.string s
theorem FV:(prog.info? 9).map (fun i=>(i.zero,i.size,i.bytes))=some (some (.string ⟨#[]⟩),1,16):=by kernel_rfl
theorem pY {S:Nat→Prop}{w:World}{base:Nat}{e:TypeId}{v:Value}{n:Nat}{l:List ByteArray}(h:w.ownsRow base e 1 v n (de l))(j:n=l.length)(o:l.length*16≤140737488355328)
 (C:∀g,v.ownBlock=some g→S g):gB S w v l:=by
 subst j;refine Sl.of_own h o C fun i x I=>⟨_,?_,rfl⟩;simp[de,I]
theorem jN (S:Nat→Prop)(v:Value)(l:List (ByteArray×Int))(w:World)(hv:kh S w v l)(hl:l.length≤6000000000000):
 Calls prog 235 #[v] w fun e w'=>∃u,e=.returned u∧aa All w w'∧gB (fun b=>w.heap.size≤b) w' u (l.map fun x=>x.1):=by
 obtain⟨iS,IS⟩:=iH FV;have a6:=hv;obtain⟨A,cap,rfl,h1,h2,h3,_⟩:=hv;unfold maxLen at h2;have HV:=oH a6;clear a6;go_enter func235,ntmps235;go_wp2_with fail;go_loopg [2,7] l.length (fun g s2 s7 wr=>∃k:Nat,k≤l.length∧g=l.length-k∧s7=.int .i64 k∧aa All w wr∧wr.ownsRow w.heap.size 9 1 s2 k (de ((l.take k).map fun x=>x.1)));·exact⟨0,by omega,by omega,rfl,kR,⟨rfl,.inl ⟨rfl,rfl⟩⟩⟩
 obtain⟨k,hk,rfl,rfl,J,I⟩:=hrel;have HK:=oH J;have hB:=J.size;by_cases a7:k<l.length;·(
 obtain⟨x,hx⟩:=eG a7;obtain⟨bb,o,cs,rfl,_,_,R,rfl,b1⟩:=aZ (aX.keep (S:=S) J.all HV.out) hx;have z0:=R 0 _ rfl;rw[dj] at z0;have z1:=R 1 _ rfl;have Y:((wr.alloc (.cells #[.string x.1,.int .i64 x.2] 226)).alloc (.cells #[.string x.1] 9)).ownsRow w.heap.size 9 1 u2 k (de ((l.take k).map fun x=>x.1)):=be I (((aa.refl All wr).alloc _).alloc _) (fun _ _=>trivial);obtain⟨C,c,rfl⟩:=aU I;have HX:=J2 hx I;clear hx I R J;go_wp2_with (
  at_builtin;refine aR _ rfl (.tmp 11) (.tmp 14) 22 rfl w.heap.size 9 iS _ 1 16 underlying22 IS.1 IS.2.1 IS.2.2.1 IS.2.2.2 rfl (by decide) _ _ _ rfl Y (some ⟨wr.heap.size+1,0,none⟩) 1 1 [.string x.1] rfl rfl ?_ ?_ (by unfold maxLen;omega) (by omega) (by simp;omega) ?_;·intro _;exact⟨_,_,rfl,fun j u hu=>by rw[cN,al.cell (ac (by simp))];simpa using hu⟩
  ·intro u hu
   rw[cx.1 hu];rfl
  intro v2 w2 a1 a8 b0)
 go_roundg (l.length-(k+1))
 ·refine⟨k+1,by omega,rfl,by go_num,((HK.out.alloc _).alloc _).grown a8 fun g hg=>.inr (aD HX.2 hg).1,?_⟩;have e:de ((l.take (k+1)).map fun x=>x.1)=de ((l.take k).map fun x=>x.1)++[.string x.1]:=by rw[cU,HX.1];simp[de]
  rw[e];exact a1
 omega)
 obtain rfl:k=l.length:=by omega
 rw[dZ] at I;have hs:=pY I (l:=l.map fun x=>x.1) (by rw[ce]) (by rw[ce];omega) (S:=fun b=>w.heap.size≤b) fun g hg=>(aD I hg).1;have HS:=oH hs;clear hs I J;go_wp2_with fail;go_ret;exact⟨_,rfl,HK.out,HS.out⟩
end Go.Proofs.YtgdlhckhpolnnaaGreatDoor
