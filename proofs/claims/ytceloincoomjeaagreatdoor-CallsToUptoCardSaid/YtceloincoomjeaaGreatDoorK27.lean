/- Part 28 of the proof of CallsTo (its last part says what is proved). No condition. -/
import Derived.Test.YtceloincoomjeaaGreatDoorK26
namespace Go.Proofs.YtceloincoomjeaaGreatDoor
set_option maxRecDepth 100000
set_option maxHeartbeats 8000000
open Go.RowKit Go.Proofs.Tryz
theorem CE {S:Nat→Prop}{w:World}{v:Value}{l:List eS}(h:mJ S w v l):∀k,lw (l.take k)≤k*1200000000000:=by
 intro k;induction k with
 |zero=>simp[lw]
 |succ k C=>
  cases j:l[k]? with
  |none=>rw[cU,j,Option.toList_none,List.append_nil];exact fR C (Nat.mul_le_mul_right _ (Nat.le_succ k))
  |some b=>rw[rp j];obtain⟨a,cap,rfl,_,_,_,h⟩:=h;obtain⟨_,_,cs,_,_,_,_,I,rfl,o,_⟩:=h k b j;obtain⟨_,_,_,_,_,J,_⟩:=o;omega
theorem FJ {S:Nat→Prop}{w:World}{v:Value}{f:cD}(h:mJ S w v f.Ng):ox f≤76800000000000:=by
 have l:=CE h f.Ng.length;by_cases j:fT f
 ·rw[vh (av j)]
  have:=j.2.2.2.2.1;omega
 rw[pG (au j)];omega
def jI (l:List cD):Nat:=(l.map gl).sum
theorem Bt {l:List cD}{k:Nat}{b:cD}(h:l[k]? =some b):jI (l.take (k+1))=jI (l.take k)+gl b:=by unfold jI;rw[cU,h];simp
theorem Hq (l:List cD)(k:Nat):jI (l.take k)≤jI l:=by
 have:jI l=jI (l.take k)+jI (l.drop k):=by
  conv=>lhs;rw[←List.take_append_drop k l]
  unfold jI;rw[ic,List.sum_append]
 omega
theorem yU (S:Nat→Prop)(va vf:Value)(q:dN)(w:World)(h1:Kx S w va q.Nd)(h2:BC S w vf q.Nf)(hl:gz w):
 Calls prog 104 #[.agg #[va,vf]] w fun e w'=>e=.returned (.bool (pB (fV q)))∧aa All w w':=by
 have hA:=fun wn (hk:aa All w wn)=>lJ.keep (S:=S) hk.all h1;have hB:=fun wn (hk:aa All w wn)=>iX.keep (S:=S) hk.all h2;have hL:=fun wn (hk:aa All w wn)=>hl.keep hk;obtain⟨A1,c1,rfl,l1,l2,l3,_⟩:=h1;obtain⟨A2,c2,rfl,m1,m2,m3,_⟩:=h2;unfold maxLen at m2 l2;have b7:aa All w (w.alloc (.cells #[.slice A1 q.Nd.length c1,.slice A2 q.Nf.length c2] 92)):=(aa.refl All w).alloc _;have b8:∀wn,aa All (w.alloc (.cells #[.slice A1 q.Nd.length c1,.slice A2 q.Nf.length c2] 92)) wn→∀i,wn.cell? ⟨w.heap.size,i,none⟩=(#[.slice A1 q.Nd.length c1,.slice A2 q.Nf.length c2]:Array Value)[i]?:=fun wn h i=>sh h i;have HC:=J5 hA hB hL b7 b8;clear hA hB hL b7 b8 hl;go_enter func104,ntmps104;by_cases d1:q.Nd.length≤16;·(
 have t1:decide ((16:Int)<(q.Nd.length:Int))=false:=by simp;omega
 by_cases d2:q.Nf.length≤64;·(
 have t2:decide ((64:Int)<(q.Nf.length:Int))=false:=by simp;omega
 go_wp2_with fail;go_loopg [23] q.Nd.length (fun g c6 wr=>∃k:Nat,k≤q.Nd.length∧g=q.Nd.length-k∧c6=.int .i64 k∧aa All (w.alloc (.cells #[.slice A1 q.Nd.length c1,.slice A2 q.Nf.length c2] 92)) wr∧∀(i:Nat) a,i<k→q.Nd[i]? =some a→xA a);·exact⟨0,by omega,by omega,rfl,kR,fun i a hi=>by omega⟩
 obtain⟨k,hk,rfl,rfl,Z,J⟩:=hrel;have HA:=J3 Z J (HC.2.2.2.1.trans Z);clear Z J;by_cases b4:k<q.Nd.length;·(
 obtain⟨a,ha⟩:=eG b4;obtain⟨bb,o,cs,rfl,_,_,R,rfl,hz,_⟩:=aZ (HC.1 wr HA.2.2) ha;have z0:=R 0 _ rfl;rw[dj] at z0;have z1:=R 1 _ rfl;have z2:=R 2 _ rfl;have z3:=R 3 _ rfl;have hE:xA a↔aB a.name=true∧aB a.level=true∧1≤a.size∧a.size≤256:=Iff.rfl;have a1:¬xA a→pB (fV q)=false:=fun h=>au fun h'=>h (h'.2.2.1 a (mG ha));have a6:=fun wn=>gT a.name wn;have b0:=fun wn=>gT a.level wn;have b2:∀wn,aa All (wr.alloc (.cells #[.string a.name,.int .i64 a.size,.string a.level,.int .i64 a.Nj] 145)) wn→∀i,wn.cell? ⟨wr.heap.size,i,none⟩=(#[.string a.name,.int .i64 a.size,.string a.level,.int .i64 a.Nj]:Array Value)[i]?:=fun wn h i=>sh h i;have b9:aa All wr (wr.alloc (.cells #[.string a.name,.int .i64 a.size,.string a.level,.int .i64 a.Nj] 145)):=kR.alloc _;have HX:=J3 b2 b9 ha;clear R b2 b9 ha;by_cases e1:aB a.name=true;·(
 rw[e1] at a6;by_cases e2:aB a.level=true;·(
 rw[e2] at b0;have Y:=J2 a6 b0;clear a6 b0;by_cases e3:1≤a.size;·(
 have u3:decide (a.size<1)=false:=by simp;omega
 by_cases e4:a.size≤256;·(
 have u4:decide (256<a.size)=false:=by simp;omega
 have HY:=oH (hE.2 ⟨e1,e2,e3,e4⟩);clear e1 e2 hE a1;go_wp2_with fail;refine(Y.1 _).mono ?_;rintro e w1 ⟨rfl,j⟩;have y2:=HX.1 w1 j 2;simp only[gc] at y2;have H1:=oH j;clear j z0 z1 z2 z3;go_wp2_with fail;refine(Y.2 _).mono ?_;rintro e w2 ⟨rfl,I⟩;have y1:=HX.1 w2 (H1.out.trans I) 1;simp only[gc] at y1;have H2:=oH (H1.out.trans I);clear I y2;go_wp2_with fail;go_roundg (q.Nd.length-(k+1))
 ·refine⟨k+1,by omega,rfl,by go_num,(HA.1.trans HX.2.1).trans H2.out,fun i b hi hb=>?_⟩
  by_cases e:i=k;·subst e;rw[HX.2.2] at hb;cases hb;exact HY.out
  exact HA.2.1 i b (by omega) hb
 omega)
 have u4:decide (256<a.size)=true:=by simp;omega
 have C:=oH (a1 fun h=>e4 (hE.1 h).2.2.2);clear e1 e2 hE a1;go_wp2_with fail;refine(Y.1 _).mono ?_;rintro e w1 ⟨rfl,j⟩;have y2:=HX.1 w1 j 2;simp only[gc] at y2;have H1:=oH j;clear j z0 z1 z2 z3;go_wp2_with fail;refine(Y.2 _).mono ?_;rintro e w2 ⟨rfl,I⟩;have y1:=HX.1 w2 (H1.out.trans I) 1;simp only[gc] at y1;have H2:=oH (H1.out.trans I);clear I y2;go_wp2_with fail;go_ret;exact⟨by rw[C.out];rfl,(HA.2.2.trans HX.2.1).trans H2.out⟩)
 have u3:decide (a.size<1)=true:=by simp;omega
 have C:=oH (a1 fun h=>e3 (hE.1 h).2.2.1);clear e1 e2 hE a1;go_wp2_with fail;refine(Y.1 _).mono ?_;rintro e w1 ⟨rfl,j⟩;have y2:=HX.1 w1 j 2;simp only[gc] at y2;have H1:=oH j;clear j z0 z1 z2 z3;go_wp2_with fail;refine(Y.2 _).mono ?_;rintro e w2 ⟨rfl,I⟩;have y1:=HX.1 w2 (H1.out.trans I) 1;simp only[gc] at y1;have H2:=oH (H1.out.trans I);clear I y2;go_wp2_with fail;go_ret;exact⟨by rw[C.out];rfl,(HA.2.2.trans HX.2.1).trans H2.out⟩)
 have c0:aB a.level=false:=by simpa using e2
 rw[c0] at b0;have Y:=J2 a6 b0;have C:=oH (a1 fun h=>e2 (hE.1 h).2.1);clear a6 b0 e1 e2 c0 hE a1;go_wp2_with fail;refine(Y.1 _).mono ?_;rintro e w1 ⟨rfl,j⟩;have y2:=HX.1 w1 j 2;simp only[gc] at y2;have H1:=oH j;clear j z0 z1 z2 z3;go_wp2_with fail;refine(Y.2 _).mono ?_;rintro e w2 ⟨rfl,I⟩;have H2:=oH (H1.out.trans I);clear I y2;go_wp2_with fail;go_ret;exact⟨by rw[C.out];rfl,(HA.2.2.trans HX.2.1).trans H2.out⟩)
 have c3:aB a.name=false:=by simpa using e1
 rw[c3] at a6;have Y:=oH a6;have C:=oH (a1 fun h=>e1 (hE.1 h).1);clear a6 b0 e1 c3 hE a1;go_wp2_with fail;refine(Y.out _).mono ?_;rintro e w1 ⟨rfl,j⟩;have H1:=oH j;clear j z0 z1 z2 z3;go_wp2_with fail;go_ret;exact⟨by rw[C.out];rfl,(HA.2.2.trans HX.2.1).trans H1.out⟩)
 obtain rfl:k=q.Nd.length:=by omega
 have c4:∀a∈q.Nd,xA a:=fun a ha=>by obtain⟨i,hi⟩:=cY.1 ha;exact HA.2.1 i a (lS.1 hi).1 hi
 have HP:=oH (show fV q↔(∀f∈q.Nf,fT f)∧jI q.Nf≤4096 from⟨fun h=>h.2.2.2,fun h=>⟨d1,d2,c4,h.1,h.2⟩⟩);have y1:=HC.2.2.2.2 wr HA.1 1;simp only[gc] at y1;obtain⟨wo,rfl⟩:=eQ wr;clear c4;go_wp2_with fail;clear y1;go_loopg [5,51] q.Nf.length (fun g s5 c9 wr=>∃k:Nat,k≤q.Nf.length∧g=q.Nf.length-k∧c9=.int .i64 k∧s5=.int .i64 (jI (q.Nf.take k):Nat)∧jI (q.Nf.take k)≤4096∧aa All w wr∧∀(i:Nat) f,i<k→q.Nf[i]? =some f→fT f);·exact⟨0,by omega,by omega,rfl,rfl,by simp[jI],HA.2.2,fun i f hi=>by omega⟩
 obtain⟨k,hk,rfl,rfl,rfl,b3,Z,J⟩:=hrel;have HF:=J2 Z J;by_cases b4:k<q.Nf.length;·(
 obtain⟨f,hf⟩:=eG b4;obtain⟨bb,o,cs,rfl,_,_,R,vp,vb,rfl,c5,b5,_⟩:=aZ (HC.2.1 wr Z) hf;have z0:=R 0 _ rfl;rw[dj] at z0;have z1:=R 1 _ rfl;have z2:=R 2 _ rfl;have z3:=R 3 _ rfl;have d7:=FJ b5;have b1:=Bt hf;have d8:=Hq q.Nf (k+1);have l:=AP S vp vb f (wr.alloc (.cells #[.string f.name,vp,vb,.int .i64 f.Nj] 148)) (ax.keep (kR.alloc _) c5) (eH.keep (kR.alloc _) b5) (HC.2.2.1 _ (Z.alloc _));obtain⟨a7,c7,rfl,_⟩:=c5;obtain⟨a8,c8,rfl,_⟩:=b5;clear Z J R;by_cases e1:fT f;·(
 have b6:ox f=gl f:=by unfold ox;rw[av e1];rfl
 rw[av e1] at l;by_cases e2:jI (q.Nf.take (k+1))≤4096;·(
 have u2:decide ((4096:Int)<(jI (q.Nf.take k):Int)+(ox f:Int))=false:=by simp;omega
 have Y:=J5 l hf e1 b1 b6;clear l hf e1 b1 b6;go_wp2_with fail;refine Y.1.mono ?_;rintro e w1 ⟨rfl,j⟩;have H1:=oH ((HF.1.alloc _).trans j);clear j z0 z1 z2 z3;go_wp2_with fail;go_roundg (q.Nf.length-(k+1))
 ·refine⟨k+1,by omega,rfl,by go_num,?_,e2,H1.out,fun i b hi hb=>?_⟩;·rw[Y.2.2.2.1,←Y.2.2.2.2];go_num
  by_cases e:i=k;·subst e;rw[Y.2.1] at hb;cases hb;exact Y.2.2.1
  exact HF.2 i b (by omega) hb
 omega)
 have u2:decide ((4096:Int)<(jI (q.Nf.take k):Int)+(ox f:Int))=true:=by simp;omega
 have C:=oH (au (P:=fV q) fun h=>by have:=(HP.1 h).2;omega);have Y:=oH l;clear l hf e1 b1 b6;go_wp2_with fail;refine Y.out.mono ?_;rintro e w1 ⟨rfl,j⟩;have H1:=oH ((HF.1.alloc _).trans j);clear j z0 z1 z2 z3;go_wp2_with fail;go_ret;exact⟨by rw[C.out];rfl,H1.out⟩)
 rw[au e1] at l;have C:=oH (au (P:=fV q) fun h=>e1 ((HP.1 h).1 f (mG hf)));have Y:=oH l;clear l hf e1 b1;go_wp2_with fail;refine Y.out.mono ?_;rintro e w1 ⟨rfl,j⟩;have H1:=oH ((HF.1.alloc _).trans j);clear j z0 z1 z2 z3;go_wp2_with fail;go_ret;exact⟨by rw[C.out];rfl,H1.out⟩)
 obtain rfl:k=q.Nf.length:=by omega
 rw[dZ] at b3;have HY:=oH (av (P:=fV q) (HP.2 ⟨fun f hf=>by obtain⟨i,hi⟩:=cY.1 hf;exact J i f (lS.1 hi).1 hi,b3⟩));clear Z J;go_wp2_with fail;go_ret;exact⟨by rw[HY.out];rfl,HF.1⟩)
 have t2:decide ((64:Int)<(q.Nf.length:Int))=true:=by simp;omega
 have C:=oH (au (P:=fV q) fun h=>d2 h.2.1);go_wp2_with fail;go_ret;exact⟨by rw[C.out];rfl,HC.2.2.2.1⟩)
 have t1:decide ((16:Int)<(q.Nd.length:Int))=true:=by simp;omega
 have C:=oH (au (P:=fV q) fun h=>d1 h.1);go_wp2_with fail;go_ret;exact⟨by rw[C.out];rfl,HC.2.2.2.1⟩
end Go.Proofs.YtceloincoomjeaaGreatDoor
