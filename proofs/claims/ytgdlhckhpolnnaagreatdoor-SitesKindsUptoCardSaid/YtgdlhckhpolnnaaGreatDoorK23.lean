/- Part 24 of the proof (its last part says what is proved). No condition. -/
import Derived.Test.YtgdlhckhpolnnaaGreatDoorK22
namespace Go.Proofs.YtgdlhckhpolnnaaGreatDoor
set_option maxRecDepth 100000
set_option maxHeartbeats 8000000
open Go.RowKit Go.Proofs.Tryz
theorem CE {S:Nat→Prop}{w:World}{v:Value}{l:List eS}(h:mJ S w v l):∀k,lw (l.take k)≤k*1200000000000:=by
 intro k;induction k with
 |zero=>simp[lw]
 |succ k C=>
  cases j:l[k]? with
  |none=>rw[cU,j,Option.toList_none,List.append_nil];exact fR C (Nat.mul_le_mul_right _ (Nat.le_succ k))
  |some b=>rw[rp j];obtain⟨a,cap,rfl,_,_,_,h⟩:=h;obtain⟨_,_,cs,_,_,_,_,vb,rfl,o,_⟩:=h k b j;obtain⟨_,_,_,_,_,I,_⟩:=o;omega
theorem FJ {S:Nat→Prop}{w:World}{v:Value}{f:cD}(h:mJ S w v f.Ng):ox f≤76800000000000:=by
 have o:=CE h f.Ng.length;by_cases j:fT f
 ·rw[vh (av j)]
  have:=j.2.2.2.2.1;omega
 rw[pG (au j)];omega
def jI (l:List cD):Nat:=(l.map gl).sum
theorem Bt {l:List cD}{k:Nat}{b:cD}(h:l[k]? =some b):jI (l.take (k+1))=jI (l.take k)+gl b:=by unfold jI;rw[cU,h];simp
theorem Hq (l:List cD)(k:Nat):jI (l.take k)≤jI l:=by
 have:jI l=jI (l.take k)+jI (l.drop k):=by
  conv=>lhs;rw[←List.take_append_drop k l]
  unfold jI;rw[ic,List.sum_append]
 omega
theorem yU (S:Nat→Prop)(va vf:Value)(q:dN)(w:World)(h1:Kx S w va q.Nd)(h2:BC S w vf q.Nf)(hl:gz w):
 Calls prog 46 #[.agg #[va,vf]] w fun e w'=>e=.returned (.bool (pB (fV q)))∧aa All w w':=by
 have hA:=fun wn (hk:aa All w wn)=>lJ.keep (S:=S) hk.all h1;have hB:=fun wn (hk:aa All w wn)=>iX.keep (S:=S) hk.all h2;have hL:=fun wn (hk:aa All w wn)=>hl.keep hk;obtain⟨A1,c1,rfl,l1,l2,l3,_⟩:=h1;obtain⟨A2,c2,rfl,m1,m2,m3,_⟩:=h2;unfold maxLen at m2 l2;have b8:aa All w (w.alloc (.cells #[.slice A1 q.Nd.length c1,.slice A2 q.Nf.length c2] 69)):=(aa.refl All w).alloc _;have b9:∀wn,aa All (w.alloc (.cells #[.slice A1 q.Nd.length c1,.slice A2 q.Nf.length c2] 69)) wn→∀i,wn.cell? ⟨w.heap.size,i,none⟩=(#[.slice A1 q.Nd.length c1,.slice A2 q.Nf.length c2]:Array Value)[i]?:=fun wn h i=>sh h i;have HC:=J5 hA hB hL b8 b9;clear hA hB hL b8 b9 hl;go_enter func46,ntmps46;by_cases d1:q.Nd.length≤16;·(
 have t1:decide ((16:Int)<(q.Nd.length:Int))=false:=by simp;omega
 by_cases d2:q.Nf.length≤64;·(
 have t2:decide ((64:Int)<(q.Nf.length:Int))=false:=by simp;omega
 go_wp2_with fail;go_loopg [23] q.Nd.length (fun g d7 wr=>∃k:Nat,k≤q.Nd.length∧g=q.Nd.length-k∧d7=.int .i64 k∧aa All (w.alloc (.cells #[.slice A1 q.Nd.length c1,.slice A2 q.Nf.length c2] 69)) wr∧∀(i:Nat) a,i<k→q.Nd[i]? =some a→xA a);·exact⟨0,by omega,by omega,rfl,kR,fun i a hi=>by omega⟩
 obtain⟨k,hk,rfl,rfl,a1,R⟩:=hrel;have HA:=J3 a1 R (HC.2.2.2.1.trans a1);clear a1 R;by_cases b5:k<q.Nd.length;·(
 obtain⟨a,ha⟩:=eG b5;obtain⟨bb,o,cs,rfl,_,_,Y,rfl,hz,_⟩:=aZ (HC.1 wr HA.2.2) ha;have z0:=Y 0 _ rfl;rw[dj] at z0;have z1:=Y 1 _ rfl;have z2:=Y 2 _ rfl;have z3:=Y 3 _ rfl;have hE:xA a↔aB a.name=true∧aB a.level=true∧1≤a.size∧a.size≤256:=Iff.rfl;have a6:¬xA a→pB (fV q)=false:=fun h=>au fun h'=>h (h'.2.2.1 a (mG ha));have b0:=fun wn=>gT a.name wn;have b1:=fun wn=>gT a.level wn;have b3:∀wn,aa All (wr.alloc (.cells #[.string a.name,.int .i64 a.size,.string a.level,.int .i64 a.Nj] 106)) wn→∀i,wn.cell? ⟨wr.heap.size,i,none⟩=(#[.string a.name,.int .i64 a.size,.string a.level,.int .i64 a.Nj]:Array Value)[i]?:=fun wn h i=>sh h i;have c0:aa All wr (wr.alloc (.cells #[.string a.name,.int .i64 a.size,.string a.level,.int .i64 a.Nj] 106)):=kR.alloc _;have HX:=J3 b3 c0 ha;clear Y b3 c0 ha;by_cases e1:aB a.name=true;·(
 rw[e1] at b0;by_cases e2:aB a.level=true;·(
 rw[e2] at b1;have HN:=J2 b0 b1;clear b0 b1;by_cases e3:1≤a.size;·(
 have u3:decide (a.size<1)=false:=by simp;omega
 by_cases e4:a.size≤256;·(
 have u4:decide (256<a.size)=false:=by simp;omega
 have HY:=oH (hE.2 ⟨e1,e2,e3,e4⟩);clear e1 e2 hE a6;go_wp2_with fail;refine(HN.1 _).mono ?_;rintro e w1 ⟨rfl,j⟩;have y2:=HX.1 w1 j 2;simp only[gc] at y2;have H1:=oH j;clear j z0 z1 z2 z3;go_wp2_with fail;refine(HN.2 _).mono ?_;rintro e w2 ⟨rfl,J⟩;have y1:=HX.1 w2 (H1.out.trans J) 1;simp only[gc] at y1;have H2:=oH (H1.out.trans J);clear J y2;go_wp2_with fail;go_roundg (q.Nd.length-(k+1))
 ·refine⟨k+1,by omega,rfl,by go_num,(HA.1.trans HX.2.1).trans H2.out,fun i b hi hb=>?_⟩
  by_cases e:i=k;·subst e;rw[HX.2.2] at hb;cases hb;exact HY.out
  exact HA.2.1 i b (by omega) hb
 omega)
 have u4:decide (256<a.size)=true:=by simp;omega
 have I:=oH (a6 fun h=>e4 (hE.1 h).2.2.2);clear e1 e2 hE a6;go_wp2_with fail;refine(HN.1 _).mono ?_;rintro e w1 ⟨rfl,j⟩;have y2:=HX.1 w1 j 2;simp only[gc] at y2;have H1:=oH j;clear j z0 z1 z2 z3;go_wp2_with fail;refine(HN.2 _).mono ?_;rintro e w2 ⟨rfl,J⟩;have y1:=HX.1 w2 (H1.out.trans J) 1;simp only[gc] at y1;have H2:=oH (H1.out.trans J);clear J y2;go_wp2_with fail;go_ret;exact⟨by rw[I.out];rfl,(HA.2.2.trans HX.2.1).trans H2.out⟩)
 have u3:decide (a.size<1)=true:=by simp;omega
 have I:=oH (a6 fun h=>e3 (hE.1 h).2.2.1);clear e1 e2 hE a6;go_wp2_with fail;refine(HN.1 _).mono ?_;rintro e w1 ⟨rfl,j⟩;have y2:=HX.1 w1 j 2;simp only[gc] at y2;have H1:=oH j;clear j z0 z1 z2 z3;go_wp2_with fail;refine(HN.2 _).mono ?_;rintro e w2 ⟨rfl,J⟩;have y1:=HX.1 w2 (H1.out.trans J) 1;simp only[gc] at y1;have H2:=oH (H1.out.trans J);clear J y2;go_wp2_with fail;go_ret;exact⟨by rw[I.out];rfl,(HA.2.2.trans HX.2.1).trans H2.out⟩)
 have c4:aB a.level=false:=by simpa using e2
 rw[c4] at b1;have HN:=J2 b0 b1;have I:=oH (a6 fun h=>e2 (hE.1 h).2.1);clear b0 b1 e1 e2 c4 hE a6;go_wp2_with fail;refine(HN.1 _).mono ?_;rintro e w1 ⟨rfl,j⟩;have y2:=HX.1 w1 j 2;simp only[gc] at y2;have H1:=oH j;clear j z0 z1 z2 z3;go_wp2_with fail;refine(HN.2 _).mono ?_;rintro e w2 ⟨rfl,J⟩;have H2:=oH (H1.out.trans J);clear J y2;go_wp2_with fail;go_ret;exact⟨by rw[I.out];rfl,(HA.2.2.trans HX.2.1).trans H2.out⟩)
 have c5:aB a.name=false:=by simpa using e1
 rw[c5] at b0;have HN:=oH b0;have I:=oH (a6 fun h=>e1 (hE.1 h).1);clear b0 b1 e1 c5 hE a6;go_wp2_with fail;refine(HN.out _).mono ?_;rintro e w1 ⟨rfl,j⟩;have H1:=oH j;clear j z0 z1 z2 z3;go_wp2_with fail;go_ret;exact⟨by rw[I.out];rfl,(HA.2.2.trans HX.2.1).trans H1.out⟩)
 obtain rfl:k=q.Nd.length:=by omega
 have c6:∀a∈q.Nd,xA a:=fun a ha=>by obtain⟨i,hi⟩:=cY.1 ha;exact HA.2.1 i a (lS.1 hi).1 hi
 have HP:=oH (show fV q↔(∀f∈q.Nf,fT f)∧jI q.Nf≤4096 from⟨fun h=>h.2.2.2,fun h=>⟨d1,d2,c6,h.1,h.2⟩⟩);have y1:=HC.2.2.2.2 wr HA.1 1;simp only[gc] at y1;obtain⟨wo,rfl⟩:=eQ wr;clear c6;go_wp2_with fail;clear y1;go_loopg [5,51] q.Nf.length (fun g s5 d8 wr=>∃k:Nat,k≤q.Nf.length∧g=q.Nf.length-k∧d8=.int .i64 k∧s5=.int .i64 (jI (q.Nf.take k):Nat)∧jI (q.Nf.take k)≤4096∧aa All w wr∧∀(i:Nat) f,i<k→q.Nf[i]? =some f→fT f);·exact⟨0,by omega,by omega,rfl,rfl,by simp[jI],HA.2.2,fun i f hi=>by omega⟩
 obtain⟨k,hk,rfl,rfl,rfl,b4,a1,R⟩:=hrel;have HF:=J2 a1 R;by_cases b5:k<q.Nf.length;·(
 obtain⟨f,hf⟩:=eG b5;obtain⟨bb,o,cs,rfl,_,_,Y,vp,vb,rfl,c9,b6,_⟩:=aZ (HC.2.1 wr a1) hf;have z0:=Y 0 _ rfl;rw[dj] at z0;have z1:=Y 1 _ rfl;have z2:=Y 2 _ rfl;have z3:=Y 3 _ rfl;have d9:=FJ b6;have b2:=Bt hf;have hle:=Hq q.Nf (k+1);have C:=AP S vp vb f (wr.alloc (.cells #[.string f.name,vp,vb,.int .i64 f.Nj] 110)) (ax.keep (kR.alloc _) c9) (eH.keep (kR.alloc _) b6) (HC.2.2.1 _ (a1.alloc _));obtain⟨a7,c7,rfl,_⟩:=c9;obtain⟨a8,c8,rfl,_⟩:=b6;clear a1 R Y;by_cases e1:fT f;·(
 have b7:ox f=gl f:=by unfold ox;rw[av e1];rfl
 rw[av e1] at C;by_cases e2:jI (q.Nf.take (k+1))≤4096;·(
 have u2:decide ((4096:Int)<(jI (q.Nf.take k):Int)+(ox f:Int))=false:=by simp;omega
 have HN:=J5 C hf e1 b2 b7;clear C hf e1 b2 b7;go_wp2_with fail;refine HN.1.mono ?_;rintro e w1 ⟨rfl,j⟩;have H1:=oH ((HF.1.alloc _).trans j);clear j z0 z1 z2 z3;go_wp2_with fail;go_roundg (q.Nf.length-(k+1))
 ·refine⟨k+1,by omega,rfl,by go_num,?_,e2,H1.out,fun i b hi hb=>?_⟩;·rw[HN.2.2.2.1,←HN.2.2.2.2];go_num
  by_cases e:i=k;·subst e;rw[HN.2.1] at hb;cases hb;exact HN.2.2.1
  exact HF.2 i b (by omega) hb
 omega)
 have u2:decide ((4096:Int)<(jI (q.Nf.take k):Int)+(ox f:Int))=true:=by simp;omega
 have I:=oH (au (P:=fV q) fun h=>by have:=(HP.1 h).2;omega);have HN:=oH C;clear C hf e1 b2 b7;go_wp2_with fail;refine HN.out.mono ?_;rintro e w1 ⟨rfl,j⟩;have H1:=oH ((HF.1.alloc _).trans j);clear j z0 z1 z2 z3;go_wp2_with fail;go_ret;exact⟨by rw[I.out];rfl,H1.out⟩)
 rw[au e1] at C;have I:=oH (au (P:=fV q) fun h=>e1 ((HP.1 h).1 f (mG hf)));have HN:=oH C;clear C hf e1 b2;go_wp2_with fail;refine HN.out.mono ?_;rintro e w1 ⟨rfl,j⟩;have H1:=oH ((HF.1.alloc _).trans j);clear j z0 z1 z2 z3;go_wp2_with fail;go_ret;exact⟨by rw[I.out];rfl,H1.out⟩)
 obtain rfl:k=q.Nf.length:=by omega
 rw[dZ] at b4;have HY:=oH (av (P:=fV q) (HP.2 ⟨fun f hf=>by obtain⟨i,hi⟩:=cY.1 hf;exact R i f (lS.1 hi).1 hi,b4⟩));clear a1 R;go_wp2_with fail;go_ret;exact⟨by rw[HY.out];rfl,HF.1⟩)
 have t2:decide ((64:Int)<(q.Nf.length:Int))=true:=by simp;omega
 have I:=oH (au (P:=fV q) fun h=>d2 h.2.1);go_wp2_with fail;go_ret;exact⟨by rw[I.out];rfl,HC.2.2.2.1⟩)
 have t1:decide ((16:Int)<(q.Nd.length:Int))=true:=by simp;omega
 have I:=oH (au (P:=fV q) fun h=>d1 h.1);go_wp2_with fail;go_ret;exact⟨by rw[I.out];rfl,HC.2.2.2.1⟩
end Go.Proofs.YtgdlhckhpolnnaaGreatDoor
