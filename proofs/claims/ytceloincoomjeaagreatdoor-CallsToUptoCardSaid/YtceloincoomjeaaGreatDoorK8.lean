/- Part 9 of the proof of CallsTo (its last part says what is proved). No condition. -/
import Derived.Test.YtceloincoomjeaaGreatDoorK7
namespace Go.Proofs.YtceloincoomjeaaGreatDoor
set_option maxRecDepth 100000
set_option maxHeartbeats 8000000
open Go.RowKit Go.Proofs.Tryz
section
section
variable {ll:List (List Int)}
def LU (ll:List (List Int))(k:Nat):Prop:=∃j,dH ll k j∧aQ ll j k
def mD (ll:List (List Int))(s i:Nat):Prop:=∃k,k<ll.length∧aQ ll s k∧LU ll k∧aQ ll k i
inductive rt (ll:List (List Int)) (s:Nat):Nat→Nat→Prop
 |one:rt ll s 1 s
 |step {m b c:Nat}:rt ll s m b→dH ll b c→rt ll s (m+1) c
theorem rt.reach {s m i:Nat}(h:rt ll s m i):aQ ll s i:=by
 induction h with
 |one=>exact .refl
 |step _ e j=>exact .step j e
theorem rt.pos {s m i:Nat}(h:rt ll s m i):1≤m:=by cases h<;>omega
theorem By {s i:Nat}(h:aQ ll s i):∃m,rt ll s m i:=by
 induction h with
 |refl=>exact⟨1,.one⟩
 |step _ e j=>obtain⟨m,hm⟩:=j;exact⟨m+1,.step hm e⟩
theorem mD.on {s i j:Nat}(h:mD ll s i)(k:aQ ll i j):mD ll s j:=by obtain⟨x,l,o,C,I⟩:=h;exact⟨x,l,o,C,I.trans k⟩
theorem mD.reach {s i:Nat}(h:mD ll s i):aQ ll s i:=by obtain⟨x,o,j,C,l⟩:=h;exact j.trans l
theorem sf {s i j:Nat}(hi:i<ll.length)(h:aQ ll s i)(e:dH ll i j)(k:aQ ll j i):mD ll s i:=⟨i,hi,h,⟨j,e,k⟩,.refl⟩
theorem BM (a:Nat):∀n,oe ll n a≤n
 |0=>cf _
 |n+1=>by have:=BM a n;unfold oe;split<;>omega
theorem Fl {x:Nat}:∀n,x<n→0<oe ll n x:=by
 intro n;induction n with
 |zero=>intro h;omega
 |succ n j=>
  intro h;unfold oe;by_cases e:x=n;·subst e;rw[lf];simp
  have:=j (by omega);omega
def mN (ll:List (List Int)):Prop:=∀a b,a<ll.length→dH ll a b→b<ll.length
theorem gO {s i:Nat}(j:mN ll)(l:s<ll.length)(h:aQ ll s i):i<ll.length:=by
 induction h with
 |refl=>exact l
 |step _ e o=>exact j _ _ o e
theorem JU {s:Nat}(o:mN ll)(C:s<ll.length){m i:Nat}(h:rt ll s m i)(I:¬mD ll s i):oe ll ll.length i+m≤oe ll ll.length s+1:=by
 induction h with
 |one=>omega
 | @step m b c h e J=>
   have j:¬mD ll s b:=fun x=>I (x.on (.step .refl e));have l:=gO o C h.reach;have R:ay ll b c=true:=aY.2 (.step .refl e);have Y:ay ll c b=false:=by(
 cases Z:ay ll c b with
 |false=>rfl
 |true=>exact absurd (sf l h.reach e (aY.1 Z)) j)
   have:=wC R Y ll.length l;have:=J j;omega
theorem tS {s:Nat}(j:mN ll)(l:s<ll.length){m i:Nat}(h:rt ll s m i)(o:¬mD ll s i):m≤ll.length:=by have C:=JU j l h o;have I:=BM (ll:=ll) s ll.length;have J:=Fl (ll:=ll) ll.length (gO j l h.reach);omega
def kN (ll:List (List Int))(s i:Nat)(v:Int):Prop:=
 (mD ll s i→v= -1)∧(¬aQ ll s i→v=0)∧(aQ ll s i→¬mD ll s i→∃m:Nat,v=m∧rt ll s m i∧∀m',rt ll s m' i→m'≤m)
theorem wI {s i:Nat}{v u:Int}(h:kN ll s i v)(k:kN ll s i u):v=u:=by
 by_cases j:mD ll s i;·rw[h.1 j,k.1 j]
 by_cases l:aQ ll s i;·obtain⟨m,rfl,o,C⟩:=h.2.2 l j;obtain⟨R,rfl,I,J⟩:=k.2.2 l j;have:=C _ I;have:=J _ o;omega
 rw[h.2.1 l,k.2.1 l]
theorem Lh {p:Nat→Prop}(n:Nat)(l:∀m,p m→m≤n)(h:∃m,p m):∃m,p m∧∀j,p j→j≤m:=by
 induction n with
 |zero=>obtain⟨m,hm⟩:=h;exact⟨m,hm,fun j h'=>by have:=l j h';omega⟩
 |succ n C=>
  by_cases o:p (n+1);·exact⟨n+1,o,l⟩
  exact C fun m hm=>by have:=l m hm;have:m≠n+1:=fun e=>o (e▸hm);omega
theorem FB {s:Nat}(o:mN ll)(C:s<ll.length)(i:Nat):∃v,kN ll s i v:=by
 by_cases j:mD ll s i;·exact⟨-1,fun _=>rfl,fun h=>absurd j.reach h,fun _ h=>absurd j h⟩
 by_cases l:aQ ll s i
 ·obtain⟨m,I,J⟩:=Lh ll.length (fun m (hm:rt ll s m i)=>tS o C hm j) (By l)
  exact⟨m,fun h=>absurd h j,fun h=>absurd l h,fun _ _=>⟨m,rfl,I,J⟩⟩
 exact⟨0,fun h=>absurd h j,fun _=>rfl,fun h=>absurd h l⟩
open Classical in
noncomputable def gy (ll:List (List Int))(s i:Nat):Int:=if h:∃v,kN ll s i v then Classical.choose h else 0
theorem yg {s i:Nat}(h:∃v,kN ll s i v):kN ll s i (gy ll s i):=by unfold gy;rw[dif_pos h];exact Classical.choose_spec h
theorem nh {s i:Nat}{v:Int}(h:kN ll s i v):gy ll s i=v:=wI (yg ⟨v,h⟩) h
def KF (ll:List (List Int))(told:Nat→Bool):Prop:=∀x y,y<ll.length→told x=true→aQ ll x y→told y=true
theorem Eh {told:Nat→Bool}{a:Nat}(h:KF ll told)(I:dm ll told a=true):KF ll (eC ll told a):=by
 intro x y o j l;unfold eC at j⊢;simp only[Bool.or_eq_true,gE,iH] at j⊢;rcases j with j|⟨_,j⟩;·exact .inl (h x y o j l)
 rcases (gV.1 I).2 y o (gr (et.1 j).1 (aY.2 l)) with C|C;·exact .inl C
 exact .inr ⟨o,C⟩
theorem kx {a:Nat}{x:Int}:x∈nk ll a↔∃n:Nat,x=n∧n<ll.length∧eB ll a n=true:=by
 simp only[nk,Al,dr,List.mem_filter,fg];constructor
 ·rintro⟨n,⟨j,l⟩,rfl⟩
  exact⟨n,rfl,j,l⟩
 rintro⟨n,rfl,j,l⟩;exact⟨n,⟨j,l⟩,rfl⟩
theorem me (m:Nat):∀told,ph ll.length told<m→∀x,x<ll.length→told x=true∨∃g∈gm ll m told,(x:Int)∈g:=by
 induction m with
 |zero=>intro told h;omega
 |succ m C=>
  intro told hm x j;cases o:told x with
  |true=>exact .inl rfl
  |false=>
   right;obtain⟨a,I,J,R,_⟩:=AU j o;rw[iv I];have Y:=(gV.1 R).1;have hu:=mr J Y;rcases C (eC ll told a) (by omega) x j with h|⟨g,Z,l⟩;·unfold eC at h;simp only[o,Bool.false_or,gE,iH] at h;exact⟨_,List.mem_cons_self,kx.2 ⟨x,rfl,j,h.2⟩⟩
   exact⟨g,List.mem_cons_of_mem _ Z,l⟩
theorem wR (m:Nat):∀told,ph ll.length told<m→KF ll told→ET ll told→∀l g I,gm ll m told=l++g::I→∀i p:Nat,(i:Int)∈g→p<ll.length→aQ ll p i→∃g'∈g::I,(p:Int)∈g':=by
 induction m with
 |zero=>intro told h;omega
 |succ m ih=>
  intro told hm o hw l g I he i p hi Y C;rcases lD (n:=ll.length) (p:=dm ll told) with ⟨J,_⟩|⟨a,J,Z,hr,_⟩
  ·rw[jP J] at he
   cases l<;>cases he
  have j:=me (m+1) told hm p Y;rw[iv J] at he j;have hn:=(gV.1 hr).1;have hu:=mr Z hn;cases l with
  |nil=>
   rw[he] at j;injection he with h1 h2;subst h1;rcases j with h|h
   ·obtain⟨n,a1,R,hs⟩:=kx.1 hi;obtain rfl:i=n:=by omega
    have ht:=o p i R h C;have:=hw i a Z ht (Bd hs);rw[hn] at this;cases this
   exact h
  |cons g0 l=>injection he with h1 h2;exact ih _ (by omega) (Eh o hr) (Bz hw) l g I h2 i p hi Y C
theorem wQ (m:Nat):∀told,∀g∈gm ll m told,∀x∈g,∃n:Nat,x=n∧n<ll.length:=by
 induction m with
 |zero=>intro told g j;cases j
 |succ m C=>
  intro told g j x o;rcases lD (n:=ll.length) (p:=dm ll told) with ⟨l,_⟩|⟨a,l,_⟩;·rw[jP l] at j;cases j
  rw[iv l] at j;rcases fX.1 j with rfl|j
  ·obtain⟨n,I,J,_⟩:=kx.1 o
   exact⟨n,I,J⟩
  exact C _ g j x o
theorem yt (m:Nat):∀told,∀g∈gm ll m told,∀x y:Nat,(x:Int)∈g→(y:Int)∈g→aQ ll x y:=by
 induction m with
 |zero=>intro told g j;cases j
 |succ m I=>
  intro told g j x y o C;rcases lD (n:=ll.length) (p:=dm ll told) with ⟨l,_⟩|⟨a,l,_⟩;·rw[jP l] at j;cases j
  rw[iv l] at j;rcases fX.1 j with rfl|j
  ·obtain⟨n,Z,h2,J⟩:=kx.1 o;obtain⟨R,k1,k2,Y⟩:=kx.1 C;obtain rfl:x=n:=by omega
   obtain rfl:y=R:=by omega
   exact aY.1 (gr (et.1 J).2 (et.1 Y).1)
  exact I _ g j x y o C
def jJ (ll:List (List Int))(s:Nat)(done:Nat→Prop)(out:Nat→Int):Prop:=
 ∀j,j<ll.length→(mD ll s j→out j= -1)∧(¬mD ll s j→0≤out j∧(out j=0∨rt ll s (out j).toNat j)∧(j=s→1≤out j)∧
  ∀p,done p→dH ll p j→∀m,rt ll s m p→(m:Int)+1≤out j)
theorem uW {s:Nat}{done:Nat→Prop}{out:Nat→Int}(h:jJ ll s done out){i:Nat}(hi:i<ll.length)(j:¬mD ll s i)(l:∀p,aQ ll s p→dH ll p i→done p):∀m,rt ll s m i→(m:Int)≤out i:=by
 intro m hm;obtain⟨I,J,o,C⟩:=(h i hi).2 j;cases hm with
 |one=>exact o rfl
 | @step m b _ hw e=>exact C b (l b hw.reach e) e m hw
theorem Fy {s:Nat}{out:Nat→Int}(h:jJ ll s (fun _=>True) out){i:Nat}(hi:i<ll.length):kN ll s i (out i):=by
 refine⟨(h i hi).1,fun l=>?_,fun l o=>?_⟩
 ·have o:¬mD ll s i:=fun x=>l x.reach
  rcases ((h i hi).2 o).2.1 with j|j;·exact j
  exact absurd j.reach l
 have I:=uW h hi o (fun _ _ _=>trivial);obtain⟨R,j,_⟩:=(h i hi).2 o;obtain⟨m,hm⟩:=By l;have:=I m hm;have:=hm.pos;rcases j with j|j;·omega
 exact⟨(out i).toNat,by omega,j,fun J C=>by have:=I J C;omega⟩
end
end
section
section
variable {ll:List (List Int)}
def lu (f:Nat→Int)(i:Nat)(v:Int):Nat→Int:=fun k=>if k=i then v else f k
theorem fM (f:Nat→Int)(i:Nat)(v:Int):lu f i v i=v:=by simp[lu]
theorem jS {f:Nat→Int}{i k:Nat}{v:Int}(h:k≠i):lu f i v k=f k:=by simp[lu,h]
theorem jJ.not_bad {s:Nat}{done:Nat→Prop}{out:Nat→Int}(h:jJ ll s done out){i:Nat}(hi:i<ll.length)(l:0≤out i):¬mD ll s i:=fun j=>by have:=(h i hi).1 j;omega
theorem jJ.way {s:Nat}{done:Nat→Prop}{out:Nat→Int}(h:jJ ll s done out){i:Nat}(hi:i<ll.length)(l:1≤out i):rt ll s (out i).toNat i:=by
 rcases ((h i hi).2 (h.not_bad hi (by omega))).2.1 with j|j;·omega
 exact j
theorem jJ.bound {s:Nat}{done:Nat→Prop}{out:Nat→Int}(h:jJ ll s done out)(o:mN ll)(C:s<ll.length){i:Nat}(hi:i<ll.length): -1≤out i∧out i≤ll.length:=by
 by_cases l:mD ll s i;·have:=(h i hi).1 l;omega
 obtain⟨I,j,_⟩:=(h i hi).2 l;rcases j with j|j;·omega
 have:=tS o C j l;omega
theorem jJ.less {s:Nat}{done l:Nat→Prop}{out:Nat→Int}(h:jJ ll s done out)(I:∀p,l p→p<ll.length→done p):jJ ll s l out:=by
 intro j o;refine⟨(h j o).1,fun J=>?_⟩;obtain⟨R,Y,Z,h4⟩:=(h j o).2 J;refine⟨R,Y,Z,fun p hp e=>h4 p (I p hp ?_) e⟩;obtain⟨row,C,_⟩:=e;rcases Nat.lt_or_ge p ll.length with h|h;·exact h
 rw[jz h] at C;cases C
theorem jJ.max {s:Nat}{done:Nat→Prop}{out:Nat→Int}(h:jJ ll s done out){i k:Nat}(hi:i<ll.length)(Y:k<ll.length)(e:dH ll i k)(I:1≤out i)(J:0≤out k):
 jJ ll s done (lu out k (Max.max (out k) (out i+1))):=by
 intro j l;by_cases o:j=k
 ·subst o;rw[fM];have C:=h.not_bad l J;refine⟨fun x=>absurd x C,fun _=>?_⟩;obtain⟨g1,g2,g3,g4⟩:=(h j l).2 C;refine⟨by omega,?_,fun x=>by have:=g3 x;omega,fun p R e m hm=>by have:=g4 p R e m hm;omega⟩;by_cases hm:out j≤out i+1
  ·rw[Int.max_eq_right hm]
   right;have:=rt.step (h.way hi I) e;rwa [show(out i+1).toNat=(out i).toNat+1 by omega]
  rw[Int.max_eq_left (by omega)];exact g2
 rw[jS o];exact h j l
theorem jJ.node {s:Nat}{done:Nat→Prop}{out:Nat→Int}(h:jJ ll s done out){i:Nat}(full:¬mD ll s i→∀m,rt ll s m i→(m:Int)≤out i)(l:1≤out i→∀k,dH ll i k→¬mD ll s k→out i+1≤out k):
 jJ ll s (fun p=>done p∨p=i) out:=by
 intro j J;refine⟨(h j J).1,fun o=>?_⟩;obtain⟨R,Y,Z,h4⟩:=(h j J).2 o;refine⟨R,Y,Z,fun p C e m hm=>?_⟩;rcases C with C|rfl;·exact h4 p C e m hm
 have I:¬mD ll s p:=fun x=>o (x.on (.step .refl e));have:=full I m hm;have:=hm.pos;have:=l (by omega) j e o;omega
def nf (ll:List (List Int))(r:Nat)(p:Nat):Prop:=∃g∈(bC ll).reverse.take r,(p:Int)∈g
theorem Fw {s:Nat}{r:Nat}{G:List Int}(hG:(bC ll).reverse[r]? =some G){i:Nat}(hi:(i:Int)∈G)(hb:¬mD ll s i)(_:i<ll.length)(p:Nat)(hp:aQ ll s p)(e:dH ll p i):nf ll r p:=by
 have C:p<ll.length:=by
  obtain⟨row,Z,_⟩:=e;rcases Nat.lt_or_ge p ll.length with h|h;·exact h
  rw[jz h] at Z;cases Z
 obtain⟨R,Y⟩:=lS.1 hG;have j:(bC ll).reverse=(bC ll).reverse.take r++G::(bC ll).reverse.drop (r+1):=by rw[←Y,←List.drop_eq_getElem_cons R,List.take_append_drop]
 have l:bC ll=((bC ll).reverse.drop (r+1)).reverse++G::((bC ll).reverse.take r).reverse:=by have:=congrArg List.reverse j;rw[List.reverse_reverse] at this;rw[List.reverse_append,List.reverse_cons,jM] at this;exact this
 obtain⟨g',o,I⟩:=wR (ll.length+1) (fun _=>false) (Nat.lt_succ_of_le (qI _ _)) (fun x y _ h=>by cases h) (fun x y _ h=>by cases h) _ _ _ l i p hi C (.step .refl e);rcases fX.1 o with rfl|o
 ·have J:g'∈bC ll:=by rw[l];simp
  exact absurd (sf C hp e (yt _ _ _ J i p hi I)) fun x=>hb (x.on (.step .refl e))
 exact⟨g',List.mem_reverse.1 o,I⟩
theorem Fx {s:Nat}{out:Nat→Int}(h:jJ ll s (nf ll (bC ll).length) out):jJ ll s (fun _=>True) out:=by
 refine h.less fun p _ l=>?_;rcases me (ll.length+1) (fun _=>false) (Nat.lt_succ_of_le (qI _ _)) p l with h|⟨g,o,j⟩;·cases h
 exact⟨g,by rw[oF (by simp)];exact List.mem_reverse.2 o,j⟩
theorem CN {r:Nat}{G:List Int}(o:(bC ll).reverse[r]? =some G)(p:Nat):nf ll (r+1) p→nf ll r p∨(p:Int)∈G:=by
 rintro⟨g,j,l⟩;rw[cU,o] at j;rcases eD.1 j with j|j;·exact .inl ⟨g,j,l⟩
 rw[show g=G by simpa using j] at l;exact .inr l
theorem yu (h:1≤ll.length):1≤(bC ll).length:=by
 rcases me (ll.length+1) (fun _=>false) (Nat.lt_succ_of_le (qI _ _)) 0 (by omega) with h|⟨g,j,_⟩;·cases h
 exact List.length_pos_of_mem j
noncomputable def kS (ll:List (List Int))(s i:Nat):Bool:=ay ll s i&&(ll[i]?.getD []).any (fun x=>ay ll x.toNat i)
theorem uO {s i:Nat}(I:∀x∈ll[i]?.getD [],∃n:Nat,x=n∧n<ll.length):kS ll s i=true↔aQ ll s i∧LU ll i:=by
 unfold kS;rw[gE,aY,mW];refine and_congr_right fun _=>⟨?_,?_⟩
 ·rintro⟨x,l,C⟩;obtain⟨n,rfl,J⟩:=I x l;refine⟨n,?_,aY.1 C⟩;cases o:ll[i]? with
  |none=>rw[o] at l;simp at l
  |some row=>rw[o] at l;exact⟨row,o,l⟩
 rintro⟨j,⟨row,o,R⟩,C⟩;exact⟨j,by rw[o];exact R,by simpa using aY.2 C⟩
noncomputable def pq (ll:List (List Int))(s i k:Nat):Bool:=(List.range k).any fun a=>kS ll s a&&ay ll a i
theorem qo (s i k:Nat):pq ll s i (k+1)=(pq ll s i k||(kS ll s k&&ay ll k i)):=by simp[pq,List.range_succ]
theorem se {s i:Nat}(J:∀j:Nat,∀x∈ll[j]?.getD [],∃n:Nat,x=n∧n<ll.length):pq ll s i ll.length=true↔mD ll s i:=by
 unfold pq mD;simp only[mW,fg,gE];constructor
 ·rintro⟨k,l,R,o⟩
  obtain⟨C,I⟩:=(uO (J k)).1 R;exact⟨k,l,C,I,aY.1 o⟩
 rintro⟨k,l,C,I,o⟩;exact⟨k,l,(uO (J k)).2 ⟨C,I⟩,aY.2 o⟩
noncomputable def kL (ll:List (List Int))(s i:Nat):Int:=if pq ll s i ll.length then-1 else 0
theorem zZ {s:Nat}(J:∀j:Nat,∀x∈ll[j]?.getD [],∃n:Nat,x=n∧n<ll.length):
 jJ ll s (nf ll 0) (if kL ll s s=0 then lu (kL ll s) s 1 else kL ll s):=by
 intro j hj;have o:=se (s:=s) (i:=j) J;have Y:=se (s:=s) (i:=s) J;by_cases C:mD ll s j
 ·have e:kL ll s j= -1:=by unfold kL;rw[ap (o.2 C)]
  refine⟨fun _=>?_,fun h=>absurd C h⟩;split
  ·rename_i R
   rw[jS];exact e;rintro rfl;rw[e] at R;cases R
  exact e
 have e:kL ll s j=0:=by unfold kL;rw[ae fun h=>C (o.1 h)]
 refine⟨fun h=>absurd h C,fun _=>?_⟩;by_cases l:j=s
 ·subst l
  rw[ap e,fM];exact⟨by decide,.inr .one,fun _=>by decide,fun p ⟨g,I,_⟩=>by simp at I⟩
 have Z:(if kL ll s s=0 then lu (kL ll s) s 1 else kL ll s) j=0:=by
  split;·rw[jS l];exact e
  exact e
 rw[Z];exact⟨by decide,.inl rfl,fun h=>absurd h l,fun p ⟨g,I,_⟩=>by simp at I⟩
end
end
section
section
variable {ll:List (List Int)}
open Classical in
noncomputable def di (ll:List (List Int))(i k:Nat):List Int:=((List.range i).filter fun a=>decide (dH ll a k)).map fun(n:Nat)=>(n:Int)
noncomputable def gS (ll:List (List Int))(row:List Int)(i m k:Nat):List Int:=di ll i k++if(k:Int)∈row.take m then [(i:Int)] else []
theorem vN (i k:Nat):(di ll i k).length≤i:=by unfold di;rw[ce];exact fR (List.length_filter_le _ _) (by simp)
theorem AN (row:List Int)(i m k:Nat):(gS ll row i m k).length≤i+1:=by have:=vN (ll:=ll) i k;unfold gS;rw[iQ];split<;>simp<;>omega
theorem jc {i k:Nat}{x:Int}:x∈di ll i k↔∃a:Nat,x=a∧a<i∧dH ll a k:=by
 simp only[di,dr,List.mem_filter,fg,iH];constructor;·rintro⟨a,⟨j,l⟩,rfl⟩;exact⟨a,rfl,j,l⟩
 rintro⟨a,rfl,j,l⟩;exact⟨a,⟨j,l⟩,rfl⟩
theorem GM (row:List Int)(i k:Nat):gS ll row i 0 k=di ll i k:=by simp[gS]
theorem yT {row:List Int}{i k:Nat}(h:ll[i]? =some row):gS ll row i row.length k=di ll (i+1) k:=by
 unfold gS di;rw[dZ,List.range_succ,mE,ic];congr 1;by_cases j:(k:Int)∈row
 ·have:dH ll i k:=⟨row,h,j⟩
  simp[j,this]
 have:¬dH ll i k:=by rintro⟨r,l,o⟩;rw[h] at l;cases l;exact j o
 simp[j,this]
theorem AO {row:List Int}{i m k:Nat}(hm:m<row.length)(o:row.Nodup)(l:row[m]=(k:Int)):gS ll row i (m+1) k=gS ll row i m k++[(i:Int)]:=by
 have C:(k:Int)∈row.take (m+1):=by rw[cU,lG hm,l];simp
 have I:(k:Int)∉row.take m:=by intro h;obtain⟨j,J,e⟩:=List.getElem_of_mem h;rw[fN] at J;rw[List.getElem_take] at e;exact(List.pairwise_iff_getElem.1 o) j m (by omega) hm (by omega) (by rw[e,l])
 unfold gS;rw[ap C,ae I,List.append_nil]
theorem DK {row:List Int}{i m k j:Nat}(hm:m<row.length)(l:row[m]=(k:Int))(o:j≠k):gS ll row i (m+1) j=gS ll row i m j:=by
 have C:((j:Int)∈row.take (m+1))=((j:Int)∈row.take m):=by(
 rw[cU,lG hm,l];simp only[eD,Option.toList_some,cx,eq_iff_iff];constructor
 ·rintro(h|h)
  ·exact h
  exact absurd (by omega) o
 exact fun h=>.inl h)
 unfold gS;simp only[C]
end
end
section
section
variable {α:Type} {L:List (List α)}
theorem lF {i k:Nat}{l:List α}{x:α}(hi:L[i]? =some l)(o:l[k]? =some x):L.flatten[(L.take i).flatten.length+k]? =some x:=by
 have j:=(lS.1 o).1;have e:L.flatten=(L.take i).flatten++(l++(L.drop (i+1)).flatten):=by rw[←List.flatten_cons,←List.flatten_append,←kE hi]
 rw[e,kH (by omega),Nat.add_sub_cancel_left,ma j];exact o
theorem BS {i j:Nat}{l:List α}(hi:L[i]? =some l)(o:i<j):(L.take i).flatten.length+l.length≤(L.take j).flatten.length:=by
 have e:(L.take j)[i]? =some l:=by rw[rY o];exact hi
 conv=>rhs;rw[kE e]
 rw[List.flatten_append,List.flatten_cons,iQ,iQ,List.take_take,Nat.min_eq_left (Nat.le_of_lt o)];omega
theorem FG {i k j m:Nat}{l r:List α}(hi:L[i]? =some l)(C:k<l.length)(o:L[j]? =some r)(hm:m<r.length)(e:(L.take i).flatten.length+k=(L.take j).flatten.length+m):i=j∧k=m:=by
 rcases Nat.lt_trichotomy i j with h|h|h;·have:=BS hi h;omega
 ·subst h;exact⟨rfl,by omega⟩
 have:=BS o h;omega
theorem pF:∀ {L:List (List α)} {n:Nat} {x:α},L.flatten[n]? =some x→∃i k l,L[i]? =some l∧l[k]? =some x∧n=(L.take i).flatten.length+k
 | [],n,x,h=>by simp at h
 |l::L,n,x,h=>by(
 rw[List.flatten_cons] at h;by_cases j:n<l.length
 ·rw[ma j] at h
  exact⟨0,n,l,rfl,h,by simp⟩
 rw[kH (by omega)] at h;obtain⟨i,k,r,o,C,I⟩:=pF h;exact⟨i+1,k,r,by simpa using o,C,by rw[List.take_succ_cons,List.flatten_cons,iQ];omega⟩)
end
def og (l:List bz):Nat:=(l.filter fun x=>decide (x.dst≠-1)).length
structure gY (b:aw):Prop where
 par:0≤b.params∧b.params≤6
 blk:1≤b.Ng.length∧b.Ng.length≤64
 some_:∀l∈b.Ng,1≤l.length∧11≤(iW l).kind∧(iW l).kind≤13
 ref:∀l∈b.Ng,(iW l).kind=11∨(iW l).kind=12→0≤(iW l).ref∧(iW l).ref<b.Ng.length
 Ni:∀l∈b.Ng,(iW l).kind=12→0≤(iW l).Ni∧(iW l).Ni<b.Ng.length
 args:∀l∈b.Ng,∀x∈l,∀a∈x.args,0≤a∧a<b.vars
 Nh:∀l∈b.Ng,∀x∈l,∀a∈x.Nh,0≤a∧a<b.Ng.length
 phi:∀l∈b.Ng,∀x∈l,x.kind=3→x.Nh.length=x.args.length∧1≤x.Nh.length∧x.Nh.length≤64
 dst:∀l∈b.Ng,∀x∈l,x.dst= -1∨b.params≤x.dst∧x.dst<b.vars
 once:∀(v:Int) (i k j m:Nat),v≠-1→jF b v i k→jF b v j m→i=j∧k=m
 all:∀v,b.params≤v→v<b.vars→∃i k,jF b v i k
 num:b.vars=b.params+og b.Ng.flatten
theorem yk {p:aH}{c:aE}{b:aw}{next:Int}{x:bz}(h:aT p c b next x)(C:0≤next):x.dst=(if cz x=true then next else-1)∧(cz x=true↔x.dst≠-1):=by
 obtain⟨n,d,r,a,l,j,_⟩:=h;have o:cz x=d:=by unfold cz;rw[l]
 rw[o];refine⟨j,?_⟩;rw[j];cases d;·simp
 simp only[if_true,true_iff,ne_eq];omega
theorem CL {l:List bz}(h:∀x∈l,cz x=true↔x.dst≠-1):cj l=og l:=by rw[co];unfold og;congr 1;refine List.filter_congr fun x j=>?_;rw[Bool.eq_iff_iff,h x j,iH]
theorem lC {l:List bz}(h:1≤l.length):iW l∈l∧l[l.length-1]? =some (iW l):=by
 have j:l.length-1<l.length:=by omega
 have:l[l.length-1]? =some (iW l):=by unfold iW;rw[iG,lG j];rfl
 exact⟨mG this,this⟩
theorem Kj {p:aH}{c:aE}{b:aw}(h:qi p c b):gY b:=by
 obtain⟨h1,h2,h3,h4,h5,h6,h7⟩:=h;have hn:∀(m:Nat),0≤b.params+(cj (b.Ng.flatten.take m):Int):=fun m=>by omega
 have J:∀l∈b.Ng,∀x∈l,∃next,0≤next∧aT p c b next x:=by intro l o x I;obtain⟨i,hi⟩:=cY.1 o;obtain⟨k,C⟩:=cY.1 I;exact⟨_,hn _,h6 _ x (lF hi C)⟩
 have b5:∀x∈b.Ng.flatten,cz x=true↔x.dst≠-1:=by intro x I;obtain⟨l,o,I⟩:=List.mem_flatten.1 I;obtain⟨next,h0,ho⟩:=J l o x I;exact(yk ho h0).2
 have a7:∀(k:Nat) x,b.Ng.flatten[k]? =some x→x.dst=if cz x=true then b.params+cj (b.Ng.flatten.take k) else-1:=fun k x I=>(yk (h6 k x I) (hn k)).1;have R:∀k m:Nat,k≤m→cj (b.Ng.flatten.take k)≤cj (b.Ng.flatten.take m):=by(
 intro k m b6;have:b.Ng.flatten.take m=b.Ng.flatten.take k++(b.Ng.flatten.take m).drop k:=by have:=(List.take_append_drop k (b.Ng.flatten.take m)).symm;rwa [List.take_take,Nat.min_eq_left b6] at this
 rw[this,co,co,mE,iQ];omega)
 have Y:∀(k:Nat) x,b.Ng.flatten[k]? =some x→cz x=true→cj (b.Ng.flatten.take (k+1))=cj (b.Ng.flatten.take k)+1:=by intro k x C Z;rw[cU,C,co,co,mE,iQ];simp[Z]
 have a6:∀l∈b.Ng,1≤l.length∧11≤(iW l).kind:=by
  intro l o;obtain⟨s1,s2,_⟩:=h5 l o;have a8:1≤l.length:=by(
 cases l;·simp at s1
 simp)
  refine⟨a8,(s2 (l.length-1) (iW l).kind ?_).2 (by rw[ce];omega)⟩;rw[cL,(lC a8).2];rfl
 have b0:∀l∈b.Ng,∀x∈l,1≤x.kind∧x.kind≤13:=by intro l o x I;obtain⟨next,_,n,d,r,a,e,_⟩:=J l o x I;unfold cw at e;split at e<;>first|(cases e;done)|omega|(rename_i C;rw[C];omega)
 refine⟨⟨h1,h2⟩,⟨h3,h4⟩,fun l o=>⟨(a6 l o).1,(a6 l o).2,(b0 l o _ (lC (a6 l o).1).1).2⟩,fun l o C=>?_,fun l o C=>?_,fun l o x I=>?_,fun l o x I=>?_,fun l o x I C=>?_,fun l o x I=>?_,?_,?_,?_⟩
 ·obtain⟨next,_,n,d,r,a,e,_,_,_,_,_,_,hr,_⟩:=J l o _ (lC (a6 l o).1).1;have b7:r=true:=by rcases C with C|C<;>rw[C] at e<;>cases e<;>rfl
  have:=hr b7;have hm:cW p c b (iW l).kind=b.Ng.length:=by rcases C with C|C<;>rw[C]<;>rfl
  rwa [hm] at this
 ·obtain⟨next,_,n,d,r,a,e,_,_,_,_,_,_,_,ha,_⟩:=J l o _ (lC (a6 l o).1).1
  have b8:a=true:=by rw[C] at e;cases e;rfl
  exact ha b8
 ·obtain⟨next,_,n,d,r,a,e,_,_,_,_,_,_,_,_,_,hA,_⟩:=J l o x I
  exact hA
 ·obtain⟨next,_,n,d,r,a,e,_,_,_,_,_,_,_,_,_,_,hF⟩:=J l o x I
  exact hF
 ·obtain⟨next,_,n,d,r,a,e,_,_,_,_,_,_,_,_,hc,_⟩:=J l o x I
  rwa [ap C] at hc
 ·obtain⟨i,hi⟩:=cY.1 o;obtain⟨k,C⟩:=cY.1 I;have hg:=lF hi C;have e:=a7 _ x hg;by_cases Z:cz x=true;·rw[ap Z] at e;have e1:=Y _ x hg Z;have e2:=R ((b.Ng.take i).flatten.length+k+1) b.Ng.flatten.length (lS.1 hg).1;rw[dZ] at e2;right;omega
  rw[ae Z] at e;exact .inl e
 ·(
 rintro v i k j m hv ⟨l,x,a1,a2,a3⟩ ⟨r,y,b1,b2,b3⟩;have g1:=lF a1 a2;have g2:=lF b1 b2;have e1:=a7 _ x g1;have e2:=a7 _ y g2;have f1:cz x=true:=by
  by_cases Z:cz x=true;·exact Z
  rw[ae Z] at e1;omega
 have f2:cz y=true:=by
  by_cases Z:cz y=true;·exact Z
  rw[ae Z] at e2;omega
 rw[ap f1] at e1;rw[ap f2] at e2;have n1:=Y _ x g1 f1;have n2:=Y _ y g2 f2;refine FG a1 (lS.1 a2).1 b1 (lS.1 b2).1 ?_;rcases Nat.lt_trichotomy ((b.Ng.take i).flatten.length+k) ((b.Ng.take j).flatten.length+m) with b4|heq|b4;·have:=R (((b.Ng.take i).flatten.length+k)+1) _ b4;omega
 ·exact heq
 have:=R (((b.Ng.take j).flatten.length+m)+1) _ b4;omega)
 ·intro v c0 c1;have hr:=uT h1 b.Ng.flatten a7;have hm:v∈(b.Ng.flatten.filter fun x=>decide (0≤x.dst)).map fun x=>x.dst:=by rw[hr];refine dr.2 ⟨(v-b.params).toNat,fg.2 ?_,?_⟩<;>omega
  obtain⟨x,I,rfl⟩:=dr.1 hm;obtain⟨n,b9⟩:=cY.1 (List.mem_filter.1 I).1;obtain⟨i,k,l,a1,a2,_⟩:=pF b9;exact⟨i,k,l,x,a1,a2,rfl⟩
 rw[h7,CL b5]
end
section
section
variable {ll:List (List Int)} {k:Nat} {l:List Int}
theorem lq {a b:Nat}(h:dH ll a b):a<ll.length:=by obtain⟨row,h,_⟩:=h;exact(lS.1 h).1
theorem tx (i k:Nat):(di ll i k).Pairwise (·<·):=by unfold di;refine List.pairwise_map.2 ((List.Pairwise.filter _ List.pairwise_lt_range).imp fun h=>?_);omega
def mP (ll:List (List Int))(l:List Int)(k:Nat):Prop:=l.Nodup∧∀a,a∈l↔∃i:Nat,a=i∧dH ll i k
theorem pT:mP ll (di ll ll.length k) k:=by
 refine⟨(tx _ _).imp fun h=>by omega,fun a=>?_⟩;rw[jc];constructor;·rintro⟨i,e,_,h⟩;exact⟨i,e,h⟩
 rintro⟨i,e,h⟩;exact⟨i,e,lq h,h⟩
theorem rg {l m:List Int}(h:l.Perm m):mP ll l k↔mP ll m k:=by unfold mP;rw[h.nodup_iff];simp only[h.mem_iff]
theorem xp {s:List Int}(I:s.Perm l)(J:s.Pairwise (·≤·)):s=di ll ll.length k↔mP ll l k:=by
 constructor
 ·rintro rfl
  exact(rg I).1 pT
 intro h;have j:=(rg I).2 h;have o:mP ll (di ll ll.length k) k:=pT;have C:s.Perm (di ll ll.length k):=(List.perm_ext_iff_of_nodup j.1 o.1).2 fun a=>by rw[j.2,o.2]
 exact C.eq_of_pairwise (fun a b _ _ j o=>by omega) J ((tx _ _).imp fun h=>by omega)
def uh (l:List Int)(m:Nat):Nat:=(l.filter fun a:Int=>decide (a<(m:Int))).length
theorem uP (h:∀a∈l,0≤a)(m:Nat):uh l (m+1)=uh l m+l.count (m:Int):=by
 unfold uh;induction l with
 |nil=>rfl
 |cons a l j=>
  have j:=j fun b I=>h b (List.mem_cons_of_mem _ I);have J:=h a (List.mem_cons_self ..);rw[List.filter_cons,List.filter_cons,List.count_cons];by_cases o:a<m;·rw[ap (by simp;omega),ap (by simpa using o),kI,kI,j,ae (by simp;omega)];omega
  by_cases C:a=m;·rw[ap (by simp;omega),ae (by simpa using o),kI,j,ap (by simp[C])];omega
  rw[ae (by simp;omega),ae (by simpa using o),j,ae (by simp[C]),dj]
theorem KT (h:∀a∈l,0≤a):uh l 0=0:=by unfold uh;rw[List.length_eq_zero_iff,List.filter_eq_nil_iff];intro a j;have:=h a j;simp;omega
theorem Fk {n:Nat}(h:∀a∈l,a<n):uh l n=l.length:=by unfold uh;rw[List.filter_eq_self.2 fun a j=>by simpa using h a j]
open Classical in
theorem xe (h:∀a∈l,0≤a∧a<ll.length):mP ll l k↔∀i:Nat,i<ll.length→l.count (i:Int)=if dH ll i k then 1 else 0:=by
 constructor
 ·rintro⟨C,J⟩ i _;by_cases hi:dH ll i k
  ·rw[ap hi]
   have c1:=List.nodup_iff_count.1 C (i:Int);have c2:=List.count_pos_iff.2 ((J i).2 ⟨i,rfl,hi⟩);omega
  rw[ae hi];refine List.count_eq_zero.2 fun hm=>?_;obtain⟨j,e,Y⟩:=(J i).1 hm;have:i=j:=by omega
  subst this;exact hi Y
 intro I;refine⟨List.nodup_iff_count.2 fun a=>?_,fun a=>⟨fun o=>?_,?_⟩⟩
 ·by_cases o:a∈l
  ·obtain⟨Z,C⟩:=h a o;have:=I a.toNat (by omega);rw[show((a.toNat:Nat):Int)=a by omega] at this;rw[this];split<;>omega
  rw[List.count_eq_zero.2 o];omega
 ·obtain⟨Z,C⟩:=h a o;refine⟨a.toNat,by omega,?_⟩;have:=I a.toNat (by omega);rw[show((a.toNat:Nat):Int)=a by omega] at this;by_cases R:dH ll a.toNat k;·exact R
  rw[ae R] at this;exact absurd o (List.count_eq_zero.1 this)
 rintro⟨i,rfl,hi⟩;have:=I i (lq hi);rw[ap hi] at this;exact List.count_pos_iff.1 (by omega)
end
theorem mp {b:aw}{x:bz}{blk:Nat}:lZ b x blk↔mP (bM b) x.Nh blk:=Iff.rfl
theorem Cn {b:aw}{i:Nat}{l:List bz}(h:b.Ng[i]? =some l):(bM b)[i]? =some (eJ (iW l)):=by unfold bM;rw[cL,h];rfl
theorem cS (b:aw):(bM b).length=b.Ng.length:=by simp[bM]
theorem gd {b:aw}(h:gY b):aP (bM b):=by
 refine⟨by rw[cS];exact h.blk.1,by rw[cS];have:=h.blk.2;omega,fun row R=>?_⟩;rw[cS];obtain⟨l,I,rfl⟩:=dr.1 R;have J:=h.ref l I;have Y:=h.Ni l I;unfold eJ;by_cases o:(iW l).kind=12∧(iW l).Ni≠(iW l).ref
 ·rw[ap o];have r1:=J (.inr o.1);have r2:=Y o.1;refine⟨fun k j=>?_,?_⟩
  ·rcases fX.1 j with rfl|j
   ·exact r1
   rw[cx.1 j];exact r2
  rw[List.nodup_cons,cx];exact⟨fun e=>o.2 e.symm,by simp⟩
 rw[ae o];by_cases C:(iW l).kind=12∨(iW l).kind=11
 ·rw[ap C]
  have r1:=J C.symm;refine⟨fun k j=>?_,by simp⟩;rw[cx.1 j];exact r1
 rw[ae C];exact⟨fun k j=>by(cases j),by simp⟩
end
theorem DO {ll:List (List Int)}{a:Nat}(j:a<ll.length):(dB ll)[a]? =some (en ll a):=by simp[dB,j]
theorem nU {ll:List (List Int)}{a b:Nat}(j:b<ll.length):(en ll a)[b]? =some (ay ll a b):=by simp[en,j]
theorem gU (ll:List (List Int)):(dB ll).length=ll.length:=by simp[dB]
theorem oX (ll:List (List Int))(a:Nat):(en ll a).length=ll.length:=by simp[en]
theorem io {S:Nat→Prop}{w:World}{A:Option Addr}{n c:Nat}{ll:List (List Int)}(h:jE S w (.slice A n c) (dB ll)){a b:Nat}(ha:a<ll.length)(hb:b<ll.length):
 ∃j J l R Y,A=some ⟨j,J,none⟩∧S j∧w.cell? ⟨j,J+a,none⟩=some (.slice (some ⟨l,R,none⟩) ll.length Y)∧ll.length≤Y∧S l∧w.cell? ⟨l,R+b,none⟩=some (.bool (ay ll a b)):=by
 obtain⟨A',cap,hv,_,_,_,h⟩:=h;injection hv with e1 e2 e3;subst e1;obtain⟨j,J,c1,hA,Z,o,A2,C,rfl,I,_,_,h2⟩:=h a _ (DO ha);obtain⟨l,R,Y,a1,a6,a7,hE⟩:=h2 b _ (nU hb);subst a1;rw[oX] at o I;exact⟨j,J,l,R,C,hA,Z,o,I,a6,by rw[a7];exact congrArg some hE⟩
theorem vS (S:Nat→Prop)(ll:List (List Int))(o:Value)(C a b:Nat)(w:World)(l:al w C 61 #[o])(I:jE S w o (dB ll))(J:a<ll.length)(R:b<ll.length)(_:ll.length≤256):
 Calls prog 28 #[.int .i64 a,.int .i64 b,.pointer (some ⟨C,0,none⟩)] w fun e w'=>e=.returned (.bool (eB ll a b))∧w=w':=by
 have Y:=l.cell 0;have j:=I;obtain⟨A,cap,rfl,_⟩:=I;rw[gU] at j Y;obtain⟨b1,o1,b2,o2,c2,rfl,_,h1,a1,_,h2⟩:=io j J R;obtain⟨a6,a7,b3,o3,c3,he,_,h3,a8,_,h4⟩:=io j R J;cases he;simp only[gc] at Y;have Z:eB ll a b=(ay ll a b&&ay ll b a):=rfl;have HS:=oH Z;clear j Z l;generalize ay ll a b=p at*;generalize ay ll b a=q at*;cases p
 ·go_enter func28,ntmps28
  go_wp2;go_ret;exact⟨by rw[HS.out];rfl,rfl⟩
 go_enter func28,ntmps28;go_wp2;go_ret;exact⟨by rw[HS.out];rfl,rfl⟩
theorem st (A:Option Addr)(n cap:Nat)(w:World)(l:n≤cap)(o:cap≤9223372036854775807):Calls prog 30 #[.slice A n cap] w fun e j=>e=.returned (.slice A n n)∧w=j:=by
 have C:n≤9223372036854775807:=by omega
 go_enter func30,ntmps30;go_wp2;go_ret;exact⟨rfl,rfl⟩
noncomputable def qw (ll:List (List Int))(a k:Nat):List Int:=((List.range k).filter (eB ll a)).map fun(n:Nat)=>(n:Int)
theorem Jh {ll:List (List Int)}{a k:Nat}(h:eB ll a k=true):qw ll a (k+1)=qw ll a k++[(k:Int)]:=by simp[qw,List.range_succ,h]
theorem KZ {ll:List (List Int)}{a k:Nat}(h:eB ll a k=false):qw ll a (k+1)=qw ll a k:=by simp[qw,List.range_succ,h]
theorem Jg (ll:List (List Int))(a k:Nat):(qw ll a k).length≤k:=by unfold qw;rw[ce];exact fR (List.length_filter_le _ _) (by simp)
theorem La {ll:List (List Int)}{a k:Nat}(l:k≤256):∀x∈qw ll a k,(Lit.int .i64 x).wf=true:=by intro x j;simp only[qw,dr,List.mem_filter,fg] at j;obtain⟨n,⟨o,_⟩,rfl⟩:=j;exact WalkArith.wf_i64 (by omega)
structure LW (ll:List (List Int))(A:Option Addr)(c:Nat)(vb:Value)(xt xb g xs:Nat)(told:Nat→Bool)(w:World):Prop where
 tou:al w xt 32 #[.slice A ll.length c]
 been:al w xb 61 #[vb]
 told:al w g 69 (az 256 told)
 same:al w xs 68 #[.func (.func 28) #[] #[.pointer (some ⟨xb,0,none⟩)]]
 rows:jE (fun b=>b≠g) w vb (dB ll)
theorem DP (ll:List (List Int))(A:Option Addr)(c:Nat)(vb:Value)(xt xb g xs a:Nat)(told:Nat→Bool)(w:World)(env:LW ll A c vb xt xb g xs told w)(ha:a<ll.length)(hl:ll.length≤256):
 Calls prog 29 #[.int .i64 a,.pointer (some ⟨xt,0,none⟩),.pointer (some ⟨xb,0,none⟩),.pointer (some ⟨g,0,none⟩),.pointer (some ⟨xs,0,none⟩)] w fun e w'=>e=.returned (.bool (dm ll told a))∧w=w':=by
 have a6:=env.tou.cell 0;have a1:=env.been.cell 0;have a7:=env.same.cell 0;have C:=env.rows;have j:=C;obtain⟨Ab,cb,rfl,_⟩:=C;rw[gU] at j a1;simp only[gc] at a6 a1 a7;have I:=fun b (hb:b<ll.length)=>vS _ ll _ xb a b w env.been env.rows ha hb hl;have J:=fun k (hk:k<256)=>(env.told.cell k).trans (bj hk);have HE:=J4 env j I J;clear env j I J;go_enter func29,ntmps29;go_wp2;go_loopg [10] ll.length (fun gg i wr=>∃k:Nat,k≤ll.length∧gg=ll.length-k∧i=.int .i64 k∧w=wr∧∀b,b<k→ay ll a b=true→told b=true∨eB ll a b=true);·exact⟨0,by omega,by omega,rfl,rfl,fun b hb=>by omega⟩
 obtain⟨k,hk,rfl,rfl,rfl,R⟩:=hrel;have HD:=oH R;clear R;by_cases Z:k<ll.length;·(
 obtain⟨b1,o1,b2,o2,c2,rfl,_,h1,a8,_,h2⟩:=io HE.2.1 ha Z;have h3:=HE.2.2.2 k (by omega);cases hp:ay ll a k with
 |false=>
  rw[hp] at h2;have Hp:=oH hp;clear hp;go_wp2;go_roundg (ll.length-(k+1))
  ·refine⟨k+1,by omega,rfl,by go_num,rfl,fun b hb Y=>?_⟩;by_cases e:b=k;·subst e;rw[Hp.out] at Y;cases Y
   exact HD.out b (by omega) Y
  omega
 |true=>
  rw[hp] at h2;have Hp:=oH hp;clear hp;cases l:told k with
  |true=>
   rw[l] at h3;have Ht:=oH l;clear l;go_wp2;go_roundg (ll.length-(k+1))
   ·refine⟨k+1,by omega,rfl,by go_num,rfl,fun b hb Y=>?_⟩;by_cases e:b=k;·subst e;exact .inl Ht.out
    exact HD.out b (by omega) Y
   omega
  |false=>
   rw[l] at h3;have Ht:=oH l;clear l;have o:=HE.2.2.1 k Z;cases hs:eB ll a k with
   |true=>
    rw[hs] at o;have HC:=J2 o hs;clear o hs;go_wp2_with (go_at_call 28;refine HC.1.mono ?_;rintro e w' ⟨rfl,rfl⟩);go_roundg (ll.length-(k+1))
    ·refine⟨k+1,by omega,rfl,by go_num,rfl,fun b hb Y=>?_⟩;by_cases e:b=k;·subst e;exact .inr HC.2
     exact HD.out b (by omega) Y
    omega
   |false=>
    rw[hs] at o;have HC:=J2 o hs;clear o hs;go_wp2_with (go_at_call 28;refine HC.1.mono ?_;rintro e w' ⟨rfl,rfl⟩);go_ret;have hn:dm ll told a=false:=by(
 cases h:dm ll told a with
 |false=>rfl
 |true=>
  rcases (gV.1 h).2 k Z Hp.out with h|h;·rw[Ht.out] at h;cases h
  rw[HC.2] at h;cases h)
    exact⟨by rw[hn];rfl,rfl⟩)
 have h3:=HE.2.2.2 a (by omega);cases l:told a with
 |true=>
  rw[l] at h3;have hn:dm ll told a=false:=by simp[dm,l]
  have Hn:=oH hn;clear l hn;go_wp2;go_ret;exact⟨by rw[Hn.out];rfl,rfl⟩
 |false=>rw[l] at h3;have hn:dm ll told a=true:=gV.2 ⟨l,fun b hb Y=>HD.out b (by omega) Y⟩;have Hn:=oH hn;clear l hn;go_wp2;go_ret;exact⟨by rw[Hn.out];rfl,rfl⟩
end Go.Proofs.YtceloincoomjeaaGreatDoor
