/- Part 8 of the proof of CallsTo (its last part says what is proved). No condition. -/
import Derived.Test.YtceloincoomjeaaGreatDoorK6
namespace Go.Proofs.YtceloincoomjeaaGreatDoor
set_option maxRecDepth 100000
set_option maxHeartbeats 8000000
open Go.RowKit Go.Proofs.Tryz
section
inductive ig (t:Nat→Int):Nat→Nat→Prop
 |refl (j:Nat):ig t j j
 |up {j p x:Nat}:t j=(p:Int)→ig t p x→ig t j x
theorem ig.trans {t:Nat→Int}{a b c:Nat}(h:ig t a b)(k:ig t b c):ig t a c:=by
 induction h with
 |refl=>exact k
 |up e _ j=>exact .up e (j k)
def my (t:Nat→Int)(j:Nat):Prop:=j=0∨0≤t j
structure zJ (E:Nat→Nat→Prop)(n:Nat)(pl:Nat→Nat):Prop where
 pos:0<n
 zero:pl 0=0
 inj:∀a b,a<n→b<n→pl a=pl b→a=b
 lt:∀a,a<n→pl a<n
 edge:∀a b,E a b→a<n∧b<n
 fwd:∀k,k<n→k≠0→∃p,E p k∧pl p<pl k
structure fU (n:Nat)(pl:Nat→Nat)(t:Nat→Int):Prop where
 zero:t 0= -1
 low:∀j,j<n→0≤t j→∃p:Nat,t j=p∧p<n∧pl p<pl j∧my t p
 neg:∀j,j<n→-1≤t j
inductive Ez (E:Nat→Nat→Prop) (pl:Nat→Nat) (x:Nat):Nat→Prop
 |zero:x≠0→Ez E pl x 0
 |step {a b:Nat}:Ez E pl x a→E a b→pl a<pl b→b≠x→Ez E pl x b
inductive gA (E:Nat→Nat→Prop) (x:Nat):Nat→Prop
 |zero:x≠0→gA E x 0
 |step {a b:Nat}:gA E x a→E a b→b≠x→gA E x b
inductive Kz (E:Nat→Nat→Prop) (pl:Nat→Nat) (z:Nat):Nat→Prop
 |refl:Kz E pl z z
 |step {a b:Nat}:Kz E pl z a→E a b→pl a<pl b→Kz E pl z b
theorem Kz.le {E:Nat→Nat→Prop}{pl:Nat→Nat}{z j:Nat}(h:Kz E pl z j):pl z≤pl j∧(z=j∨pl z<pl j):=by
 induction h with
 |refl=>exact⟨cf _,.inl rfl⟩
 |step _ _ l o=>omega
section
variable {E:Nat→Nat→Prop} {n:Nat} {pl:Nat→Nat} (O:zJ E n pl)
include O
theorem Mn (z:Nat):∀(m j:Nat),pl j≤m→j<n→Ez E pl z j∨Kz E pl z j:=by
 intro m;induction m with
 |zero=>
  intro j hm C;have:j=0:=O.inj j 0 C O.pos (by have:=O.zero;omega);subst this;by_cases l:z=0;·subst l;exact .inr .refl
  exact .inl (.zero l)
 |succ m J=>
  intro j hm C;by_cases I:j=0
  ·subst I;by_cases l:z=0;·subst l;exact .inr .refl
   exact .inl (.zero l)
  obtain⟨p,he,o⟩:=O.fwd j C I;rcases J p (by omega) (O.edge _ _ he).1 with h|h
  ·by_cases l:j=z;·subst l;exact .inr .refl
   exact .inl (.step h he o l)
  exact .inr (.step h he o)
theorem BQ {z j:Nat}(l:j<n)(h:¬Ez E pl z j):Kz E pl z j:=(Mn O z _ j (cf _) l).resolve_left h
theorem wM {z j:Nat}(l:j<n)(h:¬Ez E pl z j):z=j∨pl z<pl j:=(BQ O l h).le.2
omit O in
theorem Jb {x j:Nat}(h:Ez E pl x j):gA E x j:=by
 induction h with
 |zero h=>exact .zero h
 |step _ e _ l o=>exact .step o e l
theorem ID {x z j:Nat}(o:j<n)(h:¬gA E x j)(C:¬Ez E pl z j)(I:pl x<pl z):¬gA E x z:=by
 intro J;apply h;have R:=BQ O o C;clear h C o;induction R with
 |refl=>exact J
 |step l e hl Y=>have:=l.le.1;refine .step Y e fun Z=>?_;subst Z;omega
theorem zW {x j:Nat}(l:j<n)(h:¬gA E x j):x=j∨pl x<pl j:=wM O l fun h'=>h (Jb h')
end
section
variable {n:Nat} {pl:Nat→Nat} {t:Nat→Int}
theorem oL (G:fU n pl t){j x:Nat}(C:j<n)(h:ig t j x):x<n∧(x=j∨pl x<pl j):=by
 induction h with
 |refl=>exact⟨C,.inl rfl⟩
 |up e _ I=>
  obtain⟨p,l,J,o,_⟩:=G.low _ C (by omega);rw[e] at l;have l:=Int.ofNat.inj l;subst l;have:=I J;refine⟨this.1,.inr ?_⟩;rcases this.2 with h|h;·rw[h];exact o
  omega
theorem zQ (G:fU n pl t){j x:Nat}(l:j<n)(h:ig t j x):pl x≤pl j:=by
 rcases (oL G l h).2 with h|h;·rw[h];exact cf _
 omega
theorem BL (G:fU n pl t){j x:Nat}(C:j<n)(o:my t j)(h:ig t j x):my t x:=by
 induction h with
 |refl=>exact o
 |up e _ I=>obtain⟨p,l,o,J,R⟩:=G.low _ C (by omega);rw[e] at l;have l:=Int.ofNat.inj l;subst l;exact I o R
theorem oM (_:fU n pl t){j x p:Nat}(_:j<n)(e:t j=(p:Int))(h:ig t j x):x=j∨ig t p x:=by
 cases h with
 |refl=>exact .inl rfl
 |up l h'=>rw[e] at l;have l:=Int.ofNat.inj l;subst l;exact .inr h'
theorem eY {s u:Nat→Int}{m:Nat}(G:fU n pl u)(J:∀j,pl j<m→s j=u j){z:Nat}(R:z<n)(hm:pl z<m)(x:Nat):ig s z x↔ig u z x:=by
 constructor
 ·intro h;induction h with
  |refl=>exact .refl _
  |up e _ o=>rw[J _ hm] at e;obtain⟨p,l,C,I,Y⟩:=G.low _ R (by omega);rw[e] at l;have l:=Int.ofNat.inj l;subst l;exact .up e (o C (by omega))
 intro h;induction h with
 |refl=>exact .refl _
 |up e _ o=>obtain⟨p,l,C,I,Y⟩:=G.low _ R (by omega);rw[e] at l;have l:=Int.ofNat.inj l;subst l;rw[←J _ hm] at e;exact .up e (o C (by omega))
theorem vz (G:fU n pl t){a b:Nat}(J:a<n)(R:b<n)(o:my t a)(Y:pl b<pl a)(h0:pl 0=0):∃p:Nat,t a=p∧p<n∧my t p∧pl p<pl a∧∀x,(ig t a x∧ig t b x)↔(ig t p x∧ig t b x):=by
 have C:0≤t a:=by
  rcases o with rfl|h;·omega
  exact h
 obtain⟨p,e,Z,j,hq⟩:=G.low a J C;refine⟨p,e,Z,hq,j,fun x=>⟨fun⟨I,l⟩=>⟨?_,l⟩,fun⟨I,l⟩=>⟨.up e I,l⟩⟩⟩;rcases oM G J e I with rfl|h;·have:=zQ G R l;omega
 exact h
end
def ml (pl:Nat→Nat)(m:Nat)(u t:Nat→Int):Nat→Int:=fun j=>if pl j<m then u j else t j
def Io (E:Nat→Nat→Prop)(s:Nat→Int)(k:Nat)(v:Int):Prop:=∃c:Nat,v=c∧∀x,ig s c x↔∀p,E p k→my s p→ig s p x
structure gQ (E:Nat→Nat→Prop)(n:Nat)(pl:Nat→Nat)(t u:Nat→Int)(m:Nat):Prop where
 old:∀j,m≤pl j→u j=t j
 near:∀k,k<n→k≠0→pl k<m→Io E (ml pl (pl k) u t) k (u k)
structure Cu (E:Nat→Nat→Prop)(n:Nat)(pl:Nat→Nat)(t:Nat→Int):Prop where
 good:fU n pl t
 up:∀j,j<n→my t j→∀x,ig t j x→¬Ez E pl x j
 hi:∀j,j<n→my t j→∀y x,¬Ez E pl y j→ig t j x→pl x<pl y→ig t y x
 lo:∀j,j<n→my t j→∀x,¬gA E x j→ig t j x
def EM (n:Nat)(t u:Nat→Int):Prop:=∀j,j<n→my t j→∀x,ig u j x→ig t j x
section
variable {E:Nat→Nat→Prop} {n:Nat} {pl:Nat→Nat} (O:zJ E n pl)
include O
omit O in
theorem mn {u t:Nat→Int}{m j:Nat}(h:pl j<m):ml pl m u t j=u j:=ap h
omit O in
theorem ky {u t:Nat→Int}{m j:Nat}(h:m≤pl j):ml pl m u t j=t j:=ae (by omega)
omit O in
theorem Gh {t u:Nat→Int}{m:Nat}(h:gQ E n pl t u m):ml pl m u t=u:=by
 funext j;by_cases l:pl j<m;·exact mn l
 rw[ky (by omega),h.old j (by omega)]
theorem DF {t u:Nat→Int}{k:Nat}{v:Int}(h:gQ E n pl t u (pl k))(J:k<n)(R:Io E u k v):gQ E n pl t (fun j=>if j=k then v else u j) (pl k+1):=by
 refine⟨fun j C=>?_,fun o I Y Z=>?_⟩
 ·have l:j≠k:=fun e=>by subst e;omega
  simp only[ae l];exact h.old j (by omega)
 have hm:ml pl (pl o) (fun j=>if j=k then v else u j) t=ml pl (pl o) u t:=by(
 funext j;unfold ml;by_cases C:pl j<pl o
 ·rw[ap C,ap C]
  have l:j≠k:=fun e=>by subst e;omega
  exact ae l
 rw[ae C,ae C])
 rw[hm];by_cases e:o=k
 ·subst e
  rw[Gh h,ap rfl];exact R
 rw[ae e];refine h.near o I Y ?_;have:pl o≠pl k:=fun e'=>e (O.inj _ _ I J e');omega
omit O in
theorem GA (t:Nat→Int)(m:Nat)(h:∀k,k<n→k≠0→m≤pl k):gQ E n pl t t m:=⟨fun _ _=>rfl,fun k j l o=>by have:=h k j l;omega⟩
theorem Db {u:Nat→Int}{k:Nat}{v:Int}(G:fU n pl u)(hk:k<n)(Z:k≠0)(hf:∃p,E p k∧pl p<pl k∧my u p)(hv:Io E u k v):fU n pl (fun j=>if j=k then v else u j)∧∃c:Nat,v=c∧c<n∧pl c<pl k:=by
 obtain⟨c,rfl,hc⟩:=hv;obtain⟨p,he,a1,Y⟩:=hf;have o:=(O.edge _ _ he).1;have C:=(hc c).1 (.refl _) p he Y;have I:=oL G o C;have a6:=zQ G o C;have R:=BL G o Y C;have l:∀j,my u j→my (fun j=>if j=k then(c:Int) else u j) j:=by(
 intro j J;by_cases e:j=k;·exact .inr (by simp only[ap e];omega)
 rcases J with h|h;·exact .inl h
 exact .inr (by simp only[ae e];exact h))
 refine⟨⟨?_,fun j J h=>?_,fun j J=>?_⟩,c,rfl,I.1,by omega⟩;·simp only[ae Z.symm];exact G.zero
 ·by_cases e:j=k
  ·subst e
   refine⟨c,ap rfl,I.1,by omega,l c R⟩
  simp only[ae e] at h⊢;obtain⟨q,e1,e2,e3,e4⟩:=G.low j J h;exact⟨q,e1,e2,e3,l q e4⟩
 by_cases e:j=k;·simp only[ap e];omega
 simp only[ae e];exact G.neg j J
omit O in
theorem js {t u:Nat→Int}{m:Nat}(h:gQ E n pl t u m):∀j,j<n→pl j<m→my u j:=by
 intro j o hm;by_cases l:j=0;·exact .inl l
 obtain⟨c,e,_⟩:=h.near j o l hm;exact .inr (by rw[e];omega)
theorem yP {t u:Nat→Int}(G:fU n pl u)(h:gQ E n pl t u n){k p x:Nat}(C:k<n)(h0:k≠0)(he:E p k)(o:pl p<pl k)(J:ig u k x):x=k∨ig u p x:=by
 obtain⟨c,e,hc⟩:=h.near k C h0 (O.lt k C);rcases oM G C e J with rfl|J;·exact .inl rfl
 right;have l:=(O.edge _ _ he).1;obtain⟨c',I,R,Y,_⟩:=G.low k C (by omega);rw[e] at I;have I:=Int.ofNat.inj I;subst I;have Z:∀j,pl j<pl k→ml pl (pl k) u t j=u j:=fun j hj=>mn hj;have h1:=(eY G Z R Y x).2 J;have hp:my (ml pl (pl k) u t) p:=by
  rcases js h p l (O.lt p l) with h|h;·exact .inl h
  exact .inr (by rw[mn o];exact h)
 exact(eY G Z l o x).1 ((hc x).1 h1 p he hp)
theorem qu {s t:Nat→Int}{k:Nat}(G:fU n pl t)(h0:0<pl k)(hs:∀j,pl k≤pl j→s j=t j):∀(m p:Nat),pl p≤m→p<n→my t p→pl k≤pl p→
 ∃z,z<n∧ig t p z∧pl z<pl k∧(∀x,pl x<pl k→(ig s p x↔ig s z x))∧∀x,pl x<pl k→(ig t p x↔ig t z x):=by
 intro m;induction m with
 |zero=>intro p hm I hq J;omega
 |succ m ih=>
  intro p hm I hq J;have R:0≤t p:=by(
 rcases hq with rfl|h;·have:=O.zero;omega
 exact h)
  obtain⟨q,e,o,a1,Y⟩:=G.low p I R;have e1:∀x,pl x<pl k→(ig s p x↔ig s q x):=by(
 intro x l;constructor
 ·intro h
  cases h with
  |refl=>omega
  |up C h'=>rw[hs p J,e] at C;have C:=Int.ofNat.inj C;subst C;exact h'
 intro h;exact .up (by rw[hs p J];exact e) h)
  have e2:∀x,pl x<pl k→(ig t p x↔ig t q x):=by(
 intro x l;constructor
 ·intro h
  rcases oM G I e h with rfl|h;·omega
  exact h
 intro h;exact .up e h)
  by_cases Z:pl q<pl k;·exact⟨q,o,.up e (.refl _),Z,e1,e2⟩
  obtain⟨z,z1,z2,z3,z4,z5⟩:=ih q (by omega) o Y (by omega);exact⟨z,z1,.up e z2,z3,fun x l=>(e1 x l).trans (z4 x l),fun x l=>(e2 x l).trans (z5 x l)⟩
theorem Mr {t:Nat→Int}(o:∀j,j<n→t j= -1):Cu E n pl t:=by
 have I:∀j,j<n→my t j→j=0:=by
  intro j l h;rcases h with h|h;·exact h
  rw[o j l] at h;omega
 have Y:∀x,ig t 0 x→x=0:=by
  intro x h;cases h with
  |refl=>rfl
  |up e _=>rw[o 0 O.pos] at e;omega
 refine⟨⟨o 0 O.pos,fun j l h=>(by rw[o j l] at h;omega),fun j l=>(by rw[o j l];omega)⟩,fun j l h x C=>?_,fun j l h y x _ C J=>?_,fun j l h x C=>?_⟩
 ·have:=I j l h;subst this;rw[Y x C];intro h;cases h with
  |zero h=>exact h rfl
  |step _ _ _ h=>exact h rfl
 ·have:=I j l h;subst this;by_cases R:y=0;·rw[R,O.zero] at J;omega
  rename_i Z;exact absurd (.zero R) Z
 have:=I j l h;subst this;by_cases e:x=0;·subst e;exact .refl _
 exact absurd (.zero e) C
theorem GB {t u:Nat→Int}(L:Cu E n pl t)(G:fU n pl u)(h:gQ E n pl t u n):Cu E n pl u:=by
 have hU:∀(m j:Nat),pl j≤m→j<n→∀x,ig u j x→¬Ez E pl x j:=by(
 intro m;induction m with
 |zero=>
  intro j hm l x C hf;have:j=0:=O.inj j 0 l O.pos (by have:=O.zero;omega);subst this;have Z:x=0:=by(
 cases C with
 |refl=>rfl
 |up e _=>rw[G.zero] at e;omega)
  subst Z;cases hf with
  |zero h=>exact h rfl
  |step _ _ _ h=>exact h rfl
 |succ m ih=>
  intro j hm l x C hf;by_cases Y:j=0;·(
 subst Y;have Z:x=0:=by
  cases C with
  |refl=>rfl
  |up e _=>rw[G.zero] at e;omega
 subst Z;cases hf with
 |zero h=>exact h rfl
 |step _ _ _ h=>exact h rfl)
  cases hf with
  |zero h=>exact Y rfl
  |step a8 he I b0=>
   rcases yP O G h l Y he I C with e|h1;·exact b0 e.symm
   exact ih _ (by omega) (O.edge _ _ he).1 x h1 a8)
 refine⟨G,fun j l _=>hU _ j (cf _) l,?_,?_⟩
 ·have:∀(m j:Nat),pl j≤m→j<n→∀y x,¬Ez E pl y j→ig u j x→pl x<pl y→ig u y x:=by(
 intro m;induction m with
 |zero=>
  intro j hm l y x hy C I;have:=wM O l hy;rcases this with rfl|h;·exact C
  omega
 |succ m ih=>
  intro j hm l y x hy C I;rcases wM O l hy with rfl|b7;·exact C
  have Y:j≠0:=fun e=>by subst e;have:=O.zero;omega
  obtain⟨p,he,a1⟩:=O.fwd j l Y;rcases yP O G h l Y he a1 C with e|h1;·subst e;omega
  refine ih p (by omega) (O.edge _ _ he).1 y x (fun hf=>?_) h1 I;by_cases e:j=y;·subst e;omega
  exact hy (.step hf he a1 e))
  exact fun j l _=>this _ j (cf _) l
 have:∀(m j:Nat),pl j≤m→j<n→∀x,¬gA E x j→ig u j x:=by(
 intro m;induction m with
 |zero=>
  intro j hm l x C;rcases zW O l C with e|h';·subst e;exact .refl _
  omega
 |succ m ih=>
  intro k hm hk x C;rcases zW O hk C with e|a6;·subst e;exact .refl _
  have Y:k≠0:=fun e=>by subst e;have:=O.zero;omega
  have b1:0<pl k:=by omega
  obtain⟨c,e,hc⟩:=h.near k hk Y (O.lt k hk);obtain⟨c',e',b2,b3,_⟩:=G.low k hk (by omega);rw[e] at e';have e':=Int.ofNat.inj e';subst e';have hs:∀j,pl j<pl k→ml pl (pl k) u t j=u j:=fun j l=>mn l;refine .up e ((eY G hs b2 b3 x).1 ((hc x).2 fun p he hp=>?_));have o:=(O.edge _ _ he).1;have J:¬gA E x p:=fun hr=>by(
 by_cases e2:k=x;·subst e2;omega
 exact C (.step hr he e2))
  by_cases b4:pl p<pl k;·exact(eY G hs o b4 x).2 (ih p (by omega) o x J)
  have R:my t p:=by(
 rcases hp with h|h;·exact .inl h
 exact .inr (by rw[ky (by omega)] at h;exact h))
  have b5:=L.lo p o R x J;obtain⟨z,z1,z2,z3,z4,z5⟩:=qu O (s:=ml pl (pl k) u t) L.good b1 (fun j l=>ky l) _ p (cf _) o R (by omega);refine(z4 x a6).2 ((eY G hs z1 z3 x).2 (ih z (by omega) z1 x ?_));have b6:=(z5 x a6).1 b5;rcases (oL L.good z1 b6).2 with e2|a7;·(
 subst e2;intro hr;have b8:=L.up p o R x z2;have:=zW O o J;exact absurd hr (by
  intro hr;cases hr with
  |zero h=>exact h rfl
  |step _ _ h=>exact h rfl))
  exact ID O o J (L.up p o R z z2) a7)
 exact fun j l _=>this _ j (cf _) l
theorem DE {t0 t u:Nat→Int}(L0:Cu E n pl t0)(L:Cu E n pl t)(h0:gQ E n pl t0 t n)(M:EM n t0 t)(G:fU n pl u)(h:gQ E n pl t u n):EM n t u:=by
 have:∀(m k:Nat),pl k≤m→k<n→∀x,ig u k x→ig t k x:=by(
 intro m;induction m with
 |zero=>
  intro k hm o x hx;have:k=0:=O.inj k 0 o O.pos (by have:=O.zero;omega);subst this;cases hx with
  |refl=>exact .refl _
  |up e _=>rw[G.zero] at e;omega
 |succ m ih=>
  intro k hm o x hx;by_cases I:k=0
  ·subst I;cases hx with
   |refl=>exact .refl _
   |up e _=>rw[G.zero] at e;omega
  have a8:0<pl k:=by have:pl k≠pl 0:=fun e=>I (O.inj _ _ o O.pos e);have:=O.zero;omega
  obtain⟨c,e,hc⟩:=h.near k o I (O.lt k o);rcases oM G o e hx with rfl|b0;·exact .refl _
  obtain⟨c',e',b1,b6,_⟩:=G.low k o (by omega);rw[e] at e';have e':=Int.ofNat.inj e';subst e';have J:pl x<pl k:=by have:=zQ G b1 b0;omega
  have hs:∀j,pl j<pl k→ml pl (pl k) u t j=u j:=fun j Y=>mn Y;have b2:=(hc x).1 ((eY G hs b1 b6 x).2 b0);obtain⟨d,ed,hd⟩:=h0.near k o I (O.lt k o);obtain⟨d',R,b7,b8,_⟩:=L.good.low k o (by omega);rw[ed] at R;have R:=Int.ofNat.inj R;subst R;have Z:∀j,pl j<pl k→ml pl (pl k) t t0 j=t j:=fun j Y=>mn Y;refine .up ed ((eY L.good Z b7 b8 x).1 ((hd x).2 fun p he hp=>?_));have l:=(O.edge _ _ he).1;have a1:my t p:=js h0 p l (O.lt p l);have b9:my u p:=js h p l (O.lt p l);by_cases a6:pl p<pl k
  ·have a7:my (ml pl (pl k) u t) p:=by(
 rcases b9 with h|h;·exact .inl h
 exact .inr (by rw[mn a6];exact h))
   exact(eY L.good Z l a6 x).2 (ih p (by omega) l x ((eY G hs l a6 x).1 (b2 p he a7)))
  have C:my t0 p:=by(
 rcases hp with h|h;·exact .inl h
 exact .inr (by rw[ky (by omega)] at h;exact h))
  have a7:my (ml pl (pl k) u t) p:=by(
 rcases a1 with h|h;·exact .inl h
 exact .inr (by rw[ky (by omega)];exact h))
  obtain⟨y,y1,y2,y3,y4,y5⟩:=qu O (s:=ml pl (pl k) u t) L.good a8 (fun j Y=>ky Y) _ p (cf _) l a1 (by omega);have c0:=ih y (by omega) y1 x ((eY G hs y1 y3 x).1 ((y4 x J).1 (b2 p he a7)));have b3:=(y5 x J).2 c0;have b4:=M p l C x b3;obtain⟨z,z1,z2,z3,z4,z5⟩:=qu O (s:=ml pl (pl k) t t0) L0.good a8 (fun j Y=>ky Y) _ p (cf _) l C (by omega);refine(z4 x J).2 ((eY L.good Z z1 z3 x).2 ?_);rcases (oL L0.good z1 ((z5 x J).1 b4)).2 with e2|b5;·subst e2;exact .refl _
  exact L.hi p l a1 z x (L0.up p l C z z2) b3 b5)
 exact fun k o _ x hx=>this _ k (cf _) o x hx
def rR (E:Nat→Nat→Prop)(n:Nat)(pl:Nat→Nat)(t:Nat→Int):Prop:=Cu E n pl t∧∀u,fU n pl u→gQ E n pl t u n→EM n t u
theorem Jr {t:Nat→Int}(l:∀j,j<n→t j= -1):rR E n pl t:=by
 refine⟨Mr O l,fun u G _ j o C x I=>?_⟩;have:j=0:=by
  rcases C with h|h;·exact h
  rw[l j o] at h;omega
 subst this;cases I with
 |refl=>exact .refl _
 |up e _=>rw[G.zero] at e;omega
theorem sN {t u:Nat→Int}(K:rR E n pl t)(G:fU n pl u)(h:gQ E n pl t u n):rR E n pl u:=by have L:=GB O K.1 G h;exact⟨L,fun v j l=>DE O K.1 L h (K.2 u G h) j l⟩
theorem BK {t:Nat→Int}(K:rR E n pl t)(h:gQ E n pl t t n){j x:Nat}(o:j<n):ig t j x↔¬gA E x j:=by
 have C:∀j,j<n→my t j:=fun j o=>js h j o (O.lt j o);constructor;·(
 intro I hr;have G:=K.1.good;clear K;revert I;induction hr with
 |zero l=>
  intro I;cases I with
  |refl=>exact l rfl
  |up e _=>rw[G.zero] at e;omega
 | @step a b a1 he l ih=>
   intro I;have Y:=(O.edge _ _ he).1;by_cases J:b=0;·(
 subst J;cases I with
 |refl=>exact l rfl
 |up e _=>rw[G.zero] at e;omega)
   obtain⟨c,e,Z⟩:=h.near b o J (O.lt b o);have hm:ml pl (pl b) t t=t:=by funext i;unfold ml;split<;>rfl
   rw[hm] at Z;rcases oM G o e I with e2|R;·exact l e2.symm
   exact ih Y ((Z x).1 R a he (C a Y)))
 exact fun I=>K.1.lo j o (C j o) x I
def xd (pl:Nat→Nat)(n:Nat)(t:Nat→Int):Nat→Nat
 |0=>0
 |k+1=>xd pl n t k+if t k<0 then n else pl (t k).toNat
theorem GH {t u:Nat→Int}(K:rR E n pl t)(G:fU n pl u)(h:gQ E n pl t u n):∀k,k≤n→xd pl n u k≤xd pl n t k∧((∃j,j<k∧u j≠t j)→xd pl n u k<xd pl n t k):=by
 have M:=K.2 u G h;intro k;induction k with
 |zero=>intro _;exact⟨cf _,fun⟨j,hj,_⟩=>by omega⟩
 |succ k ih=>
  intro hk;obtain⟨a1,I⟩:=ih (by omega);have l:k<n:=by omega
  have o:u k=t k∨(if u k<0 then n else pl (u k).toNat)<(if t k<0 then n else pl (t k).toNat):=by(
 by_cases Z:k=0;·subst Z;left;rw[G.zero,K.1.good.zero]
 have hu:0≤u k:=(js h k l (O.lt k l)).resolve_left Z;obtain⟨c,e,J,a6,_⟩:=G.low k l hu;by_cases ht:t k<0
 ·right
  rw[ap ht,ae (by omega),e,dP];exact O.lt c J
 obtain⟨d,R,Y,a7,_⟩:=K.1.good.low k l (by omega);have:=M k l (.inr (by omega)) c (.up e (.refl _));rcases oM K.1.good l R this with e3|h3;·subst e3;omega
 rcases (oL K.1.good Y h3).2 with e4|h4;·subst e4;left;rw[e,R]
 right;rw[ae ht,ae (by omega),e,R,dP,dP];exact h4)
  simp only[xd];refine⟨?_,fun⟨j,hj,C⟩=>?_⟩
  ·rcases o with e|h1;·rw[e];omega
   omega
  rcases o with e|h1;·have a8:j≠k:=fun e'=>C (by rw[e'];exact e);have:=I ⟨j,by omega,C⟩;rw[e];omega
  omega
end
end
section
def eJ (x:bz):List Int:=if x.kind=12∧x.Ni≠x.ref then [x.ref,x.Ni] else if x.kind=12∨x.kind=11 then [x.ref] else []
def Mv:bz:=⟨0,0,0,0,0,[],[],0,0⟩
def iW (l:List bz):bz:=l.getD (l.length-1) Mv
def bM (b:aw):List (List Int):=b.Ng.map fun l=>eJ (iW l)
def fQ (b:aw)(k:Nat):Int:=((b.Ng.getD k []).getD 0 Mv).Nj
def jF (b:aw)(v:Int)(i k:Nat):Prop:=∃l x,b.Ng[i]? =some l∧l[k]? =some x∧x.dst=v
def jl (b:aw)(v:Int)(blk:Nat):Prop:=v<b.params∨∃i k,jF b v i k∧¬gA (dH (bM b)) i blk
def iP (b:aw)(v:Int)(blk at':Nat):Prop:=v<b.params∨∃i k,jF b v i k∧if i=blk then k<at' else¬gA (dH (bM b)) i blk
def lZ (b:aw)(x:bz)(blk:Nat):Prop:=x.Nh.Nodup∧∀a,a∈x.Nh↔∃i:Nat,a=i∧dH (bM b) i blk
open Classical in
noncomputable def uo (b:aw)(i k:Nat)(x:bz):Int:=
 if x.kind=3 then(if lZ b x i then(if∀(m:Nat) v f,x.args[m]? =some v→x.Nh[m]? =some f→jl b v f.toNat then 0 else 19) else 18)
 else if∀v∈x.args,iP b v i k then 0 else 19
def ls (f:Nat→Nat→bz→Int)(L:List (List bz)):Int×Int:=(((L.mapIdx fun i l=>l.mapIdx fun k x=>(x.Nj,f i k x)).flatten.find? fun t=>decide (t.2≠0)).getD (0,0))
theorem yj {f:Nat→Nat→bz→Int}{L:List (List bz)}(h:∀(i:Nat) l,L[i]? =some l→∀(k:Nat) x,l[k]? =some x→f i k x=0):ls f L=(0,0):=by
 unfold ls;rw[List.find?_eq_none.2];·rfl
 intro t j;obtain⟨r,o,j⟩:=List.mem_flatten.1 j;obtain⟨i,hi,rfl⟩:=List.mem_mapIdx.1 o;obtain⟨k,C,rfl⟩:=List.mem_mapIdx.1 j;simp[h i _ (lG hi) k _ (lG C)]
theorem sB {α:Type}{p:α→Bool}{l r:List α}{x:α}(h:∀y∈l,p y=false)(j:p x=true):(l++x::r).find? p=some x:=by
 induction l with
 |nil=>simp[j]
 |cons a l o=>rw[List.cons_append,List.find?_cons,h a (List.mem_cons_self ..)];exact o fun y C=>h y (List.mem_cons_of_mem _ C)
theorem kE {α:Type}{l:List α}{i:Nat}{x:α}(h:l[i]? =some x):l=l.take i++x::l.drop (i+1):=by obtain⟨hi,rfl⟩:=lS.1 h;rw[List.getElem_cons_drop,List.take_append_drop]
theorem uY {f:Nat→Nat→bz→Int}{L:List (List bz)}{i k:Nat}{l:List bz}{x:bz}(hi:L[i]? =some l)(Y:l[k]? =some x)
 (Z:∀j,j<i→∀m,L[j]? =some m→∀(k:Nat) y,m[k]? =some y→f j k y=0) (hl:∀j,j<k→∀y,l[j]? =some y→f i j y=0) (hx:f i k x≠0):ls f L=(x.Nj,f i k x):=by
 unfold ls;have e1:(L.mapIdx fun i l=>l.mapIdx fun k x=>(x.Nj,f i k x))[i]? =some (l.mapIdx fun k x=>(x.Nj,f i k x)):=by rw[jA,hi];rfl
 have e2:(l.mapIdx fun k x=>(x.Nj,f i k x))[k]? =some (x.Nj,f i k x):=by rw[jA,Y];rfl
 rw[kE e1,List.flatten_append,List.flatten_cons,kE e2,jM,List.cons_append,←jM,sB];·rfl
 ·(
 intro t C;rcases eD.1 C with C|C
 ·obtain⟨r,hr,C⟩:=List.mem_flatten.1 C;obtain⟨j,o⟩:=cY.1 hr;have I:j<i:=by have:=(lS.1 o).1;rw[fN] at this;omega
  rw[rY I,jA] at o;cases hm:L[j]? with
  |none=>rw[hm] at o;cases o
  |some m=>rw[hm] at o;cases o;obtain⟨n,hn,rfl⟩:=List.mem_mapIdx.1 C;simp[Z j I m hm n _ (lG hn)]
 obtain⟨j,o⟩:=cY.1 C;have J:j<k:=by have:=(lS.1 o).1;rw[fN] at this;omega
 rw[rY J,jA] at o;cases R:l[j]? with
 |none=>rw[R] at o;cases o
 |some y=>rw[R] at o;cases o;simp[hl j J y R])
 simp[hx]
def kO (ll:List (List Int))(k:Nat):Prop:=k<ll.length∧¬aQ ll 0 k
def iN (ll:List (List Int))(k:Nat):Prop:=k<ll.length∧¬∃e,aQ ll k e∧ll[e]? =some []
open Classical in
noncomputable def cV (P:Nat→Prop)(n:Nat):Int:=match (List.range n).find? fun k=>decide (P k) with|some k=>k|none=> -1
theorem hZ {P:Nat→Prop}{n:Nat}(h:∀k,k<n→¬P k):cV P n= -1:=by unfold cV;rw[List.find?_eq_none.2];intro k j;simp[h k (fg.1 j)]
theorem lO {P:Nat→Prop}{n k:Nat}(o:k<n)(h:∀j,j<k→¬P j)(C:P k):cV P n=k:=by
 unfold cV;rw[kE (show(List.range n)[k]? =some k by rw[ln o]),sB]
 ·intro y l
  rw[List.take_range] at l;have:=fg.1 l;simp[h y (by omega)]
 simp[C]
theorem jX (P:Nat→Prop)(n:Nat):(cV P n= -1∧∀k,k<n→¬P k)∨∃k:Nat,cV P n=k∧k<n∧P k∧∀j,j<k→¬P j:=by
 by_cases h:∃k,k<n∧P k
 ·obtain⟨k,⟨C,l⟩,hm⟩:∃k,(k<n∧P k)∧∀j,j<k→¬(j<n∧P j):=by(
 obtain⟨R,Y⟩:=h;induction R using Nat.strongRecOn with
 |ind m Z=>
  by_cases o:∃j,j<m∧(j<n∧P j)
  ·obtain⟨j,o,l⟩:=o
   exact Z j o l
  exact⟨m,Y,fun j I l=>o ⟨j,I,l⟩⟩)
  exact .inr ⟨k,lO C (fun j o l=>hm j o ⟨by omega,l⟩) l,C,l,fun j o J=>hm j o ⟨by omega,J⟩⟩
 exact .inl ⟨hZ fun k C l=>h ⟨k,C,l⟩,fun k C l=>h ⟨k,C,l⟩⟩
open Classical in
noncomputable def oh (b:aw):Int×Int:=
 if 0≤cV (kO (bM b)) b.Ng.length then(fQ b (cV (kO (bM b)) b.Ng.length).toNat,16)
 else if 0≤cV (iN (bM b)) b.Ng.length then(fQ b (cV (iN (bM b)) b.Ng.length).toNat,17)
 else if∃i,dH (bM b) i 0 then(fQ b 0,18)
 else ls (uo b) b.Ng
noncomputable def ov:List aw→Nat→Int×Int×Int
 | [],_=>(0,0,0)
 |b::l,i=>if(oh b).2≠0 then(i,(oh b).1,(oh b).2) else ov l (i+1)
def jH (c:aE):Prop:=∀b∈c.Nf,(oh b).2=0
theorem mc:∀ {l:List aw} {i:Nat},(∀b∈l,(oh b).2=0)→ov l i=(0,0,0)
 | [],_,_=>rfl
 |b::l,i,h=>by rw[ov,ae (by rw[h b (List.mem_cons_self ..)];simp)];exact mc fun c j=>h c (List.mem_cons_of_mem _ j)
theorem su:∀ {l:List aw} {i k:Nat} {b:aw},l[k]? =some b→(∀j,j<k→∀c,l[j]? =some c→(oh c).2=0)→(oh b).2≠0→ov l i=(((i+k:Nat):Int),(oh b).1,(oh b).2)
 | [],_,_,_,h,_,_=>by simp at h
 |c::l,i,0,b,h,_,o=>by cases h;rw[ov,ap o];rfl
 |c::l,i,k+1,b,h,C,o=>by rw[ov,ae (by rw[C 0 (by omega) c rfl];simp),su (l:=l) (i:=i+1) (k:=k) (by simpa using h) (fun j J d I=>C (j+1) (by omega) d (by simpa using I)) o];congr 2;omega
end
section
section
variable (ll:List (List Int))
noncomputable def eB (a b:Nat):Bool:=ay ll a b&&ay ll b a
noncomputable def dm (told:Nat→Bool)(a:Nat):Bool:=!told a&&(List.range ll.length).all fun b=>!ay ll a b||told b||eB ll a b
noncomputable def Al (a:Nat):List Nat:=(List.range ll.length).filter (eB ll a)
noncomputable def nk (a:Nat):List Int:=(Al ll a).map fun(n:Nat)=>(n:Int)
noncomputable def eC (told:Nat→Bool)(a:Nat):Nat→Bool:=fun k=>told k||(decide (k<ll.length)&&eB ll a k)
noncomputable def gm:Nat→(Nat→Bool)→List (List Int)
 |0,_=>[]
 |m+1,told=>match (List.range ll.length).find? (dm ll told) with
  |none=>[]
  |some a=>nk ll a::gm m (eC ll told a)
noncomputable def bC:List (List Int):=gm ll (ll.length+1) fun _=>false
end
section
variable {ll:List (List Int)}
theorem lf (a:Nat):ay ll a a=true:=aY.2 .refl
theorem gr {a b c:Nat}(h:ay ll a b=true)(k:ay ll b c=true):ay ll a c=true:=aY.2 ((aY.1 h).trans (aY.1 k))
theorem Bc (a:Nat):eB ll a a=true:=by simp[eB,lf]
theorem et {a b:Nat}:eB ll a b=true↔ay ll a b=true∧ay ll b a=true:=by simp[eB]
theorem Bd {a b:Nat}(h:eB ll a b=true):eB ll b a=true:=et.2 ⟨(et.1 h).2,(et.1 h).1⟩
theorem zm {a b c:Nat}(h:eB ll a b=true)(k:eB ll b c=true):eB ll a c=true:=
 et.2 ⟨gr (et.1 h).1 (et.1 k).1,gr (et.1 k).2 (et.1 h).2⟩
theorem gV {told:Nat→Bool}{a:Nat}:dm ll told a=true↔told a=false∧∀b,b<ll.length→ay ll a b=true→told b=true∨eB ll a b=true:=by
 simp only[dm,gE,Bool.not_eq_true',List.all_eq_true,fg,Bool.or_eq_true,and_congr_right_iff];intro _;constructor
 ·intro h b j l;rcases h b j with (h|h)|h;·rw[l] at h;cases h
  ·exact .inl h
  exact .inr h
 intro h b j;cases l:ay ll a b with
 |false=>exact .inl (.inl rfl)
 |true=>rcases h b j l with h|h
        ·exact .inl (.inr h)
        exact .inr h
theorem lD {n:Nat}{p:Nat→Bool}:((List.range n).find? p=none∧∀a,a<n→p a=false)∨∃a,(List.range n).find? p=some a∧a<n∧p a=true∧∀b,b<a→p b=false:=by
 cases h:(List.range n).find? p with
 |none=>left;refine⟨rfl,fun a J=>?_⟩;have:=List.find?_eq_none.1 h a (fg.2 J);simpa using this
 |some a=>
  right;rw[List.find?_eq_some_iff_append] at h;obtain⟨R,j,Y,he,I⟩:=h;have l:j.length<n:=by have:=congrArg List.length he;simp at this;omega
  have o:∀i,i<j.length→j[i]? =some i:=by intro i hi;have C:(List.range n)[i]? =some i:=ln (by omega);rw[he,ma hi] at C;exact C
  have J:a=j.length:=by have C:(List.range n)[j.length]? =some j.length:=ln l;rw[he,kH (cf _)] at C;simpa using C
  refine⟨a,rfl,by omega,R,fun b Z=>?_⟩;have:=I b (mG (o b (by omega)));simpa using this
theorem zz {told:Nat→Bool}{a k:Nat}(h:told k=true):eC ll told a k=true:=by simp[eC,h]
theorem mr {told:Nat→Bool}{a:Nat}(j:a<ll.length)(l:told a=false):ph ll.length (eC ll told a)<ph ll.length told:=by
 refine Nat.lt_of_le_of_lt (ly ll.length (p:=nX told a) fun k o h=>?_) (jj _ j l);by_cases e:k=a;·subst e;simp[eC,Bc,j]
 rw[fd e] at h;exact zz h
theorem jP {m:Nat}{told:Nat→Bool}(h:(List.range ll.length).find? (dm ll told)=none):gm ll m told=[]:=by
 cases m with
 |zero=>rfl
 |succ m=>simp[gm,h]
theorem iv {m:Nat}{told:Nat→Bool}{a:Nat}(h:(List.range ll.length).find? (dm ll told)=some a):gm ll (m+1) told=nk ll a::gm ll m (eC ll told a):=by simp[gm,h]
noncomputable def oe (ll:List (List Int)):Nat→Nat→Nat
 |0,_=>0
 |n+1,a=>oe ll n a+if ay ll a n then 1 else 0
theorem BN {a b:Nat}(h:ay ll a b=true):∀n,oe ll n b≤oe ll n a
 |0=>cf _
 |n+1=>by(
 have j:=BN h n;unfold oe;cases l:ay ll b n with
 |true=>rw[gr h l];simp;exact j
 |false=>cases ay ll a n<;>simp<;>omega)
theorem wC {a b:Nat}(h:ay ll a b=true)(j:ay ll b a=false):∀n,a<n→oe ll n b<oe ll n a
 |0,h=>by omega
 |n+1,C=>by(
 unfold oe;by_cases e:a=n
 ·subst e
  have l:=BN h a;rw[j,lf];simp;omega
 have l:=wC h j n (by omega);cases o:ay ll b n with
 |true=>rw[gr h o];simp;exact l
 |false=>cases ay ll a n<;>simp<;>omega)
theorem GN {told:Nat→Bool}(m:Nat):∀x,x<ll.length→told x=false→oe ll ll.length x≤m→∃a,a<ll.length∧dm ll told a=true:=by
 induction m with
 |zero=>
  intro x l Y Z;have j:∀n,x<n→0<oe ll n x:=by(
 intro n;induction n with
 |zero=>omega
 |succ n I=>
  intro h;unfold oe;by_cases e:x=n;·subst e;rw[lf];simp
  have:=I (by omega);omega)
  have:=j _ l;omega
 |succ m I=>
  intro x l Y Z;by_cases h:dm ll told x=true;·exact⟨x,l,h⟩
  have h':∃b,b<ll.length∧ay ll x b=true∧told b=false∧eB ll x b=false:=by(
 apply Classical.byContradiction;intro J;apply h;rw[gV];refine⟨Y,fun b R o=>?_⟩;cases j:told b with
 |true=>exact .inl rfl
 |false=>
  cases C:eB ll x b with
  |true=>exact .inr rfl
  |false=>exact absurd ⟨b,R,o,j,C⟩ J)
  obtain⟨b,R,o,j,C⟩:=h';have h3:ay ll b x=false:=by(
 cases h4:ay ll b x with
 |false=>rfl
 |true=>rw[et.2 ⟨o,h4⟩] at C;cases C)
  have:=wC o h3 _ l;exact I b R j (by omega)
theorem AU {told:Nat→Bool}{x:Nat}(l:x<ll.length)(o:told x=false):∃a,(List.range ll.length).find? (dm ll told)=some a∧a<ll.length∧dm ll told a=true∧∀b,b<a→dm ll told b=false:=by
 obtain⟨a,C,j⟩:=GN _ x l o (cf _);rcases lD (n:=ll.length) (p:=dm ll told) with ⟨_,h⟩|h;·rw[h a C] at j;cases j
 exact h
def ET (ll:List (List Int))(told:Nat→Bool):Prop:=∀x y,y<ll.length→told x=true→eB ll x y=true→told y=true
theorem Bz {told:Nat→Bool}{a:Nat}(h:ET ll told):ET ll (eC ll told a):=by
 intro x y l j o;unfold eC at j⊢;simp only[Bool.or_eq_true,gE,iH] at j⊢;rcases j with j|⟨_,j⟩;·exact .inl (h x y l j o)
 exact .inr ⟨l,zm j o⟩
end
end
end Go.Proofs.YtceloincoomjeaaGreatDoor
