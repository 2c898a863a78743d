/- Part 7 of the proof (its last part says what is proved). No condition. -/
import Derived.Deep.DeepCutAuto
import Derived.StillTailTactics
import Derived.RangeFuncNested
import Derived.RangeFuncBound
import Derived.Shelf.RegionOpen
import Derived.OwnWalkIn
import Derived.LoopNIn
import Derived.LoopIn
import Derived.Test.YtgdlhckhpolnnaaGreatDoorK5
namespace Go.Proofs.YtgdlhckhpolnnaaGreatDoor
set_option maxRecDepth 100000
set_option maxHeartbeats 8000000
open Go.RowKit Go.Proofs.Tryz
section
inductive ig (t:Nat→Int):Nat→Nat→Prop
 |refl (j:Nat):ig t j j
 |up {j p x:Nat}:t j=(p:Int)→ig t p x→ig t j x
def my (t:Nat→Int)(j:Nat):Prop:=j=0∨0≤t j
structure zJ (E:Nat→Nat→Prop)(n:Nat)(pl:Nat→Nat):Prop where
 pos:0<n
 zero:pl 0=0
 inj:∀a b,a<n→b<n→pl a=pl b→a=b
 lt:∀a,a<n→pl a<n
 edge:∀a b,E a b→a<n∧b<n
 fwd:∀k,k<n→k≠0→∃p,E p k∧pl p<pl k
structure fU (n:Nat)(pl:Nat→Nat)(t:Nat→Int):Prop where
 zero:t 0= -1
 low:∀j,j<n→0≤t j→∃p:Nat,t j=p∧p<n∧pl p<pl j∧my t p
 neg:∀j,j<n→-1≤t j
inductive Ez (E:Nat→Nat→Prop) (pl:Nat→Nat) (x:Nat):Nat→Prop
 |zero:x≠0→Ez E pl x 0
 |step {a b:Nat}:Ez E pl x a→E a b→pl a<pl b→b≠x→Ez E pl x b
inductive gA (E:Nat→Nat→Prop) (x:Nat):Nat→Prop
 |zero:x≠0→gA E x 0
 |step {a b:Nat}:gA E x a→E a b→b≠x→gA E x b
inductive Kz (E:Nat→Nat→Prop) (pl:Nat→Nat) (z:Nat):Nat→Prop
 |refl:Kz E pl z z
 |step {a b:Nat}:Kz E pl z a→E a b→pl a<pl b→Kz E pl z b
theorem Kz.le {E:Nat→Nat→Prop}{pl:Nat→Nat}{z j:Nat}(h:Kz E pl z j):pl z≤pl j∧(z=j∨pl z<pl j):=by
 induction h with
 |refl=>exact⟨cf _,.inl rfl⟩
 |step _ _ o C=>omega
section
variable {E:Nat→Nat→Prop} {n:Nat} {pl:Nat→Nat} (O:zJ E n pl)
include O
theorem Mn (z:Nat):∀(m j:Nat),pl j≤m→j<n→Ez E pl z j∨Kz E pl z j:=by
 intro m;induction m with
 |zero=>
  intro j hm I;have:j=0:=O.inj j 0 I O.pos (by have:=O.zero;omega);subst this;by_cases o:z=0;·subst o;exact .inr .refl
  exact .inl (.zero o)
 |succ m R=>
  intro j hm I;by_cases J:j=0
  ·subst J;by_cases o:z=0;·subst o;exact .inr .refl
   exact .inl (.zero o)
  obtain⟨p,he,C⟩:=O.fwd j I J;rcases R p (by omega) (O.edge _ _ he).1 with h|h
  ·by_cases o:j=z;·subst o;exact .inr .refl
   exact .inl (.step h he C o)
  exact .inr (.step h he C)
theorem BQ {z j:Nat}(o:j<n)(h:¬Ez E pl z j):Kz E pl z j:=(Mn O z _ j (cf _) o).resolve_left h
theorem wM {z j:Nat}(o:j<n)(h:¬Ez E pl z j):z=j∨pl z<pl j:=(BQ O o h).le.2
omit O in
theorem Jb {x j:Nat}(h:Ez E pl x j):gA E x j:=by
 induction h with
 |zero h=>exact .zero h
 |step _ e _ o C=>exact .step C e o
theorem ID {x z j:Nat}(C:j<n)(h:¬gA E x j)(I:¬Ez E pl z j)(J:pl x<pl z):¬gA E x z:=by
 intro hr;apply h;have R:=BQ O C I;clear h I C;induction R with
 |refl=>exact hr
 |step o e hl Y=>have:=o.le.1;refine .step Y e fun hx=>?_;subst hx;omega
theorem zW {x j:Nat}(o:j<n)(h:¬gA E x j):x=j∨pl x<pl j:=wM O o fun h'=>h (Jb h')
end
section
variable {n:Nat} {pl:Nat→Nat} {t:Nat→Int}
theorem oL (G:fU n pl t){j x:Nat}(I:j<n)(h:ig t j x):x<n∧(x=j∨pl x<pl j):=by
 induction h with
 |refl=>exact⟨I,.inl rfl⟩
 |up e _ J=>
  obtain⟨p,o,R,C,_⟩:=G.low _ I (by omega);rw[e] at o;have o:=Int.ofNat.inj o;subst o;have:=J R;refine⟨this.1,.inr ?_⟩;rcases this.2 with h|h;·rw[h];exact C
  omega
theorem zQ (G:fU n pl t){j x:Nat}(o:j<n)(h:ig t j x):pl x≤pl j:=by
 rcases (oL G o h).2 with h|h;·rw[h];exact cf _
 omega
theorem BL (G:fU n pl t){j x:Nat}(I:j<n)(C:my t j)(h:ig t j x):my t x:=by
 induction h with
 |refl=>exact C
 |up e _ J=>obtain⟨p,o,C,R,Y⟩:=G.low _ I (by omega);rw[e] at o;have o:=Int.ofNat.inj o;subst o;exact J C Y
theorem oM (_:fU n pl t){j x p:Nat}(_:j<n)(e:t j=(p:Int))(h:ig t j x):x=j∨ig t p x:=by
 cases h with
 |refl=>exact .inl rfl
 |up o h'=>rw[e] at o;have o:=Int.ofNat.inj o;subst o;exact .inr h'
theorem eY {s u:Nat→Int}{m:Nat}(G:fU n pl u)(R:∀j,pl j<m→s j=u j){z:Nat}(Y:z<n)(hm:pl z<m)(x:Nat):ig s z x↔ig u z x:=by
 constructor
 ·intro h;induction h with
  |refl=>exact .refl _
  |up e _ C=>rw[R _ hm] at e;obtain⟨p,o,I,J,hq⟩:=G.low _ Y (by omega);rw[e] at o;have o:=Int.ofNat.inj o;subst o;exact .up e (C I (by omega))
 intro h;induction h with
 |refl=>exact .refl _
 |up e _ C=>obtain⟨p,o,I,J,hq⟩:=G.low _ Y (by omega);rw[e] at o;have o:=Int.ofNat.inj o;subst o;rw[←R _ hm] at e;exact .up e (C I (by omega))
theorem vz (G:fU n pl t){a b:Nat}(J:a<n)(R:b<n)(C:my t a)(Y:pl b<pl a)(h0:pl 0=0):∃p:Nat,t a=p∧p<n∧my t p∧pl p<pl a∧∀x,(ig t a x∧ig t b x)↔(ig t p x∧ig t b x):=by
 have I:0≤t a:=by
  rcases C with rfl|h;·omega
  exact h
 obtain⟨p,e,hp,j,hq⟩:=G.low a J I;refine⟨p,e,hp,hq,j,fun x=>⟨fun⟨h1,o⟩=>⟨?_,o⟩,fun⟨h1,o⟩=>⟨.up e h1,o⟩⟩⟩;rcases oM G J e h1 with rfl|h;·have:=zQ G R o;omega
 exact h
end
def ml (pl:Nat→Nat)(m:Nat)(u t:Nat→Int):Nat→Int:=fun j=>if pl j<m then u j else t j
def Io (E:Nat→Nat→Prop)(s:Nat→Int)(k:Nat)(v:Int):Prop:=∃c:Nat,v=c∧∀x,ig s c x↔∀p,E p k→my s p→ig s p x
structure gQ (E:Nat→Nat→Prop)(n:Nat)(pl:Nat→Nat)(t u:Nat→Int)(m:Nat):Prop where
 old:∀j,m≤pl j→u j=t j
 near:∀k,k<n→k≠0→pl k<m→Io E (ml pl (pl k) u t) k (u k)
structure Cu (E:Nat→Nat→Prop)(n:Nat)(pl:Nat→Nat)(t:Nat→Int):Prop where
 good:fU n pl t
 up:∀j,j<n→my t j→∀x,ig t j x→¬Ez E pl x j
 hi:∀j,j<n→my t j→∀y x,¬Ez E pl y j→ig t j x→pl x<pl y→ig t y x
 lo:∀j,j<n→my t j→∀x,¬gA E x j→ig t j x
def EM (n:Nat)(t u:Nat→Int):Prop:=∀j,j<n→my t j→∀x,ig u j x→ig t j x
section
variable {E:Nat→Nat→Prop} {n:Nat} {pl:Nat→Nat} (O:zJ E n pl)
include O
omit O in
theorem mn {u t:Nat→Int}{m j:Nat}(h:pl j<m):ml pl m u t j=u j:=ap h
omit O in
theorem ky {u t:Nat→Int}{m j:Nat}(h:m≤pl j):ml pl m u t j=t j:=ae (by omega)
omit O in
theorem qgn {t u:Nat→Int}{m:Nat}(h:gQ E n pl t u m):ml pl m u t=u:=by
 funext j;by_cases o:pl j<m;·exact mn o
 rw[ky (by omega),h.old j (by omega)]
theorem DF {t u:Nat→Int}{k:Nat}{v:Int}(h:gQ E n pl t u (pl k))(J:k<n)(R:Io E u k v):gQ E n pl t (fun j=>if j=k then v else u j) (pl k+1):=by
 refine⟨fun j C=>?_,fun k' I Y a1=>?_⟩
 ·have o:j≠k:=fun e=>by subst e;omega
  simp only[ae o];exact h.old j (by omega)
 have hm:ml pl (pl k') (fun j=>if j=k then v else u j) t=ml pl (pl k') u t:=by(
 funext j;unfold ml;by_cases C:pl j<pl k'
 ·rw[ap C,ap C]
  have o:j≠k:=fun e=>by subst e;omega
  exact ae o
 rw[ae C,ae C])
 rw[hm];by_cases e:k'=k
 ·subst e
  rw[qgn h,ap rfl];exact R
 rw[ae e];refine h.near k' I Y ?_;have:pl k'≠pl k:=fun e'=>e (O.inj _ _ I J e');omega
omit O in
theorem GA (t:Nat→Int)(m:Nat)(h:∀k,k<n→k≠0→m≤pl k):gQ E n pl t t m:=⟨fun _ _=>rfl,fun k j o C=>by have:=h k j o;omega⟩
theorem Db {u:Nat→Int}{k:Nat}{v:Int}(G:fU n pl u)(hk:k<n)(h0:k≠0)(hf:∃p,E p k∧pl p<pl k∧my u p)(hv:Io E u k v):fU n pl (fun j=>if j=k then v else u j)∧∃c:Nat,v=c∧c<n∧pl c<pl k:=by
 obtain⟨c,rfl,hc⟩:=hv;obtain⟨p,he,a1,hp⟩:=hf;have C:=(O.edge _ _ he).1;have I:=(hc c).1 (.refl _) p he hp;have J:=oL G C I;have a6:=zQ G C I;have Y:=BL G C hp I;have o:∀j,my u j→my (fun j=>if j=k then(c:Int) else u j) j:=by(
 intro j R;by_cases e:j=k;·exact .inr (by simp only[ap e];omega)
 rcases R with h|h;·exact .inl h
 exact .inr (by simp only[ae e];exact h))
 refine⟨⟨?_,fun j R h=>?_,fun j R=>?_⟩,c,rfl,J.1,by omega⟩;·simp only[ae h0.symm];exact G.zero
 ·by_cases e:j=k
  ·subst e
   refine⟨c,ap rfl,J.1,by omega,o c Y⟩
  simp only[ae e] at h⊢;obtain⟨q,e1,e2,e3,e4⟩:=G.low j R h;exact⟨q,e1,e2,e3,o q e4⟩
 by_cases e:j=k;·simp only[ap e];omega
 simp only[ae e];exact G.neg j R
omit O in
theorem js {t u:Nat→Int}{m:Nat}(h:gQ E n pl t u m):∀j,j<n→pl j<m→my u j:=by
 intro j C hm;by_cases o:j=0;·exact .inl o
 obtain⟨c,e,_⟩:=h.near j C o hm;exact .inr (by rw[e];omega)
theorem yP {t u:Nat→Int}(G:fU n pl u)(h:gQ E n pl t u n){k p x:Nat}(I:k<n)(h0:k≠0)(he:E p k)(C:pl p<pl k)(R:ig u k x):x=k∨ig u p x:=by
 obtain⟨c,e,hc⟩:=h.near k I h0 (O.lt k I);rcases oM G I e R with rfl|R;·exact .inl rfl
 right;have o:=(O.edge _ _ he).1;obtain⟨c',J,Y,a1,_⟩:=G.low k I (by omega);rw[e] at J;have J:=Int.ofNat.inj J;subst J;have hs:∀j,pl j<pl k→ml pl (pl k) u t j=u j:=fun j hj=>mn hj;have h1:=(eY G hs Y a1 x).2 R;have hp:my (ml pl (pl k) u t) p:=by
  rcases js h p o (O.lt p o) with h|h;·exact .inl h
  exact .inr (by rw[mn C];exact h)
 exact(eY G hs o C x).1 ((hc x).1 h1 p he hp)
theorem qu {s t:Nat→Int}{k:Nat}(G:fU n pl t)(h0:0<pl k)(hs:∀j,pl k≤pl j→s j=t j):∀(m p:Nat),pl p≤m→p<n→my t p→pl k≤pl p→
 ∃z,z<n∧ig t p z∧pl z<pl k∧(∀x,pl x<pl k→(ig s p x↔ig s z x))∧∀x,pl x<pl k→(ig t p x↔ig t z x):=by
 intro m;induction m with
 |zero=>intro p hm J hq R;omega
 |succ m ih=>
  intro p hm J hq R;have Y:0≤t p:=by(
 rcases hq with rfl|h;·have:=O.zero;omega
 exact h)
  obtain⟨q,e,C,a7,a1⟩:=G.low p J Y;have e1:∀x,pl x<pl k→(ig s p x↔ig s q x):=by(
 intro x o;constructor
 ·intro h
  cases h with
  |refl=>omega
  |up I h'=>rw[hs p R,e] at I;have I:=Int.ofNat.inj I;subst I;exact h'
 intro h;exact .up (by rw[hs p R];exact e) h)
  have e2:∀x,pl x<pl k→(ig t p x↔ig t q x):=by(
 intro x o;constructor
 ·intro h
  rcases oM G J e h with rfl|h;·omega
  exact h
 intro h;exact .up e h)
  by_cases a6:pl q<pl k;·exact⟨q,C,.up e (.refl _),a6,e1,e2⟩
  obtain⟨z,z1,z2,z3,z4,z5⟩:=ih q (by omega) C a1 (by omega);exact⟨z,z1,.up e z2,z3,fun x o=>(e1 x o).trans (z4 x o),fun x o=>(e2 x o).trans (z5 x o)⟩
theorem Mr {t:Nat→Int}(C:∀j,j<n→t j= -1):Cu E n pl t:=by
 have J:∀j,j<n→my t j→j=0:=by
  intro j o h;rcases h with h|h;·exact h
  rw[C j o] at h;omega
 have Y:∀x,ig t 0 x→x=0:=by
  intro x h;cases h with
  |refl=>rfl
  |up e _=>rw[C 0 O.pos] at e;omega
 refine⟨⟨C 0 O.pos,fun j o h=>(by rw[C j o] at h;omega),fun j o=>(by rw[C j o];omega)⟩,fun j o h x I=>?_,fun j o h y x _ I R=>?_,fun j o h x I=>?_⟩
 ·have:=J j o h;subst this;rw[Y x I];intro h;cases h with
  |zero h=>exact h rfl
  |step _ _ _ h=>exact h rfl
 ·have:=J j o h;subst this;by_cases hy:y=0;·rw[hy,O.zero] at R;omega
  rename_i hf;exact absurd (.zero hy) hf
 have:=J j o h;subst this;by_cases e:x=0;·subst e;exact .refl _
 exact absurd (.zero e) I
theorem GB {t u:Nat→Int}(L:Cu E n pl t)(G:fU n pl u)(h:gQ E n pl t u n):Cu E n pl u:=by
 have hU:∀(m j:Nat),pl j≤m→j<n→∀x,ig u j x→¬Ez E pl x j:=by(
 intro m;induction m with
 |zero=>
  intro j hm o x I hf;have:j=0:=O.inj j 0 o O.pos (by have:=O.zero;omega);subst this;have a1:x=0:=by(
 cases I with
 |refl=>rfl
 |up e _=>rw[G.zero] at e;omega)
  subst a1;cases hf with
  |zero h=>exact h rfl
  |step _ _ _ h=>exact h rfl
 |succ m ih=>
  intro j hm o x I hf;by_cases h0:j=0;·(
 subst h0;have a1:x=0:=by
  cases I with
  |refl=>rfl
  |up e _=>rw[G.zero] at e;omega
 subst a1;cases hf with
 |zero h=>exact h rfl
 |step _ _ _ h=>exact h rfl)
  cases hf with
  |zero h=>exact h0 rfl
  |step b0 he J b1=>
   rcases yP O G h o h0 he J I with e|h1;·exact b1 e.symm
   exact ih _ (by omega) (O.edge _ _ he).1 x h1 b0)
 refine⟨G,fun j o _=>hU _ j (cf _) o,?_,?_⟩
 ·have:∀(m j:Nat),pl j≤m→j<n→∀y x,¬Ez E pl y j→ig u j x→pl x<pl y→ig u y x:=by(
 intro m;induction m with
 |zero=>
  intro j hm o y x hy I J;have:=wM O o hy;rcases this with rfl|h;·exact I
  omega
 |succ m ih=>
  intro j hm o y x hy I J;rcases wM O o hy with rfl|b8;·exact I
  have h0:j≠0:=fun e=>by subst e;have:=O.zero;omega
  obtain⟨p,he,a6⟩:=O.fwd j o h0;rcases yP O G h o h0 he a6 I with e|h1;·subst e;omega
  refine ih p (by omega) (O.edge _ _ he).1 y x (fun hf=>?_) h1 J;by_cases e:j=y;·subst e;omega
  exact hy (.step hf he a6 e))
  exact fun j o _=>this _ j (cf _) o
 have:∀(m j:Nat),pl j≤m→j<n→∀x,¬gA E x j→ig u j x:=by(
 intro m;induction m with
 |zero=>
  intro j hm o x I;rcases zW O o I with e|h';·subst e;exact .refl _
  omega
 |succ m ih=>
  intro k hm hk x I;rcases zW O hk I with e|a7;·subst e;exact .refl _
  have h0:k≠0:=fun e=>by subst e;have:=O.zero;omega
  have b2:0<pl k:=by omega
  obtain⟨c,e,hc⟩:=h.near k hk h0 (O.lt k hk);obtain⟨c',e',b3,b4,_⟩:=G.low k hk (by omega);rw[e] at e';have e':=Int.ofNat.inj e';subst e';have hs:∀j,pl j<pl k→ml pl (pl k) u t j=u j:=fun j o=>mn o;refine .up e ((eY G hs b3 b4 x).1 ((hc x).2 fun p he hp=>?_));have C:=(O.edge _ _ he).1;have R:¬gA E x p:=fun hr=>by(
 by_cases e2:k=x;·subst e2;omega
 exact I (.step hr he e2))
  by_cases b5:pl p<pl k;·exact(eY G hs C b5 x).2 (ih p (by omega) C x R)
  have Y:my t p:=by(
 rcases hp with h|h;·exact .inl h
 exact .inr (by rw[ky (by omega)] at h;exact h))
  have b6:=L.lo p C Y x R;obtain⟨z,z1,z2,z3,z4,z5⟩:=qu O (s:=ml pl (pl k) u t) L.good b2 (fun j o=>ky o) _ p (cf _) C Y (by omega);refine(z4 x a7).2 ((eY G hs z1 z3 x).2 (ih z (by omega) z1 x ?_));have b7:=(z5 x a7).1 b6;rcases (oL L.good z1 b7).2 with e2|a8;·(
 subst e2;intro hr;have b9:=L.up p C Y x z2;have:=zW O C R;exact absurd hr (by
  intro hr;cases hr with
  |zero h=>exact h rfl
  |step _ _ h=>exact h rfl))
  exact ID O C R (L.up p C Y z z2) a8)
 exact fun j o _=>this _ j (cf _) o
theorem DE {t0 t u:Nat→Int}(L0:Cu E n pl t0)(L:Cu E n pl t)(h0:gQ E n pl t0 t n)(M:EM n t0 t)(G:fU n pl u)(h:gQ E n pl t u n):EM n t u:=by
 have:∀(m k:Nat),pl k≤m→k<n→∀x,ig u k x→ig t k x:=by(
 intro m;induction m with
 |zero=>
  intro k hm C x hx;have:k=0:=O.inj k 0 C O.pos (by have:=O.zero;omega);subst this;cases hx with
  |refl=>exact .refl _
  |up e _=>rw[G.zero] at e;omega
 |succ m ih=>
  intro k hm C x hx;by_cases J:k=0
  ·subst J;cases hx with
   |refl=>exact .refl _
   |up e _=>rw[G.zero] at e;omega
  have b0:0<pl k:=by have:pl k≠pl 0:=fun e=>J (O.inj _ _ C O.pos e);have:=O.zero;omega
  obtain⟨c,e,hc⟩:=h.near k C J (O.lt k C);rcases oM G C e hx with rfl|b1;·exact .refl _
  obtain⟨c',e',b2,b7,_⟩:=G.low k C (by omega);rw[e] at e';have e':=Int.ofNat.inj e';subst e';have R:pl x<pl k:=by have:=zQ G b2 b1;omega
  have hs:∀j,pl j<pl k→ml pl (pl k) u t j=u j:=fun j hj=>mn hj;have b3:=(hc x).1 ((eY G hs b2 b7 x).2 b1);obtain⟨d,ed,hd⟩:=h0.near k C J (O.lt k C);obtain⟨d',Y,b8,b9,_⟩:=L.good.low k C (by omega);rw[ed] at Y;have Y:=Int.ofNat.inj Y;subst Y;have a1:∀j,pl j<pl k→ml pl (pl k) t t0 j=t j:=fun j hj=>mn hj;refine .up ed ((eY L.good a1 b8 b9 x).1 ((hd x).2 fun p he hp=>?_));have o:=(O.edge _ _ he).1;have a6:my t p:=js h0 p o (O.lt p o);have c0:my u p:=js h p o (O.lt p o);by_cases a7:pl p<pl k
  ·have a8:my (ml pl (pl k) u t) p:=by(
 rcases c0 with h|h;·exact .inl h
 exact .inr (by rw[mn a7];exact h))
   exact(eY L.good a1 o a7 x).2 (ih p (by omega) o x ((eY G hs o a7 x).1 (b3 p he a8)))
  have I:my t0 p:=by(
 rcases hp with h|h;·exact .inl h
 exact .inr (by rw[ky (by omega)] at h;exact h))
  have a8:my (ml pl (pl k) u t) p:=by(
 rcases a6 with h|h;·exact .inl h
 exact .inr (by rw[ky (by omega)];exact h))
  obtain⟨y,y1,y2,y3,y4,y5⟩:=qu O (s:=ml pl (pl k) u t) L.good b0 (fun j hj=>ky hj) _ p (cf _) o a6 (by omega);have c1:=ih y (by omega) y1 x ((eY G hs y1 y3 x).1 ((y4 x R).1 (b3 p he a8)));have b4:=(y5 x R).2 c1;have b5:=M p o I x b4;obtain⟨z,z1,z2,z3,z4,z5⟩:=qu O (s:=ml pl (pl k) t t0) L0.good b0 (fun j hj=>ky hj) _ p (cf _) o I (by omega);refine(z4 x R).2 ((eY L.good a1 z1 z3 x).2 ?_);rcases (oL L0.good z1 ((z5 x R).1 b5)).2 with e2|b6;·subst e2;exact .refl _
  exact L.hi p o a6 z x (L0.up p o I z z2) b4 b6)
 exact fun k C _ x hx=>this _ k (cf _) C x hx
def rR (E:Nat→Nat→Prop)(n:Nat)(pl:Nat→Nat)(t:Nat→Int):Prop:=Cu E n pl t∧∀u,fU n pl u→gQ E n pl t u n→EM n t u
theorem Jr {t:Nat→Int}(o:∀j,j<n→t j= -1):rR E n pl t:=by
 refine⟨Mr O o,fun u G _ j C I x J=>?_⟩;have:j=0:=by
  rcases I with h|h;·exact h
  rw[o j C] at h;omega
 subst this;cases J with
 |refl=>exact .refl _
 |up e _=>rw[G.zero] at e;omega
theorem sN {t u:Nat→Int}(K:rR E n pl t)(G:fU n pl u)(h:gQ E n pl t u n):rR E n pl u:=by have L:=GB O K.1 G h;exact⟨L,fun v j o=>DE O K.1 L h (K.2 u G h) j o⟩
theorem BK {t:Nat→Int}(K:rR E n pl t)(h:gQ E n pl t t n){j x:Nat}(C:j<n):ig t j x↔¬gA E x j:=by
 have I:∀j,j<n→my t j:=fun j C=>js h j C (O.lt j C);constructor;·(
 intro J hr;have G:=K.1.good;clear K;revert J;induction hr with
 |zero o=>
  intro J;cases J with
  |refl=>exact o rfl
  |up e _=>rw[G.zero] at e;omega
 | @step a b a1 he o ih=>
   intro J;have ha:=(O.edge _ _ he).1;by_cases R:b=0;·(
 subst R;cases J with
 |refl=>exact o rfl
 |up e _=>rw[G.zero] at e;omega)
   obtain⟨c,e,hc⟩:=h.near b C R (O.lt b C);have hm:ml pl (pl b) t t=t:=by funext i;unfold ml;split<;>rfl
   rw[hm] at hc;rcases oM G C e J with e2|Y;·exact o e2.symm
   exact ih ha ((hc x).1 Y a he (I a ha)))
 exact fun J=>K.1.lo j C (I j C) x J
def xd (pl:Nat→Nat)(n:Nat)(t:Nat→Int):Nat→Nat
 |0=>0
 |k+1=>xd pl n t k+if t k<0 then n else pl (t k).toNat
theorem GH {t u:Nat→Int}(K:rR E n pl t)(G:fU n pl u)(h:gQ E n pl t u n):∀k,k≤n→xd pl n u k≤xd pl n t k∧((∃j,j<k∧u j≠t j)→xd pl n u k<xd pl n t k):=by
 have M:=K.2 u G h;intro k;induction k with
 |zero=>intro _;exact⟨cf _,fun⟨j,hj,_⟩=>by omega⟩
 |succ k ih=>
  intro hk;obtain⟨a6,J⟩:=ih (by omega);have o:k<n:=by omega
  have C:u k=t k∨(if u k<0 then n else pl (u k).toNat)<(if t k<0 then n else pl (t k).toNat):=by(
 by_cases h0:k=0;·subst h0;left;rw[G.zero,K.1.good.zero]
 have hu:0≤u k:=(js h k o (O.lt k o)).resolve_left h0;obtain⟨c,e,R,a7,_⟩:=G.low k o hu;by_cases ht:t k<0
 ·right
  rw[ap ht,ae (by omega),e,dP];exact O.lt c R
 obtain⟨d,Y,a1,a8,_⟩:=K.1.good.low k o (by omega);have:=M k o (.inr (by omega)) c (.up e (.refl _));rcases oM K.1.good o Y this with e3|h3;·subst e3;omega
 rcases (oL K.1.good a1 h3).2 with e4|h4;·subst e4;left;rw[e,Y]
 right;rw[ae ht,ae (by omega),e,Y,dP,dP];exact h4)
  simp only[xd];refine⟨?_,fun⟨j,hj,I⟩=>?_⟩
  ·rcases C with e|h1;·rw[e];omega
   omega
  rcases C with e|h1;·have b0:j≠k:=fun e'=>I (by rw[e'];exact e);have:=J ⟨j,by omega,I⟩;rw[e];omega
  omega
end
end
section
def eJ (x:bz):List Int:=if x.kind=12∧x.Ni≠x.ref then [x.ref,x.Ni] else if x.kind=12∨x.kind=11 then [x.ref] else []
def Mv:bz:=⟨0,0,0,0,0,[],[],0,0⟩
def iW (l:List bz):bz:=l.getD (l.length-1) Mv
def bM (b:aw):List (List Int):=b.Ng.map fun l=>eJ (iW l)
def fQ (b:aw)(k:Nat):Int:=((b.Ng.getD k []).getD 0 Mv).Nj
def jF (b:aw)(v:Int)(i k:Nat):Prop:=∃l x,b.Ng[i]? =some l∧l[k]? =some x∧x.dst=v
def jl (b:aw)(v:Int)(blk:Nat):Prop:=v<b.params∨∃i k,jF b v i k∧¬gA (dH (bM b)) i blk
def iP (b:aw)(v:Int)(blk at':Nat):Prop:=v<b.params∨∃i k,jF b v i k∧if i=blk then k<at' else¬gA (dH (bM b)) i blk
def lZ (b:aw)(x:bz)(blk:Nat):Prop:=x.Nh.Nodup∧∀a,a∈x.Nh↔∃i:Nat,a=i∧dH (bM b) i blk
open Classical in
noncomputable def uo (b:aw)(i k:Nat)(x:bz):Int:=
 if x.kind=3 then(if lZ b x i then(if∀(m:Nat) v f,x.args[m]? =some v→x.Nh[m]? =some f→jl b v f.toNat then 0 else 19) else 18)
 else if∀v∈x.args,iP b v i k then 0 else 19
def ls (f:Nat→Nat→bz→Int)(L:List (List bz)):Int×Int:=(((L.mapIdx fun i l=>l.mapIdx fun k x=>(x.Nj,f i k x)).flatten.find? fun t=>decide (t.2≠0)).getD (0,0))
theorem sB {α:Type}{p:α→Bool}{l r:List α}{x:α}(h:∀y∈l,p y=false)(j:p x=true):(l++x::r).find? p=some x:=by
 induction l with
 |nil=>simp[j]
 |cons a l o=>rw[List.cons_append,List.find?_cons,h a (List.mem_cons_self ..)];exact o fun y hy=>h y (List.mem_cons_of_mem _ hy)
theorem kE {α:Type}{l:List α}{i:Nat}{x:α}(h:l[i]? =some x):l=l.take i++x::l.drop (i+1):=by obtain⟨hi,rfl⟩:=lS.1 h;rw[List.getElem_cons_drop,List.take_append_drop]
def kO (ll:List (List Int))(k:Nat):Prop:=k<ll.length∧¬aQ ll 0 k
def iN (ll:List (List Int))(k:Nat):Prop:=k<ll.length∧¬∃e,aQ ll k e∧ll[e]? =some []
open Classical in
noncomputable def cV (P:Nat→Prop)(n:Nat):Int:=match (List.range n).find? fun k=>decide (P k) with|some k=>k|none=> -1
theorem hZ {P:Nat→Prop}{n:Nat}(h:∀k,k<n→¬P k):cV P n= -1:=by unfold cV;rw[List.find?_eq_none.2];intro k j;simp[h k (fg.1 j)]
theorem lO {P:Nat→Prop}{n k:Nat}(o:k<n)(h:∀j,j<k→¬P j)(C:P k):cV P n=k:=by
 unfold cV;rw[kE (show(List.range n)[k]? =some k by rw[ln o]),sB]
 ·intro y hy
  rw[List.take_range] at hy;have:=fg.1 hy;simp[h y (by omega)]
 simp[C]
theorem jX (P:Nat→Prop)(n:Nat):(cV P n= -1∧∀k,k<n→¬P k)∨∃k:Nat,cV P n=k∧k<n∧P k∧∀j,j<k→¬P j:=by
 by_cases h:∃k,k<n∧P k
 ·obtain⟨k,⟨I,o⟩,hm⟩:∃k,(k<n∧P k)∧∀j,j<k→¬(j<n∧P j):=by(
 obtain⟨Y,h0⟩:=h;induction Y using Nat.strongRecOn with
 |ind m ih=>
  by_cases C:∃j,j<m∧(j<n∧P j)
  ·obtain⟨j,C,o⟩:=C
   exact ih j C o
  exact⟨m,h0,fun j J o=>C ⟨j,J,o⟩⟩)
  exact .inr ⟨k,lO I (fun j C o=>hm j C ⟨by omega,o⟩) o,I,o,fun j C R=>hm j C ⟨by omega,R⟩⟩
 exact .inl ⟨hZ fun k I o=>h ⟨k,I,o⟩,fun k I o=>h ⟨k,I,o⟩⟩
open Classical in
noncomputable def oh (b:aw):Int×Int:=
 if 0≤cV (kO (bM b)) b.Ng.length then(fQ b (cV (kO (bM b)) b.Ng.length).toNat,16)
 else if 0≤cV (iN (bM b)) b.Ng.length then(fQ b (cV (iN (bM b)) b.Ng.length).toNat,17)
 else if∃i,dH (bM b) i 0 then(fQ b 0,18)
 else ls (uo b) b.Ng
noncomputable def ov:List aw→Nat→Int×Int×Int
 | [],_=>(0,0,0)
 |b::l,i=>if(oh b).2≠0 then(i,(oh b).1,(oh b).2) else ov l (i+1)
def jH (c:aE):Prop:=∀b∈c.Nf,(oh b).2=0
theorem mc:∀ {l:List aw} {i:Nat},(∀b∈l,(oh b).2=0)→ov l i=(0,0,0)
 | [],_,_=>rfl
 |b::l,i,h=>by rw[ov,ae (by rw[h b (List.mem_cons_self ..)];simp)];exact mc fun c j=>h c (List.mem_cons_of_mem _ j)
theorem su:∀ {l:List aw} {i k:Nat} {b:aw},l[k]? =some b→(∀j,j<k→∀c,l[j]? =some c→(oh c).2=0)→(oh b).2≠0→ov l i=(((i+k:Nat):Int),(oh b).1,(oh b).2)
 | [],_,_,_,h,_,_=>by simp at h
 |c::l,i,0,b,h,_,o=>by cases h;rw[ov,ap o];rfl
 |c::l,i,k+1,b,h,C,o=>by rw[ov,ae (by rw[C 0 (by omega) c rfl];simp),su (l:=l) (i:=i+1) (k:=k) (by simpa using h) (fun j J d I=>C (j+1) (by omega) d (by simpa using I)) o];congr 2;omega
end
section
section
variable (ll:List (List Int))
noncomputable def eB (a b:Nat):Bool:=ay ll a b&&ay ll b a
end
section
variable {ll:List (List Int)}
def ET (ll:List (List Int))(told:Nat→Bool):Prop:=∀x y,y<ll.length→told x=true→eB ll x y=true→told y=true
end
end
section
section
variable {ll:List (List Int)}
inductive Way (ll:List (List Int)) (s:Nat):Nat→Nat→Prop
 |one:Way ll s 1 s
 |step {m b c:Nat}:Way ll s m b→dH ll b c→Way ll s (m+1) c
open Classical in
end
end
section
section
variable {ll:List (List Int)}
def lu (f:Nat→Int)(i:Nat)(v:Int):Nat→Int:=fun k=>if k=i then v else f k
end
end
section
section
variable {ll:List (List Int)}
open Classical in
noncomputable def di (ll:List (List Int))(i k:Nat):List Int:=((List.range i).filter fun a=>decide (dH ll a k)).map fun(n:Nat)=>(n:Int)
noncomputable def gS (ll:List (List Int))(row:List Int)(i m k:Nat):List Int:=di ll i k++if(k:Int)∈row.take m then [(i:Int)] else []
theorem vN (i k:Nat):(di ll i k).length≤i:=by unfold di;rw[ce];exact fR (List.length_filter_le _ _) (by simp)
theorem AN (row:List Int)(i m k:Nat):(gS ll row i m k).length≤i+1:=by have:=vN (ll:=ll) i k;unfold gS;rw[iQ];split<;>simp<;>omega
theorem jc {i k:Nat}{x:Int}:x∈di ll i k↔∃a:Nat,x=a∧a<i∧dH ll a k:=by
 simp only[di,dr,List.mem_filter,fg,qal];constructor;·rintro⟨a,⟨h1,j⟩,rfl⟩;exact⟨a,rfl,h1,j⟩
 rintro⟨a,rfl,h1,j⟩;exact⟨a,⟨h1,j⟩,rfl⟩
theorem GM (row:List Int)(i k:Nat):gS ll row i 0 k=di ll i k:=by simp[gS]
theorem yT {row:List Int}{i k:Nat}(h:ll[i]? =some row):gS ll row i row.length k=di ll (i+1) k:=by
 unfold gS di;rw[dZ,List.range_succ,mE,ic];congr 1;by_cases j:(k:Int)∈row
 ·have:dH ll i k:=⟨row,h,j⟩
  simp[j,this]
 have:¬dH ll i k:=by rintro⟨r,h1,o⟩;rw[h] at h1;cases h1;exact j o
 simp[j,this]
theorem AO {row:List Int}{i m k:Nat}(hm:m<row.length)(C:row.Nodup)(o:row[m]=(k:Int)):gS ll row i (m+1) k=gS ll row i m k++[(i:Int)]:=by
 have h1:(k:Int)∈row.take (m+1):=by rw[cU,lG hm,o];simp
 have I:(k:Int)∉row.take m:=by intro h;obtain⟨j,J,e⟩:=List.getElem_of_mem h;rw[fN] at J;rw[List.getElem_take] at e;exact(List.pairwise_iff_getElem.1 C) j m (by omega) hm (by omega) (by rw[e,o])
 unfold gS;rw[ap h1,ae I,List.append_nil]
theorem DK {row:List Int}{i m k j:Nat}(hm:m<row.length)(o:row[m]=(k:Int))(C:j≠k):gS ll row i (m+1) j=gS ll row i m j:=by
 have h1:((j:Int)∈row.take (m+1))=((j:Int)∈row.take m):=by(
 rw[cU,lG hm,o];simp only[eD,Option.toList_some,cx,eq_iff_iff];constructor
 ·rintro(h|h)
  ·exact h
  exact absurd (by omega) C
 exact fun h=>.inl h)
 unfold gS;simp only[h1]
end
end
section
section
variable {α:Type} {L:List (List α)}
theorem lF {i k:Nat}{l:List α}{x:α}(hi:L[i]? =some l)(o:l[k]? =some x):L.flatten[(L.take i).flatten.length+k]? =some x:=by
 have j:=(lS.1 o).1;have e:L.flatten=(L.take i).flatten++(l++(L.drop (i+1)).flatten):=by rw[←List.flatten_cons,←List.flatten_append,←kE hi]
 rw[e,kH (by omega),Nat.add_sub_cancel_left,ma j];exact o
theorem BS {i j:Nat}{l:List α}(hi:L[i]? =some l)(o:i<j):(L.take i).flatten.length+l.length≤(L.take j).flatten.length:=by
 have e:(L.take j)[i]? =some l:=by rw[rY o];exact hi
 conv=>rhs;rw[kE e]
 rw[List.flatten_append,List.flatten_cons,iQ,iQ,List.take_take,Nat.min_eq_left (Nat.le_of_lt o)];omega
theorem FG {i k j m:Nat}{l r:List α}(hi:L[i]? =some l)(C:k<l.length)(o:L[j]? =some r)(hm:m<r.length)(e:(L.take i).flatten.length+k=(L.take j).flatten.length+m):i=j∧k=m:=by
 rcases Nat.lt_trichotomy i j with h|h|h;·have:=BS hi h;omega
 ·subst h;exact⟨rfl,by omega⟩
 have:=BS o h;omega
theorem pF:∀ {L:List (List α)} {n:Nat} {x:α},L.flatten[n]? =some x→∃i k l,L[i]? =some l∧l[k]? =some x∧n=(L.take i).flatten.length+k
 | [],n,x,h=>by simp at h
 |l::L,n,x,h=>by(
 rw[List.flatten_cons] at h;by_cases j:n<l.length
 ·rw[ma j] at h
  exact⟨0,n,l,rfl,h,by simp⟩
 rw[kH (by omega)] at h;obtain⟨i,k,r,h1,o,C⟩:=pF h;exact⟨i+1,k,r,by simpa using h1,o,by rw[List.take_succ_cons,List.flatten_cons,iQ];omega⟩)
end
def og (l:List bz):Nat:=(l.filter fun x=>decide (x.dst≠-1)).length
structure gY (b:aw):Prop where
 par:0≤b.params∧b.params≤6
 blk:1≤b.Ng.length∧b.Ng.length≤64
 some_:∀l∈b.Ng,1≤l.length∧11≤(iW l).kind∧(iW l).kind≤13
 ref:∀l∈b.Ng,(iW l).kind=11∨(iW l).kind=12→0≤(iW l).ref∧(iW l).ref<b.Ng.length
 Ni:∀l∈b.Ng,(iW l).kind=12→0≤(iW l).Ni∧(iW l).Ni<b.Ng.length
 args:∀l∈b.Ng,∀x∈l,∀a∈x.args,0≤a∧a<b.vars
 Nh:∀l∈b.Ng,∀x∈l,∀a∈x.Nh,0≤a∧a<b.Ng.length
 phi:∀l∈b.Ng,∀x∈l,x.kind=3→x.Nh.length=x.args.length∧1≤x.Nh.length∧x.Nh.length≤64
 dst:∀l∈b.Ng,∀x∈l,x.dst= -1∨b.params≤x.dst∧x.dst<b.vars
 once:∀(v:Int) (i k j m:Nat),v≠-1→jF b v i k→jF b v j m→i=j∧k=m
 all:∀v,b.params≤v→v<b.vars→∃i k,jF b v i k
 num:b.vars=b.params+og b.Ng.flatten
theorem yk {p:aH}{c:aE}{b:aw}{next:Int}{x:bz}(h:aT p c b next x)(C:0≤next):x.dst=(if cz x=true then next else-1)∧(cz x=true↔x.dst≠-1):=by
 obtain⟨n,d,r,a,h1,j,_⟩:=h;have o:cz x=d:=by unfold cz;rw[h1]
 rw[o];refine⟨j,?_⟩;rw[j];cases d;·simp
 simp only[if_true,true_iff,ne_eq];omega
theorem CL {l:List bz}(h:∀x∈l,cz x=true↔x.dst≠-1):cj l=og l:=by rw[co];unfold og;congr 1;refine List.filter_congr fun x j=>?_;rw[Bool.eq_iff_iff,h x j,qal]
theorem lC {l:List bz}(h:1≤l.length):iW l∈l∧l[l.length-1]? =some (iW l):=by
 have hl:l.length-1<l.length:=by omega
 have:l[l.length-1]? =some (iW l):=by unfold iW;rw[iG,lG hl];rfl
 exact⟨mG this,this⟩
theorem Kj {p:aH}{c:aE}{b:aw}(h:qi p c b):gY b:=by
 obtain⟨h1,h2,h3,h4,h5,h6,h7⟩:=h;have hn:∀(m:Nat),0≤b.params+(cj (b.Ng.flatten.take m):Int):=fun m=>by omega
 have I:∀l∈b.Ng,∀x∈l,∃next,0≤next∧aT p c b next x:=by intro l hl x C;obtain⟨i,hi⟩:=cY.1 hl;obtain⟨k,o⟩:=cY.1 C;exact⟨_,hn _,h6 _ x (lF hi o)⟩
 have b4:∀x∈b.Ng.flatten,cz x=true↔x.dst≠-1:=by intro x C;obtain⟨l,hl,C⟩:=List.mem_flatten.1 C;obtain⟨next,h0,ho⟩:=I l hl x C;exact(yk ho h0).2
 have a7:∀(k:Nat) x,b.Ng.flatten[k]? =some x→x.dst=if cz x=true then b.params+cj (b.Ng.flatten.take k) else-1:=fun k x C=>(yk (h6 k x C) (hn k)).1;have J:∀k m:Nat,k≤m→cj (b.Ng.flatten.take k)≤cj (b.Ng.flatten.take m):=by(
 intro k m b5;have:b.Ng.flatten.take m=b.Ng.flatten.take k++(b.Ng.flatten.take m).drop k:=by have:=(List.take_append_drop k (b.Ng.flatten.take m)).symm;rwa [List.take_take,Nat.min_eq_left b5] at this
 rw[this,co,co,mE,iQ];omega)
 have R:∀(k:Nat) x,b.Ng.flatten[k]? =some x→cz x=true→cj (b.Ng.flatten.take (k+1))=cj (b.Ng.flatten.take k)+1:=by intro k x o Y;rw[cU,o,co,co,mE,iQ];simp[Y]
 have a6:∀l∈b.Ng,1≤l.length∧11≤(iW l).kind:=by
  intro l hl;obtain⟨s1,s2,_⟩:=h5 l hl;have hlen:1≤l.length:=by(
 cases l;·simp at s1
 simp)
  refine⟨hlen,(s2 (l.length-1) (iW l).kind ?_).2 (by rw[ce];omega)⟩;rw[cL,(lC hlen).2];rfl
 have a8:∀l∈b.Ng,∀x∈l,1≤x.kind∧x.kind≤13:=by intro l hl x C;obtain⟨next,_,n,d,r,a,e,_⟩:=I l hl x C;unfold cw at e;split at e<;>first|(cases e;done)|omega|(rename_i o;rw[o];omega)
 refine⟨⟨h1,h2⟩,⟨h3,h4⟩,fun l hl=>⟨(a6 l hl).1,(a6 l hl).2,(a8 l hl _ (lC (a6 l hl).1).1).2⟩,fun l hl o=>?_,fun l hl o=>?_,fun l hl x C=>?_,fun l hl x C=>?_,fun l hl x C o=>?_,fun l hl x C=>?_,?_,?_,?_⟩
 ·obtain⟨next,_,n,d,r,a,e,_,_,_,_,_,_,hr,_⟩:=I l hl _ (lC (a6 l hl).1).1;have b6:r=true:=by rcases o with o|o<;>rw[o] at e<;>cases e<;>rfl
  have:=hr b6;have hm:cW p c b (iW l).kind=b.Ng.length:=by rcases o with o|o<;>rw[o]<;>rfl
  rwa [hm] at this
 ·obtain⟨next,_,n,d,r,a,e,_,_,_,_,_,_,_,ha,_⟩:=I l hl _ (lC (a6 l hl).1).1
  have b7:a=true:=by rw[o] at e;cases e;rfl
  exact ha b7
 ·obtain⟨next,_,n,d,r,a,e,_,_,_,_,_,_,_,_,_,hA,_⟩:=I l hl x C
  exact hA
 ·obtain⟨next,_,n,d,r,a,e,_,_,_,_,_,_,_,_,_,_,hF⟩:=I l hl x C
  exact hF
 ·obtain⟨next,_,n,d,r,a,e,_,_,_,_,_,_,_,_,hc,_⟩:=I l hl x C
  rwa [ap o] at hc
 ·obtain⟨i,hi⟩:=cY.1 hl;obtain⟨k,o⟩:=cY.1 C;have hg:=lF hi o;have e:=a7 _ x hg;by_cases Y:cz x=true;·rw[ap Y] at e;have e1:=R _ x hg Y;have e2:=J ((b.Ng.take i).flatten.length+k+1) b.Ng.flatten.length (lS.1 hg).1;rw[dZ] at e2;right;omega
  rw[ae Y] at e;exact .inl e
 ·(
 rintro v i k j m hv ⟨l,x,a1,a2,a3⟩ ⟨r,y,b1,b2,b3⟩;have g1:=lF a1 a2;have g2:=lF b1 b2;have e1:=a7 _ x g1;have e2:=a7 _ y g2;have f1:cz x=true:=by
  by_cases Y:cz x=true;·exact Y
  rw[ae Y] at e1;omega
 have f2:cz y=true:=by
  by_cases Y:cz y=true;·exact Y
  rw[ae Y] at e2;omega
 rw[ap f1] at e1;rw[ap f2] at e2;have n1:=R _ x g1 f1;have n2:=R _ y g2 f2;refine FG a1 (lS.1 a2).1 b1 (lS.1 b2).1 ?_;rcases Nat.lt_trichotomy ((b.Ng.take i).flatten.length+k) ((b.Ng.take j).flatten.length+m) with b0|heq|b0;·have:=J (((b.Ng.take i).flatten.length+k)+1) _ b0;omega
 ·exact heq
 have:=J (((b.Ng.take j).flatten.length+m)+1) _ b0;omega)
 ·intro v b9 c0;have hr:=uT h1 b.Ng.flatten a7;have hm:v∈(b.Ng.flatten.filter fun x=>decide (0≤x.dst)).map fun x=>x.dst:=by rw[hr];refine dr.2 ⟨(v-b.params).toNat,fg.2 ?_,?_⟩<;>omega
  obtain⟨x,C,rfl⟩:=dr.1 hm;obtain⟨n,b8⟩:=cY.1 (List.mem_filter.1 C).1;obtain⟨i,k,l,a1,a2,_⟩:=pF b8;exact⟨i,k,l,x,a1,a2,rfl⟩
 rw[h7,CL b4]
end
section
section
variable {ll:List (List Int)} {k:Nat} {l:List Int}
theorem lq {a b:Nat}(h:dH ll a b):a<ll.length:=by obtain⟨row,h,_⟩:=h;exact(lS.1 h).1
theorem tx (i k:Nat):(di ll i k).Pairwise (·<·):=by unfold di;refine List.pairwise_map.2 ((List.Pairwise.filter _ List.pairwise_lt_range).imp fun h=>?_);omega
def mP (ll:List (List Int))(l:List Int)(k:Nat):Prop:=l.Nodup∧∀a,a∈l↔∃i:Nat,a=i∧dH ll i k
theorem pT:mP ll (di ll ll.length k) k:=by
 refine⟨(tx _ _).imp fun h=>by omega,fun a=>?_⟩;rw[jc];constructor;·rintro⟨i,e,_,h⟩;exact⟨i,e,h⟩
 rintro⟨i,e,h⟩;exact⟨i,e,lq h,h⟩
theorem rg {l m:List Int}(h:l.Perm m):mP ll l k↔mP ll m k:=by unfold mP;rw[h.nodup_iff];simp only[h.mem_iff]
theorem xp {s:List Int}(C:s.Perm l)(I:s.Pairwise (·≤·)):s=di ll ll.length k↔mP ll l k:=by
 constructor
 ·rintro rfl
  exact(rg C).1 pT
 intro h;have h1:=(rg C).2 h;have j:mP ll (di ll ll.length k) k:=pT;have o:s.Perm (di ll ll.length k):=(List.perm_ext_iff_of_nodup h1.1 j.1).2 fun a=>by rw[h1.2,j.2]
 exact o.eq_of_pairwise (fun a b _ _ h1 j=>by omega) I ((tx _ _).imp fun h=>by omega)
open Classical in
end
theorem mp {b:aw}{x:bz}{blk:Nat}:lZ b x blk↔mP (bM b) x.Nh blk:=Iff.rfl
theorem Cn {b:aw}{i:Nat}{l:List bz}(h:b.Ng[i]? =some l):(bM b)[i]? =some (eJ (iW l)):=by unfold bM;rw[cL,h];rfl
theorem cS (b:aw):(bM b).length=b.Ng.length:=by simp[bM]
theorem qam {b:aw}(h:gY b):aP (bM b):=by
 refine⟨by rw[cS];exact h.blk.1,by rw[cS];have:=h.blk.2;omega,fun row hr=>?_⟩;rw[cS];obtain⟨l,hl,rfl⟩:=dr.1 hr;have h1:=h.ref l hl;have C:=h.Ni l hl;unfold eJ;by_cases o:(iW l).kind=12∧(iW l).Ni≠(iW l).ref
 ·rw[ap o];have r1:=h1 (.inr o.1);have r2:=C o.1;refine⟨fun k j=>?_,?_⟩
  ·rcases fX.1 j with rfl|j
   ·exact r1
   rw[cx.1 j];exact r2
  rw[List.nodup_cons,cx];exact⟨fun e=>o.2 e.symm,by simp⟩
 rw[ae o];by_cases c2:(iW l).kind=12∨(iW l).kind=11
 ·rw[ap c2]
  have r1:=h1 c2.symm;refine⟨fun k j=>?_,by simp⟩;rw[cx.1 j];exact r1
 rw[ae c2];exact⟨fun k j=>by(cases j),by simp⟩
end
theorem nU {ll:List (List Int)}{a b:Nat}(j:b<ll.length):(en ll a)[b]? =some (ay ll a b):=by simp[en,j]
theorem qdQ (A:Option Addr)(n cap:Nat)(w:World)(h1:n≤cap)(j:cap≤9223372036854775807):Calls prog 173 #[.slice A n cap] w fun e w'=>e=.returned (.slice A n n)∧w=w':=by
 have hl:n≤9223372036854775807:=by omega
 go_enter func173,ntmps173;go_wp2;go_ret;exact⟨rfl,rfl⟩


def dS (m:BitVec 64)(k:Nat):List Nat:=(List.range k).filter fun j=>m.getLsbD j
def Dc (m:BitVec 64)(k:Nat):BitVec 64:=zt (fun j=>decide (k≤j)&&m.getLsbD j) 64
theorem nO (m:BitVec 64)(k j:Nat)(o:j<64):(Dc m k).getLsbD j=(decide (k≤j)&&m.getLsbD j):=by rw[Dc,zu _ _ _ o,bL o];rfl
theorem Mo (m:BitVec 64):Dc m 0=m:=by apply BitVec.eq_of_getLsbD_eq;intro j o;rw[nO _ _ _ o,bL (Nat.zero_le j)];rfl
theorem CJ {x:BitVec 64}{t:Nat}(h:LO x t)(j:Nat)(I:j<64):(x&&&(x-1#64)).getLsbD j=(x.getLsbD j&&decide (j≠t)):=by
 have h1:=Cd h;have J:x-1#64= ~~~(-x):=by
  have e:=BitVec.neg_eq_not_add (-x);rw[BitVec.neg_neg] at e;have R:∀y:BitVec 64,x=y+1#64→x-1#64=y:=by rintro y rfl;exact BitVec.add_sub_cancel y 1#64
  exact R _ e
 have o:=congrArg (fun y=>y.getLsbD j) h1;have Y:(pw t).getLsbD j=decide (j=t):=by(
 rw[pw,BitVec.getLsbD_shiftLeft];by_cases e:j=t;·subst e;simp[I]
 by_cases C:j<t;·simp[C,e]
 have:j-t≠0:=by omega
 simp[C,this,e])
 simp only[BitVec.getLsbD_and,Y] at o;rw[J,BitVec.getLsbD_and,BitVec.getLsbD_not];by_cases e:j=t
 ·subst e
  rw[bL rfl] at o;rw[gE] at o;rw[o.2];simp
 rw[cI e] at o;cases hx:x.getLsbD j with
 |false=>simp
 |true=>
  rw[hx] at o;have h5:(-x).getLsbD j=false:=by simpa using o
  rw[h5];simp[I,e]
theorem FO {m:BitVec 64}{k t:Nat}(h:LO (Dc m k) t):Dc m k&&&(Dc m k-1#64)=Dc m (t+1)∧k≤t∧t<64∧m.getLsbD t=true∧dS m (t+1)=dS m k++[t]:=by
 have Y:=h.1;have h1:=h.2.1;rw[nO _ _ _ Y,gE,qal] at h1;have o:∀j,k≤j→j<t→m.getLsbD j=false:=by intro j C I;have:=h.2.2 j I;rw[nO _ _ _ (by omega),bL C] at this;simpa using this
 refine⟨?_,h1.1,Y,h1.2,?_⟩;·(
 apply BitVec.eq_of_getLsbD_eq;intro j I;rw[CJ h j I,nO _ _ _ I,nO _ _ _ I];by_cases C:k≤j;·(
 by_cases R:j<t;·rw[o j C R];simp
 by_cases e:j=t
 ·have J:¬t+1≤j:=by omega
  rw[cI J,cI (fun h:j≠t=>h e)];simp
 have J:t+1≤j:=by omega
 simp[C,e,J])
 have J:¬t+1≤j:=by omega
 simp[C,J])
 unfold dS;have e:List.range (t+1)=List.range k++(List.range (t-k)).map (k+·)++[t]:=by rw[List.range_succ];congr 1;have:=List.range_add (n:=k) (m:=t-k);rw[←this];congr 1;omega
 rw[e,mE,mE];have e2:((List.range (t-k)).map (k+·)).filter (fun j=>m.getLsbD j)=[]:=by rw[List.filter_eq_nil_iff];intro a ha;obtain⟨i,hi,rfl⟩:=dr.1 ha;have:=fg.1 hi;rw[o _ (by omega) (by omega)];exact oG
 rw[e2,List.append_nil];simp[h1.2]
theorem Jj {m:BitVec 64}{k:Nat}(h:Dc m k=0#64)(R:k≤64):dS m k=dS m 64:=by
 have o:∀j,k≤j→j<64→m.getLsbD j=false:=by intro j h1 C;have:=congrArg (fun y=>y.getLsbD j) h;simp only[nO _ _ _ C,bL h1,BitVec.getLsbD_zero] at this;simpa using this
 unfold dS;have e:List.range 64=List.range k++(List.range (64-k)).map (k+·):=by have:=List.range_add (n:=k) (m:=64-k);rw[←this];congr 1;omega
 rw[e,mE];have I:((List.range (64-k)).map (k+·)).filter (fun j=>m.getLsbD j)=[]:=by rw[List.filter_eq_nil_iff];intro a J;obtain⟨i,hi,rfl⟩:=dr.1 J;have:=fg.1 hi;rw[o _ (by omega) (by omega)];exact oG
 rw[I,List.append_nil]
theorem ko {m:BitVec 64}{k j:Nat}:j∈dS m k↔j<k∧m.getLsbD j=true:=by unfold dS;rw[List.mem_filter,fg]
theorem xP {m:BitVec 64}{pre:List Nat}{k:Nat}(h:pre++[k]<+:dS m 64):(k<64∧m.getLsbD k=true)∧∀j,j<k→m.getLsbD j=true→j∈pre:=by
 obtain⟨t,C⟩:=h;have I:k∈dS m 64:=by rw[←C];simp
 refine⟨ko.1 I,fun j R hm=>?_⟩;have o:j∈dS m 64:=ko.2 ⟨by have:=(ko.1 I).1;omega,hm⟩;rw[←C,jM,eD] at o;rcases o with h|h;·exact h
 exfalso;have J:(dS m 64).Pairwise (·<·):=List.Pairwise.filter _ List.pairwise_lt_range;rw[←C,jM] at J;have:=(List.pairwise_append.1 J).2.1;simp only[List.cons_append,mF] at h this;rcases fX.1 h with rfl|h;·omega
 have:=(List.pairwise_cons.1 this).1 j h;omega
section
open Go
section
variable {P:Program} {ops:Array Oper} {md:Region.Mode} {S:World→Prop} {T:List Tmp} {F:Tmp→Value→World→Prop} {L:Nat→Option (Value→Prop)} {lp n:Nat}
def sZ (ops:Array Oper):Bool:=ops.all fun o=>match o.op with|.defer _=>false|_=>true
theorem ta (h:sZ ops=true):∀(j:Nat) (o:Oper),ops[j]? =some o→∀c,o.op≠.defer c:=by intro j o I c e;obtain⟨C,rfl⟩:=mV.1 I;have:=(Array.all_eq_true.1 h) j C;simp only[e] at this;cases this
theorem gh {Q:Act→Prop}{Q':Exit→Act→World→Prop}(hm:lk md ops T)(I:∀(j:Nat) (o:Oper),ops[j]? =some o→∀c,o.op≠.defer c)
 (hQ:∀listed a w,listed.size=ops.size→Region.ready md ops listed=[]→S w→eU ops T F listed a w→Q a→Q' .normal a w):∀(fuel:Nat) (listed:Array Bool) (a:Act) (w:World),listed.size=ops.size→S w→eU ops T F listed a w→
 oZ P md ops S T F L Q fuel listed a→wpAnyIn (Fence.wide.inRound lp) n P md ops Q' fuel listed a w
 |0,listed,a,w,hz,hw,C,h=>⟨(h ⟨w,hw,C⟩).1,hQ _ _ _ hz (h ⟨w,hw,C⟩).1 hw C (h ⟨w,hw,C⟩).2⟩
 |fuel+1,listed,a,w,hz,hw,C,h=>by(
 refine⟨fun h0=>hQ _ _ _ hz h0 hw C ((h ⟨w,hw,C⟩).1 h0),fun i hi=>?_⟩;have J:(listed.setIfInBounds i true).size=ops.size:=by rw[Array.size_setIfInBounds];exact hz
 obtain⟨_,o,R,_⟩:=mem_ready.1 hi;obtain⟨V,hy,hn⟩:=(h ⟨w,hw,C⟩).2 i hi o R;have hp:=C.pre hm hi R;have Y:Oper.semAt (some lp) a.eval o=execOp a.eval o:=Oper.semAt_some lp a.eval o (I i o R);unfold wpOpIn;simp only[R];rcases hy with ⟨h1,_,v,rfl,h3⟩|⟨h1,_,h3⟩|⟨h1,rfl,h3⟩;·rw[ap h1];refine⟨fun _ _=>trivial,?_⟩;obtain⟨hr,hd⟩:=h3 w hw hp;show o.uponIn _ n P a _ _ ((Oper.semAt (some lp) a.eval o).run P w);rw[Y,hr];exact gh hm I hQ fuel _ _ w J hw (C.next R ⟨hw,fun _ _ _ h=>h,hd⟩) (hn v rfl)
 ·(
 rw[ap h1];refine⟨fun _ _=>trivial,?_⟩;have hr:=h3 w hw hp;show o.uponIn _ n P a _ _ ((Oper.semAt (some lp) a.eval o).run P w);rw[Y];generalize (execOp a.eval o).run P w=r at hr;cases r with
 |ok nx w'=>
  cases nx<;>simp only[kl] at hr<;>simp only[Oper.uponIn]
  case value u=>exact gh hm I hQ fuel _ _ w' J hr.2.1 (C.next R hr.2) (hn u hr.1)
  case enter f args=>(refine⟨(fun h=>by cases h),CallsIn.inRound lp (CallsIn.mono (callsIn_wide.2 hr) ?_)⟩;rintro e a1 ⟨u,rfl,hv,hg⟩;exact gh hm I hQ fuel _ _ a1 J hg.1 (C.next R hg) (hn u hv))
 |halt x w'=>simp only[kl] at hr)
 rw[ae (by rw[h1];exact oG)];exact⟨fun _ _=>trivial,gh hm I hQ fuel _ _ w J hw (C.next R ⟨hw,fun _ _ _ h=>h,fun d hd ht=>absurd ht (h3 d hd)⟩) (hn undef rfl)⟩)
theorem fJ {id:Nat}{Q:Exit→Act→World→Prop}{a:Act}{w:World}{l:List Oper}(S:World→Prop)(T:List Tmp)(F:Tmp→Value→World→Prop)(L:Nat→Option (Value→Prop))(hm:P.follows .mixedOrders=true)(hB:Region.lexB .any l.toArray=true)(hT:ns .any l.toArray T=true)(hA:BH .any l.toArray=true)(hD:sZ l.toArray=true)
 (hS:S w.drew) (h:nG P l.toArray S T F L (fun C=>∀w',S w'→(∀t∈T,∀v,C.tmps[t]? =some v→F t v w')→Q .normal C w') l 0 a):(Code.region id l.toArray true).wpIn (Fence.wide.inRound lp) n P Q a w:=by
 simp only[Region.lexB,gE] at hB;have j:=sU hT;refine wpIn_region_any hm (gh (S:=S) (T:=T) (F:=F) (L:=L) (Q:=fun C=>∀w',S w'→(∀t∈T,∀v,C.tmps[t]? =some v→F t v w')→Q .normal C w') j (ta hD) (fun listed C w' hz hr I hf h=>h w' I fun t R v hv=>?_) _ _ _ _ (by simp) hS (fun k o d J=>by exfalso;simp only[Array.getD_eq_getD_getElem?,Array.getElem?_replicate] at J;split at J<;>simp at J) ?_)
 ·obtain⟨k,x,Y,hd⟩:=j.2.2 t R
  exact hf k x t (vO hz hr (BI hA) _ k (cf _) (mV.1 Y).1) Y hd R v hv
 have:=pd (P:=P) (S:=S) (F:=F) (L:=L) j hB.1 l 0 (Array.replicate l.toArray.size false) a (by simp) (by simpa using hB.2) h;simpa using this
theorem JA {o:Oper}{a:Act}{w:World}{K J:Act→World→Prop}{Q:Exit→Act→World→Prop}(I:∀c,o.op≠.defer c)(j:∀a w,K a w→J a w)(h:o.wp P a w K Q):o.wpIn (Fence.wide.inRound lp) n P a w J Q:=by
 refine⟨fun _ _=>trivial,?_⟩;show o.uponIn _ n P a _ _ ((Oper.semAt (some lp) a.eval o).run P w);rw[Oper.semAt_some lp a.eval o I];unfold Oper.wp at h;generalize (execOp a.eval o).run P w=r at h;cases r with
 |ok R w'=>
  cases R<;>simp only[Oper.upon] at h<;>simp only[Oper.uponIn]
  case value u=>exact j _ _ h
  case skip=>exact j _ _ h
  case defer d=>exact j _ _ h
  case enter f args=>(
 refine⟨(fun h=>by cases h),CallsIn.inRound lp (CallsIn.mono (callsIn_wide.2 h) ?_)⟩;intro e C he;cases e with
 |returned v=>exact j _ _ he
 |panicked Y=>exact he
 |outgrown=>exact he)
  case row rw args=>(refine⟨(fun h=>by cases h),fun c cs _=>?_⟩;obtain⟨v,C,r,s⟩:=h c cs;exact⟨v,C,j _ _ r,stepsIn_wide.2 s⟩)
 |halt x w'=>cases x<;>simp only[Oper.upon] at h<;>first|exact h|exact h.elim
theorem wu {Q:Exit→Act→World→Prop}(C:∀(j:Nat) (o:Oper),ops[j]? =some o→∀c,o.op≠.defer c)(I:¬LetsOut Q):∀(fuel:Nat) (listed:Array Bool) (a:Act) (w:World),
 wpAny P md ops Q fuel listed a w→wpAnyIn (Fence.wide.inRound lp) n P md ops Q fuel listed a w
 |0,_,_,_,h=>h
 |fuel+1,listed,a,w,h=>by(
 refine⟨h.1,fun i hi=>?_⟩;have h:=h.2 i hi;unfold wpOp at h;unfold wpOpIn;cases J:ops[i]? with
 |none=>rw[J] at h;exact wu C I fuel _ _ _ h
 |some o=>
  simp only[J] at h⊢;by_cases hw:Region.wanted o (yielded ops a.tmps)=true
  ·rw[ap hw] at h⊢;rcases h with h|h;·exact JA (C i o J) (fun a w h=>wu C I fuel _ _ _ h) h
   exact absurd h.2 I
  rw[ae hw] at h⊢;exact⟨fun _ _=>trivial,wu C I fuel _ _ _ h⟩)
theorem mv {id:Nat}{Q:Exit→Act→World→Prop}{a:Act}{w:World}{l:List Oper}(m:Nat)(hm:P.follows .mixedOrders=true)(hB:Region.lexTailB .any l.toArray m=true)(hD:sZ l.toArray=true)(Y:¬LetsOut Q)
 (h:wpStill P l.toArray {w with drawn:=w.drawn+1} (fun a'=>wpList P l.toArray Q (l.drop m) a' {w with drawn:=w.drawn+1}) (l.take m) a):(Code.region id l.toArray true).wpIn (Fence.wide.inRound lp) n P Q a w:=by
 simp only[Region.lexTailB,gE,qal] at hB;obtain⟨⟨⟨⟨C,hn⟩,hs⟩,hc⟩,I⟩:=hB;have a6:m<l.length:=by simpa using hn
 have o:(l.take m).length=m:=by simp;omega
 have J:(l.drop m).length=l.toArray.size-m:=by simp
 have R:HeadInv .any l.toArray m (Array.replicate l.toArray.size false):=
  ⟨by simp,fun j oj _ hl=>(by rw[getD_replicate_false] at hl;cases hl),fun t _ ht=>getD_in (by simpa using ht) (getD_replicate_false _ _)⟩
 have H:=wpAnyL_lex (md:=.any) (g:=l.toArray.size-m) C hs hc hn (l.take m) 0 _ a (fun j hj=>by
  have a1:j<m:=by rw[o] at hj;exact hj
  simp[a1]) (by simpa using o) R (by rw[o];exact I) h
 refine wpIn_region_any hm ?_;have:=wpAny_of_head (Q':=Q) (g:=l.toArray.size-m) (fun listed a' hL=>by have:=wpAny_of_seq (md:=.any) (Q':=Q) (l.drop m) m listed a' {w with drawn:=w.drawn+1} (fun j=>by simp[List.getElem?_drop]) (by rw[J];exact hL.1) hL.2;rwa [J] at this) _ _ _ H;rw[o,show m+(l.toArray.size-m)=l.toArray.size by omega] at this;exact wu (ta hD) Y _ _ _ _ this
end
end
section
open Go.RowKit Go.Shelf
attribute [local go_sem] lh qb xr ju nA nE nB nC ms rq nD wL pD
attribute [local go_sem] Oper.semAt_some
abbrev zD (m:BitVec 64):= {k:Nat//k<64∧m.getLsbD k=true}
def eq (A B:World):Prop:=gz A→gz B
theorem gz.below {w W:World}(h:gz w)(j:Below w.heap.size w W):gz W:=by
 refine⟨fun i hi=>?_,fun i hi=>?_⟩
 ·have h1:=h.1 i hi
  exact(j.cell (p:=⟨4,i,none⟩) (jy w _ h1)).trans h1
 have h1:=h.2 i hi;exact(j.cell (p:=⟨3,i,none⟩) (jy w _ h1)).trans h1
theorem Gb {W:World}{l:Nat}{o I:Obj}(J:W.heap[l]? =some o)(R:o.isCells=false):eq W (W.putObj l I):=by
 intro h;have j:∀b i v,W.cell? ⟨b,i,none⟩=some v→b≠l:=by rintro b i v C rfl;unfold World.cell? at C;simp only[J] at C;cases o<;>first|(simp[Obj.isCells] at R;done)|(simp at C)
 refine⟨fun i hi=>?_,fun i hi=>?_⟩
 ·have h1:=h.1 i hi
  rw[World.cell?_of_block (World.putObj_heap_other (fun e=>j _ _ _ h1 e))];exact h1
 have h1:=h.2 i hi;rw[World.cell?_of_block (World.putObj_heap_other (fun e=>j _ _ _ h1 e))];exact h1
theorem qdi (m:BitVec 64)(w:World):Calls prog 194 #[U m] w fun e w'=>e=.returned (.func (.func 223) #[] #[.pointer (some ⟨w.heap.size,0,none⟩)])∧w'=w.alloc (.cells #[U m] 163):=by have j:∀(fn:Fn) (first cap:Array Value) (w:World),(Instr.makeFunc fn first cap).run prog w=.ok (.func fn first cap) w:=fun _ _ _ _=>rfl;go_enter func194,ntmps194;go_wp2;go_ret;exact⟨rfl,rfl⟩
theorem zM (x:BitVec 64)(h:x≠0#64):(x&&&(x-1#64)).toNat<x.toNat:=by
 have j:x.toNat≠0:=fun e=>h (BitVec.eq_of_toNat_eq (by simpa using e));have h1:(x&&&(x-1#64)).toNat≤(x-1#64).toNat:=by rw[BitVec.toNat_and];exact Nat.and_le_right
 have o:(x-1#64).toNat=x.toNat-1:=by rw[BitVec.toNat_sub];have:=x.isLt;simp;omega
 omega
theorem EY (m:BitVec 64)(k:Nat):(dS m k).length≤k:=by unfold dS;exact fR (List.length_filter_le _ _) (by simp)
theorem EZ {m:BitVec 64}{t:Nat}(h:t<64):dS m (t+1)<+:dS m 64:=by
 have e:List.range 64=List.range (t+1)++(List.range (64-(t+1))).map (t+1+·):=by rw[←List.range_add];congr 1;omega
 unfold dS;rw[e,mE];exact List.prefix_append _ _
theorem qm (n:Nat)(hn:1≤n)(m:BitVec 64)(Bn:Nat)(w:World)(hl:gz w)(hc:al w Bn 163 #[U m]):
 SeqStopsK Fence.wide n prog 223 #[.pointer (some ⟨Bn,0,none⟩)] (fun x:zD m=>#[Value.int .i64 (x.1:Nat)]) eq (fun xs=>xs.map Subtype.val=dS m 64) (fun pre=>pre.map Subtype.val<+:dS m 64) 64 w:=fun l J Jx W hW _ _ hY h0=>by
 have b1:W.cell? ⟨Bn,0,none⟩=some (U m):=(hW.cell (p:=⟨Bn,0,none⟩) hc.lt).trans (hc.cell 0);have a1:=hl.below hW;have HL:=J2 a1 hY;clear a1 hY hW hl hc;refine callsIn_of_wp func223 rfl trivial ?_ rfl;simp only[ntmps223,List.size_toArray,kI,List.length_nil,Nat.reduceAdd,Nat.reduceSub,Array.replicate_succ,Array.replicate_zero,List.push_toArray,List.append_toArray,mF,List.cons_append];gi_wp2
 gi_loopw [3] (fun r wr=>∃(k:Nat) (pre:List (zD m)),k≤64∧r=U (Dc m k)∧pre.map Subtype.val=dS m k∧J pre wr∧gz wr) (fun r _=>(intOf r).toNat)
 ·exact⟨0,[],by omega,by rw[Mo],rfl,h0,HL.1⟩
 obtain⟨k,pre,hk,rfl,j,hJ,Y⟩:=hrel;by_cases hz:Dc m k=0#64
 ·have b2:(Dc m k !=0#64)=false:=by simp[hz]
  have HP:=oH (show pre.map Subtype.val=dS m 64 by rw[j,Jj hz hk]);clear hz j;gi_wp2
  go_end0
  exact⟨⟨_,rfl⟩,.inl ⟨pre,HP.out,hJ⟩⟩
 obtain⟨t,ht⟩:=Lf hz;obtain⟨a6,b6,o,I,a7⟩:=FO ht;have hlen:pre.length<64:=by have:=EY m k;rw[←j,ce] at this;omega
 obtain⟨fn,tmps,assign,body,hy,hR⟩:=HL.2 pre ⟨t,o,I⟩ wr hJ hlen;dsimp only at hy;have a8:=LJ (Dc m k) t wr Y ht;have b2:(Dc m k !=0#64)=true:=by simpa using hz
 have R:=zM _ hz;have C:(pre++[(⟨t,o,I⟩:zD m)]).map Subtype.val=dS m (t+1):=by rw[a7,ic,j];rfl
 have HT:=J5 a8 a6 R C Y;clear a8 a6 R C Y hz ht a7 j;gi_wp2_with (refine⟨trivial,?_⟩;gi_at_call 224;refine(callsIn_wide.2 HT.1).mono ?_;rintro e w' ⟨rfl,rfl⟩);gi_wp2;refine hR.mono ?_;rintro e W3 (⟨rfl,b3,b4⟩|⟨rfl,b0⟩)
 ·have b5:=b4 HT.2.2.2.2;gi_wp2
  go_roundw
  case rel=>exact⟨t+1,pre++[⟨t,o,I⟩],by omega,by rw[HT.2.1],HT.2.2.2.1,b3,b5⟩
  case measure=>exact HT.2.2.1
 gi_wp2;refine bodyPost_ret (results_none rfl _ _ _) rfl ?_;exact⟨⟨_,rfl⟩,.inr ⟨pre++[(⟨t,o,I⟩:zD m)],by rw[HT.2.2.2.1];exact EZ o,b0⟩⟩
end
end Go.Proofs.YtgdlhckhpolnnaaGreatDoor
