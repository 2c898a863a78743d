/- Part 12 of the proof (its last part says what is proved). No condition. -/
import Derived.Deep.DeepCutAuto
import Derived.Test.YtccbbkopmlnkpaaGreatDoorK10
namespace Go.Proofs.YtccbbkopmlnkpaaGreatDoor
set_option maxRecDepth 100000
set_option maxHeartbeats 8000000
open Go.RowKit Go.Proofs.Tryz
section
inductive gu (t:Nat→Int):Nat→Nat→Prop
 |refl (j:Nat):gu t j j
 |up {j p x:Nat}:t j=(p:Int)→gu t p x→gu t j x
theorem gu.trans {t:Nat→Int}{a b c:Nat}(h:gu t a b)(k:gu t b c):gu t a c:=by
 induction h with
 |refl=>exact k
 |up e _ j=>exact .up e (j k)
def me (t:Nat→Int)(j:Nat):Prop:=j=0∨0≤t j
structure zt (E:Nat→Nat→Prop)(n:Nat)(pl:Nat→Nat):Prop where
 pos:0<n
 zero:pl 0=0
 inj:∀a b,a<n→b<n→pl a=pl b→a=b
 lt:∀a,a<n→pl a<n
 edge:∀a b,E a b→a<n∧b<n
 fwd:∀k,k<n→k≠0→∃p,E p k∧pl p<pl k
structure eU (n:Nat)(pl:Nat→Nat)(t:Nat→Int):Prop where
 zero:t 0= -1
 low:∀j,j<n→0≤t j→∃p:Nat,t j=p∧p<n∧pl p<pl j∧me t p
 neg:∀j,j<n→-1≤t j
inductive Ev (E:Nat→Nat→Prop) (pl:Nat→Nat) (x:Nat):Nat→Prop
 |zero:x≠0→Ev E pl x 0
 |step {a b:Nat}:Ev E pl x a→E a b→pl a<pl b→b≠x→Ev E pl x b
inductive iJ (E:Nat→Nat→Prop) (x:Nat):Nat→Prop
 |zero:x≠0→iJ E x 0
 |step {a b:Nat}:iJ E x a→E a b→b≠x→iJ E x b
inductive Kr (E:Nat→Nat→Prop) (pl:Nat→Nat) (z:Nat):Nat→Prop
 |refl:Kr E pl z z
 |step {a b:Nat}:Kr E pl z a→E a b→pl a<pl b→Kr E pl z b
theorem Kr.le {E:Nat→Nat→Prop}{pl:Nat→Nat}{z j:Nat}(h:Kr E pl z j):pl z≤pl j∧(z=j∨pl z<pl j):=by
 induction h with
 |refl=>exact⟨bj _,.inl rfl⟩
 |step _ _ o C=>omega
section
variable {E:Nat→Nat→Prop} {n:Nat} {pl:Nat→Nat} (O:zt E n pl)
include O
theorem Mc (z:Nat):∀(m j:Nat),pl j≤m→j<n→Ev E pl z j∨Kr E pl z j:=by
 intro m;induction m with
 |zero=>
  intro j hm I;have:j=0:=O.inj j 0 I O.pos (by have:=O.zero;omega);subst this;by_cases o:z=0;·subst o;exact .inr .refl
  exact .inl (.zero o)
 |succ m R=>
  intro j hm I;by_cases J:j=0
  ·subst J;by_cases o:z=0;·subst o;exact .inr .refl
   exact .inl (.zero o)
  obtain⟨p,he,C⟩:=O.fwd j I J;rcases R p (by omega) (O.edge _ _ he).1 with h|h
  ·by_cases o:j=z;·subst o;exact .inr .refl
   exact .inl (.step h he C o)
  exact .inr (.step h he C)
theorem BK {z j:Nat}(o:j<n)(h:¬Ev E pl z j):Kr E pl z j:=(Mc O z _ j (bj _) o).resolve_left h
theorem wE {z j:Nat}(o:j<n)(h:¬Ev E pl z j):z=j∨pl z<pl j:=(BK O o h).le.2
omit O in
theorem IQ {x j:Nat}(h:Ev E pl x j):iJ E x j:=by
 induction h with
 |zero h=>exact .zero h
 |step _ e _ o C=>exact .step C e o
theorem ID {x z j:Nat}(C:j<n)(h:¬iJ E x j)(I:¬Ev E pl z j)(J:pl x<pl z):¬iJ E x z:=by
 intro R;apply h;have Y:=BK O C I;clear h I C;induction Y with
 |refl=>exact R
 |step o e hl ih=>have:=o.le.1;refine .step ih e fun hx=>?_;subst hx;omega
theorem zN {x j:Nat}(o:j<n)(h:¬iJ E x j):x=j∨pl x<pl j:=wE O o fun h'=>h (IQ h')
end
section
variable {n:Nat} {pl:Nat→Nat} {t:Nat→Int}
theorem oB (G:eU n pl t){j x:Nat}(I:j<n)(h:gu t j x):x<n∧(x=j∨pl x<pl j):=by
 induction h with
 |refl=>exact⟨I,.inl rfl⟩
 |up e _ J=>
  obtain⟨p,o,R,C,_⟩:=G.low _ I (by omega);rw[e] at o;have o:=Int.ofNat.inj o;subst o;have:=J R;refine⟨this.1,.inr ?_⟩;rcases this.2 with h|h;·rw[h];exact C
  omega
theorem zI (G:eU n pl t){j x:Nat}(o:j<n)(h:gu t j x):pl x≤pl j:=by
 rcases (oB G o h).2 with h|h;·rw[h];exact bj _
 omega
theorem BH (G:eU n pl t){j x:Nat}(I:j<n)(C:me t j)(h:gu t j x):me t x:=by
 induction h with
 |refl=>exact C
 |up e _ J=>obtain⟨p,o,C,R,Y⟩:=G.low _ I (by omega);rw[e] at o;have o:=Int.ofNat.inj o;subst o;exact J C Y
theorem oC (_:eU n pl t){j x p:Nat}(_:j<n)(e:t j=(p:Int))(h:gu t j x):x=j∨gu t p x:=by
 cases h with
 |refl=>exact .inl rfl
 |up o h'=>rw[e] at o;have o:=Int.ofNat.inj o;subst o;exact .inr h'
theorem dP {s u:Nat→Int}{m:Nat}(G:eU n pl u)(R:∀j,pl j<m→s j=u j){z:Nat}(Y:z<n)(hm:pl z<m)(x:Nat):gu s z x↔gu u z x:=by
 constructor
 ·intro h;induction h with
  |refl=>exact .refl _
  |up e _ C=>rw[R _ hm] at e;obtain⟨p,o,I,J,hq⟩:=G.low _ Y (by omega);rw[e] at o;have o:=Int.ofNat.inj o;subst o;exact .up e (C I (by omega))
 intro h;induction h with
 |refl=>exact .refl _
 |up e _ C=>obtain⟨p,o,I,J,hq⟩:=G.low _ Y (by omega);rw[e] at o;have o:=Int.ofNat.inj o;subst o;rw[←R _ hm] at e;exact .up e (C I (by omega))
theorem vq (G:eU n pl t){a b:Nat}(R:a<n)(Y:b<n)(C:me t a)(a1:pl b<pl a)(h0:pl 0=0):∃p:Nat,t a=p∧p<n∧me t p∧pl p<pl a∧∀x,(gu t a x∧gu t b x)↔(gu t p x∧gu t b x):=by
 have I:0≤t a:=by
  rcases C with rfl|h;·omega
  exact h
 obtain⟨p,e,hp,j,hq⟩:=G.low a R I;refine⟨p,e,hp,hq,j,fun x=>⟨fun⟨J,o⟩=>⟨?_,o⟩,fun⟨J,o⟩=>⟨.up e J,o⟩⟩⟩;rcases oC G R e J with rfl|h;·have:=zI G Y o;omega
 exact h
end
def lP (pl:Nat→Nat)(m:Nat)(u t:Nat→Int):Nat→Int:=fun j=>if pl j<m then u j else t j
def Il (E:Nat→Nat→Prop)(s:Nat→Int)(k:Nat)(v:Int):Prop:=∃c:Nat,v=c∧∀x,gu s c x↔∀p,E p k→me s p→gu s p x
structure fU (E:Nat→Nat→Prop)(n:Nat)(pl:Nat→Nat)(t u:Nat→Int)(m:Nat):Prop where
 old:∀j,m≤pl j→u j=t j
 near:∀k,k<n→k≠0→pl k<m→Il E (lP pl (pl k) u t) k (u k)
structure Cn (E:Nat→Nat→Prop)(n:Nat)(pl:Nat→Nat)(t:Nat→Int):Prop where
 good:eU n pl t
 up:∀j,j<n→me t j→∀x,gu t j x→¬Ev E pl x j
 hi:∀j,j<n→me t j→∀y x,¬Ev E pl y j→gu t j x→pl x<pl y→gu t y x
 lo:∀j,j<n→me t j→∀x,¬iJ E x j→gu t j x
def EL (n:Nat)(t u:Nat→Int):Prop:=∀j,j<n→me t j→∀x,gu u j x→gu t j x
section
variable {E:Nat→Nat→Prop} {n:Nat} {pl:Nat→Nat} (O:zt E n pl)
include O
omit O in
theorem lQ {u t:Nat→Int}{m j:Nat}(h:pl j<m):lP pl m u t j=u j:=am h
omit O in
theorem jD {u t:Nat→Int}{m j:Nat}(h:m≤pl j):lP pl m u t j=t j:=ah (by omega)
omit O in
theorem Gj {t u:Nat→Int}{m:Nat}(h:fU E n pl t u m):lP pl m u t=u:=by
 funext j;by_cases o:pl j<m;·exact lQ o
 rw[jD (by omega),h.old j (by omega)]
theorem DD {t u:Nat→Int}{k:Nat}{v:Int}(h:fU E n pl t u (pl k))(J:k<n)(R:Il E u k v):fU E n pl t (fun j=>if j=k then v else u j) (pl k+1):=by
 refine⟨fun j C=>?_,fun k' I Y a1=>?_⟩
 ·have o:j≠k:=fun e=>by subst e;omega
  simp only[ah o];exact h.old j (by omega)
 have hm:lP pl (pl k') (fun j=>if j=k then v else u j) t=lP pl (pl k') u t:=by(
 funext j;unfold lP;by_cases C:pl j<pl k'
 ·rw[am C,am C]
  have o:j≠k:=fun e=>by subst e;omega
  exact ah o
 rw[ah C,ah C])
 rw[hm];by_cases e:k'=k
 ·subst e
  rw[Gj h,am rfl];exact R
 rw[ah e];refine h.near k' I Y ?_;have:pl k'≠pl k:=fun e'=>e (O.inj _ _ I J e');omega
omit O in
theorem Gy (t:Nat→Int)(m:Nat)(h:∀k,k<n→k≠0→m≤pl k):fU E n pl t t m:=⟨fun _ _=>rfl,fun k j o C=>by have:=h k j o;omega⟩
theorem CW {u:Nat→Int}{k:Nat}{v:Int}(G:eU n pl u)(hk:k<n)(h0:k≠0)(hf:∃p,E p k∧pl p<pl k∧me u p)(hv:Il E u k v):eU n pl (fun j=>if j=k then v else u j)∧∃c:Nat,v=c∧c<n∧pl c<pl k:=by
 obtain⟨c,rfl,hc⟩:=hv;obtain⟨p,he,a1,hp⟩:=hf;have C:=(O.edge _ _ he).1;have I:=(hc c).1 (.refl _) p he hp;have J:=oB G C I;have a6:=zI G C I;have Y:=BH G C hp I;have o:∀j,me u j→me (fun j=>if j=k then(c:Int) else u j) j:=by(
 intro j R;by_cases e:j=k;·exact .inr (by simp only[am e];omega)
 rcases R with h|h;·exact .inl h
 exact .inr (by simp only[ah e];exact h))
 refine⟨⟨?_,fun j R h=>?_,fun j R=>?_⟩,c,rfl,J.1,by omega⟩;·simp only[ah h0.symm];exact G.zero
 ·by_cases e:j=k
  ·subst e
   refine⟨c,am rfl,J.1,by omega,o c Y⟩
  simp only[ah e] at h⊢;obtain⟨q,e1,e2,e3,e4⟩:=G.low j R h;exact⟨q,e1,e2,e3,o q e4⟩
 by_cases e:j=k;·simp only[am e];omega
 simp only[ah e];exact G.neg j R
omit O in
theorem iw {t u:Nat→Int}{m:Nat}(h:fU E n pl t u m):∀j,j<n→pl j<m→me u j:=by
 intro j C hm;by_cases o:j=0;·exact .inl o
 obtain⟨c,e,_⟩:=h.near j C o hm;exact .inr (by rw[e];omega)
theorem yF {t u:Nat→Int}(G:eU n pl u)(h:fU E n pl t u n){k p x:Nat}(I:k<n)(h0:k≠0)(he:E p k)(C:pl p<pl k)(R:gu u k x):x=k∨gu u p x:=by
 obtain⟨c,e,hc⟩:=h.near k I h0 (O.lt k I);rcases oC G I e R with rfl|R;·exact .inl rfl
 right;have o:=(O.edge _ _ he).1;obtain⟨c',J,Y,a1,_⟩:=G.low k I (by omega);rw[e] at J;have J:=Int.ofNat.inj J;subst J;have hs:∀j,pl j<pl k→lP pl (pl k) u t j=u j:=fun j hj=>lQ hj;have h1:=(dP G hs Y a1 x).2 R;have hp:me (lP pl (pl k) u t) p:=by
  rcases iw h p o (O.lt p o) with h|h;·exact .inl h
  exact .inr (by rw[lQ C];exact h)
 exact(dP G hs o C x).1 ((hc x).1 h1 p he hp)
theorem qo {s t:Nat→Int}{k:Nat}(G:eU n pl t)(h0:0<pl k)(hs:∀j,pl k≤pl j→s j=t j):∀(m p:Nat),pl p≤m→p<n→me t p→pl k≤pl p→
 ∃z,z<n∧gu t p z∧pl z<pl k∧(∀x,pl x<pl k→(gu s p x↔gu s z x))∧∀x,pl x<pl k→(gu t p x↔gu t z x):=by
 intro m;induction m with
 |zero=>intro p hm J hq R;omega
 |succ m ih=>
  intro p hm J hq R;have Y:0≤t p:=by(
 rcases hq with rfl|h;·have:=O.zero;omega
 exact h)
  obtain⟨q,e,C,a7,a1⟩:=G.low p J Y;have e1:∀x,pl x<pl k→(gu s p x↔gu s q x):=by(
 intro x o;constructor
 ·intro h
  cases h with
  |refl=>omega
  |up I h'=>rw[hs p R,e] at I;have I:=Int.ofNat.inj I;subst I;exact h'
 intro h;exact .up (by rw[hs p R];exact e) h)
  have e2:∀x,pl x<pl k→(gu t p x↔gu t q x):=by(
 intro x o;constructor
 ·intro h
  rcases oC G J e h with rfl|h;·omega
  exact h
 intro h;exact .up e h)
  by_cases a6:pl q<pl k;·exact⟨q,C,.up e (.refl _),a6,e1,e2⟩
  obtain⟨z,z1,z2,z3,z4,z5⟩:=ih q (by omega) C a1 (by omega);exact⟨z,z1,.up e z2,z3,fun x o=>(e1 x o).trans (z4 x o),fun x o=>(e2 x o).trans (z5 x o)⟩
theorem Mi {t:Nat→Int}(C:∀j,j<n→t j= -1):Cn E n pl t:=by
 have J:∀j,j<n→me t j→j=0:=by
  intro j o h;rcases h with h|h;·exact h
  rw[C j o] at h;omega
 have hc:∀x,gu t 0 x→x=0:=by
  intro x h;cases h with
  |refl=>rfl
  |up e _=>rw[C 0 O.pos] at e;omega
 refine⟨⟨C 0 O.pos,fun j o h=>(by rw[C j o] at h;omega),fun j o=>(by rw[C j o];omega)⟩,fun j o h x I=>?_,fun j o h y x _ I R=>?_,fun j o h x I=>?_⟩
 ·have:=J j o h;subst this;rw[hc x I];intro h;cases h with
  |zero h=>exact h rfl
  |step _ _ _ h=>exact h rfl
 ·have:=J j o h;subst this;by_cases Y:y=0;·rw[Y,O.zero] at R;omega
  rename_i hf;exact absurd (.zero Y) hf
 have:=J j o h;subst this;by_cases e:x=0;·subst e;exact .refl _
 exact absurd (.zero e) I
theorem Gz {t u:Nat→Int}(L:Cn E n pl t)(G:eU n pl u)(h:fU E n pl t u n):Cn E n pl u:=by
 have hU:∀(m j:Nat),pl j≤m→j<n→∀x,gu u j x→¬Ev E pl x j:=by(
 intro m;induction m with
 |zero=>
  intro j hm o x I hf;have:j=0:=O.inj j 0 o O.pos (by have:=O.zero;omega);subst this;have a1:x=0:=by(
 cases I with
 |refl=>rfl
 |up e _=>rw[G.zero] at e;omega)
  subst a1;cases hf with
  |zero h=>exact h rfl
  |step _ _ _ h=>exact h rfl
 |succ m ih=>
  intro j hm o x I hf;by_cases h0:j=0;·(
 subst h0;have a1:x=0:=by
  cases I with
  |refl=>rfl
  |up e _=>rw[G.zero] at e;omega
 subst a1;cases hf with
 |zero h=>exact h rfl
 |step _ _ _ h=>exact h rfl)
  cases hf with
  |zero h=>exact h0 rfl
  |step b0 he J b1=>
   rcases yF O G h o h0 he J I with e|h1;·exact b1 e.symm
   exact ih _ (by omega) (O.edge _ _ he).1 x h1 b0)
 refine⟨G,fun j o _=>hU _ j (bj _) o,?_,?_⟩
 ·have:∀(m j:Nat),pl j≤m→j<n→∀y x,¬Ev E pl y j→gu u j x→pl x<pl y→gu u y x:=by(
 intro m;induction m with
 |zero=>
  intro j hm o y x hy I J;have:=wE O o hy;rcases this with rfl|h;·exact I
  omega
 |succ m ih=>
  intro j hm o y x hy I J;rcases wE O o hy with rfl|b8;·exact I
  have h0:j≠0:=fun e=>by subst e;have:=O.zero;omega
  obtain⟨p,he,a6⟩:=O.fwd j o h0;rcases yF O G h o h0 he a6 I with e|h1;·subst e;omega
  refine ih p (by omega) (O.edge _ _ he).1 y x (fun hf=>?_) h1 J;by_cases e:j=y;·subst e;omega
  exact hy (.step hf he a6 e))
  exact fun j o _=>this _ j (bj _) o
 have:∀(m j:Nat),pl j≤m→j<n→∀x,¬iJ E x j→gu u j x:=by(
 intro m;induction m with
 |zero=>
  intro j hm o x I;rcases zN O o I with e|h';·subst e;exact .refl _
  omega
 |succ m ih=>
  intro k hm hk x I;rcases zN O hk I with e|a7;·subst e;exact .refl _
  have h0:k≠0:=fun e=>by subst e;have:=O.zero;omega
  have b2:0<pl k:=by omega
  obtain⟨c,e,hc⟩:=h.near k hk h0 (O.lt k hk);obtain⟨c',e',b3,b4,_⟩:=G.low k hk (by omega);rw[e] at e';have e':=Int.ofNat.inj e';subst e';have hs:∀j,pl j<pl k→lP pl (pl k) u t j=u j:=fun j o=>lQ o;refine .up e ((dP G hs b3 b4 x).1 ((hc x).2 fun p he hp=>?_));have C:=(O.edge _ _ he).1;have R:¬iJ E x p:=fun hr=>by(
 by_cases e2:k=x;·subst e2;omega
 exact I (.step hr he e2))
  by_cases b5:pl p<pl k;·exact(dP G hs C b5 x).2 (ih p (by omega) C x R)
  have Y:me t p:=by(
 rcases hp with h|h;·exact .inl h
 exact .inr (by rw[jD (by omega)] at h;exact h))
  have b6:=L.lo p C Y x R;obtain⟨z,z1,z2,z3,z4,z5⟩:=qo O (s:=lP pl (pl k) u t) L.good b2 (fun j o=>jD o) _ p (bj _) C Y (by omega);refine(z4 x a7).2 ((dP G hs z1 z3 x).2 (ih z (by omega) z1 x ?_));have b7:=(z5 x a7).1 b6;rcases (oB L.good z1 b7).2 with e2|a8;·(
 subst e2;intro hr;have b9:=L.up p C Y x z2;have:=zN O C R;exact absurd hr (by
  intro hr;cases hr with
  |zero h=>exact h rfl
  |step _ _ h=>exact h rfl))
  exact ID O C R (L.up p C Y z z2) a8)
 exact fun j o _=>this _ j (bj _) o
theorem DC {t0 t u:Nat→Int}(L0:Cn E n pl t0)(L:Cn E n pl t)(h0:fU E n pl t0 t n)(M:EL n t0 t)(G:eU n pl u)(h:fU E n pl t u n):EL n t u:=by
 have:∀(m k:Nat),pl k≤m→k<n→∀x,gu u k x→gu t k x:=by(
 intro m;induction m with
 |zero=>
  intro k hm C x hx;have:k=0:=O.inj k 0 C O.pos (by have:=O.zero;omega);subst this;cases hx with
  |refl=>exact .refl _
  |up e _=>rw[G.zero] at e;omega
 |succ m ih=>
  intro k hm C x hx;by_cases J:k=0
  ·subst J;cases hx with
   |refl=>exact .refl _
   |up e _=>rw[G.zero] at e;omega
  have b0:0<pl k:=by have:pl k≠pl 0:=fun e=>J (O.inj _ _ C O.pos e);have:=O.zero;omega
  obtain⟨c,e,hc⟩:=h.near k C J (O.lt k C);rcases oC G C e hx with rfl|b1;·exact .refl _
  obtain⟨c',e',b2,b7,_⟩:=G.low k C (by omega);rw[e] at e';have e':=Int.ofNat.inj e';subst e';have R:pl x<pl k:=by have:=zI G b2 b1;omega
  have hs:∀j,pl j<pl k→lP pl (pl k) u t j=u j:=fun j hj=>lQ hj;have b3:=(hc x).1 ((dP G hs b2 b7 x).2 b1);obtain⟨d,ed,hd⟩:=h0.near k C J (O.lt k C);obtain⟨d',Y,b8,b9,_⟩:=L.good.low k C (by omega);rw[ed] at Y;have Y:=Int.ofNat.inj Y;subst Y;have a1:∀j,pl j<pl k→lP pl (pl k) t t0 j=t j:=fun j hj=>lQ hj;refine .up ed ((dP L.good a1 b8 b9 x).1 ((hd x).2 fun p he hp=>?_));have o:=(O.edge _ _ he).1;have a6:me t p:=iw h0 p o (O.lt p o);have c0:me u p:=iw h p o (O.lt p o);by_cases a7:pl p<pl k
  ·have a8:me (lP pl (pl k) u t) p:=by(
 rcases c0 with h|h;·exact .inl h
 exact .inr (by rw[lQ a7];exact h))
   exact(dP L.good a1 o a7 x).2 (ih p (by omega) o x ((dP G hs o a7 x).1 (b3 p he a8)))
  have I:me t0 p:=by(
 rcases hp with h|h;·exact .inl h
 exact .inr (by rw[jD (by omega)] at h;exact h))
  have a8:me (lP pl (pl k) u t) p:=by(
 rcases a6 with h|h;·exact .inl h
 exact .inr (by rw[jD (by omega)];exact h))
  obtain⟨y,y1,y2,y3,y4,y5⟩:=qo O (s:=lP pl (pl k) u t) L.good b0 (fun j hj=>jD hj) _ p (bj _) o a6 (by omega);have c1:=ih y (by omega) y1 x ((dP G hs y1 y3 x).1 ((y4 x R).1 (b3 p he a8)));have b4:=(y5 x R).2 c1;have b5:=M p o I x b4;obtain⟨z,z1,z2,z3,z4,z5⟩:=qo O (s:=lP pl (pl k) t t0) L0.good b0 (fun j hj=>jD hj) _ p (bj _) o I (by omega);refine(z4 x R).2 ((dP L.good a1 z1 z3 x).2 ?_);rcases (oB L0.good z1 ((z5 x R).1 b5)).2 with e2|b6;·subst e2;exact .refl _
  exact L.hi p o a6 z x (L0.up p o I z z2) b4 b6)
 exact fun k C _ x hx=>this _ k (bj _) C x hx
def rW (E:Nat→Nat→Prop)(n:Nat)(pl:Nat→Nat)(t:Nat→Int):Prop:=Cn E n pl t∧∀u,eU n pl u→fU E n pl t u n→EL n t u
theorem Jk {t:Nat→Int}(o:∀j,j<n→t j= -1):rW E n pl t:=by
 refine⟨Mi O o,fun u G _ j C I x J=>?_⟩;have:j=0:=by
  rcases I with h|h;·exact h
  rw[o j C] at h;omega
 subst this;cases J with
 |refl=>exact .refl _
 |up e _=>rw[G.zero] at e;omega
theorem sG {t u:Nat→Int}(K:rW E n pl t)(G:eU n pl u)(h:fU E n pl t u n):rW E n pl u:=by have L:=Gz O K.1 G h;exact⟨L,fun v j o=>DC O K.1 L h (K.2 u G h) j o⟩
theorem BG {t:Nat→Int}(K:rW E n pl t)(h:fU E n pl t t n){j x:Nat}(C:j<n):gu t j x↔¬iJ E x j:=by
 have I:∀j,j<n→me t j:=fun j C=>iw h j C (O.lt j C);constructor;·(
 intro J hr;have G:=K.1.good;clear K;revert J;induction hr with
 |zero o=>
  intro J;cases J with
  |refl=>exact o rfl
  |up e _=>rw[G.zero] at e;omega
 | @step a b a1 he o ih=>
   intro J;have ha:=(O.edge _ _ he).1;by_cases R:b=0;·(
 subst R;cases J with
 |refl=>exact o rfl
 |up e _=>rw[G.zero] at e;omega)
   obtain⟨c,e,hc⟩:=h.near b C R (O.lt b C);have hm:lP pl (pl b) t t=t:=by funext i;unfold lP;split<;>rfl
   rw[hm] at hc;rcases oC G C e J with e2|Y;·exact o e2.symm
   exact ih ha ((hc x).1 Y a he (I a ha)))
 exact fun J=>K.1.lo j C (I j C) x J
def wQ (pl:Nat→Nat)(n:Nat)(t:Nat→Int):Nat→Nat
 |0=>0
 |k+1=>wQ pl n t k+if t k<0 then n else pl (t k).toNat
theorem GH {t u:Nat→Int}(K:rW E n pl t)(G:eU n pl u)(h:fU E n pl t u n):∀k,k≤n→wQ pl n u k≤wQ pl n t k∧((∃j,j<k∧u j≠t j)→wQ pl n u k<wQ pl n t k):=by
 have M:=K.2 u G h;intro k;induction k with
 |zero=>intro _;exact⟨bj _,fun⟨j,hj,_⟩=>by omega⟩
 |succ k ih=>
  intro hk;obtain⟨a6,J⟩:=ih (by omega);have o:k<n:=by omega
  have C:u k=t k∨(if u k<0 then n else pl (u k).toNat)<(if t k<0 then n else pl (t k).toNat):=by(
 by_cases h0:k=0;·subst h0;left;rw[G.zero,K.1.good.zero]
 have hu:0≤u k:=(iw h k o (O.lt k o)).resolve_left h0;obtain⟨c,e,R,a7,_⟩:=G.low k o hu;by_cases ht:t k<0
 ·right
  rw[am ht,ah (by omega),e,fD];exact O.lt c R
 obtain⟨d,Y,a1,a8,_⟩:=K.1.good.low k o (by omega);have:=M k o (.inr (by omega)) c (.up e (.refl _));rcases oC K.1.good o Y this with e3|h3;·subst e3;omega
 rcases (oB K.1.good a1 h3).2 with e4|h4;·subst e4;left;rw[e,Y]
 right;rw[ah ht,ah (by omega),e,Y,fD,fD];exact h4)
  simp only[wQ];refine⟨?_,fun⟨j,hj,I⟩=>?_⟩
  ·rcases C with e|h1;·rw[e];omega
   omega
  rcases C with e|h1;·have b0:j≠k:=fun e'=>I (by rw[e'];exact e);have:=J ⟨j,by omega,I⟩;rw[e];omega
  omega
end
end
section
def iV (x:bI):List Int:=if x.kind=12∧x.No≠x.ref then [x.ref,x.No] else if x.kind=12∨x.kind=11 then [x.ref] else []
def Jv:bI:=⟨0,0,0,0,0,[],[],0,0⟩
def iM (l:List bI):bI:=l.getD (l.length-1) Jv
def aM (b:av):List (List Int):=b.Nm.map fun l=>iV (iM l)
def dH (b:av)(k:Nat):Int:=((b.Nm.getD k []).getD 0 Jv).Np
def mv (b:av)(v:Int)(i k:Nat):Prop:=∃l x,b.Nm[i]? =some l∧l[k]? =some x∧x.dst=v
def ju (b:av)(v:Int)(blk:Nat):Prop:=v<b.params∨∃i k,mv b v i k∧¬iJ (fd (aM b)) i blk
def ky (b:av)(v:Int)(blk at':Nat):Prop:=v<b.params∨∃i k,mv b v i k∧if i=blk then k<at' else¬iJ (fd (aM b)) i blk
def iZ (b:av)(x:bI)(blk:Nat):Prop:=x.Nn.Nodup∧∀a,a∈x.Nn↔∃i:Nat,a=i∧fd (aM b) i blk
open Classical in
noncomputable def uj (b:av)(i k:Nat)(x:bI):Int:=
 if x.kind=3 then(if iZ b x i then(if∀(m:Nat) v f,x.args[m]? =some v→x.Nn[m]? =some f→ju b v f.toNat then 0 else 19) else 18)
 else if∀v∈x.args,ky b v i k then 0 else 19
def lH (f:Nat→Nat→bI→Int)(L:List (List bI)):Int×Int:=(((L.mapIdx fun i l=>l.mapIdx fun k x=>(x.Np,f i k x)).flatten.find? fun t=>decide (t.2≠0)).getD (0,0))
theorem sy {α:Type}{p:α→Bool}{l r:List α}{x:α}(h:∀y∈l,p y=false)(j:p x=true):(l++x::r).find? p=some x:=by
 induction l with
 |nil=>simp[j]
 |cons a l o=>rw[List.cons_append,List.find?_cons,h a (List.mem_cons_self ..)];exact o fun y C=>h y (List.mem_cons_of_mem _ C)
theorem ng {α:Type}{l:List α}{i:Nat}{x:α}(h:l[i]? =some x):l=l.take i++x::l.drop (i+1):=by obtain⟨hi,rfl⟩:=lS.1 h;rw[List.getElem_cons_drop,List.take_append_drop]
def kJ (ll:List (List Int))(k:Nat):Prop:=k<ll.length∧¬bm ll 0 k
def iK (ll:List (List Int))(k:Nat):Prop:=k<ll.length∧¬∃e,bm ll k e∧ll[e]? =some []
open Classical in
noncomputable def cz (P:Nat→Prop)(n:Nat):Int:=match (List.range n).find? fun k=>decide (P k) with|some k=>k|none=> -1
theorem gh {P:Nat→Prop}{n:Nat}(h:∀k,k<n→¬P k):cz P n= -1:=by unfold cz;rw[List.find?_eq_none.2];intro k j;simp[h k (dW.1 j)]
theorem qu {P:Nat→Prop}{n k:Nat}(C:k<n)(h:∀j,j<k→¬P j)(I:P k):cz P n=k:=by
 unfold cz;rw[ng (show(List.range n)[k]? =some k by rw[nZ C]),sy]
 ·intro y o
  rw[List.take_range] at o;have:=dW.1 o;simp[h y (by omega)]
 simp[I]
theorem ji (P:Nat→Prop)(n:Nat):(cz P n= -1∧∀k,k<n→¬P k)∨∃k:Nat,cz P n=k∧k<n∧P k∧∀j,j<k→¬P j:=by
 by_cases h:∃k,k<n∧P k
 ·obtain⟨k,⟨I,o⟩,hm⟩:∃k,(k<n∧P k)∧∀j,j<k→¬(j<n∧P j):=by(
 obtain⟨Y,h0⟩:=h;induction Y using Nat.strongRecOn with
 |ind m ih=>
  by_cases C:∃j,j<m∧(j<n∧P j)
  ·obtain⟨j,C,o⟩:=C
   exact ih j C o
  exact⟨m,h0,fun j J o=>C ⟨j,J,o⟩⟩)
  exact .inr ⟨k,qu I (fun j C o=>hm j C ⟨by omega,o⟩) o,I,o,fun j C R=>hm j C ⟨by omega,R⟩⟩
 exact .inl ⟨gh fun k I o=>h ⟨k,I,o⟩,fun k I o=>h ⟨k,I,o⟩⟩
open Classical in
noncomputable def oK (b:av):Int×Int:=
 if 0≤cz (kJ (aM b)) b.Nm.length then(dH b (cz (kJ (aM b)) b.Nm.length).toNat,16)
 else if 0≤cz (iK (aM b)) b.Nm.length then(dH b (cz (iK (aM b)) b.Nm.length).toNat,17)
 else if∃i,fd (aM b) i 0 then(dH b 0,18)
 else lH (uj b) b.Nm
noncomputable def mi:List av→Nat→Int×Int×Int
 | [],_=>(0,0,0)
 |b::l,i=>if(oK b).2≠0 then(i,(oK b).1,(oK b).2) else mi l (i+1)
def Bx (c:aU):Prop:=∀b∈c.Nl,(oK b).2=0
theorem oD:∀ {l:List av} {i:Nat},(∀b∈l,(oK b).2=0)→mi l i=(0,0,0)
 | [],_,_=>rfl
 |b::l,i,h=>by rw[mi,ah (by rw[h b (List.mem_cons_self ..)];simp)];exact oD fun c j=>h c (List.mem_cons_of_mem _ j)
theorem xP:∀ {l:List av} {i k:Nat} {b:av},l[k]? =some b→(∀j,j<k→∀c,l[j]? =some c→(oK c).2=0)→(oK b).2≠0→mi l i=(((i+k:Nat):Int),(oK b).1,(oK b).2)
 | [],_,_,_,h,_,_=>by simp at h
 |c::l,i,0,b,h,_,o=>by cases h;rw[mi,am o];rfl
 |c::l,i,k+1,b,h,C,o=>by rw[mi,ah (by rw[C 0 (by omega) c rfl];simp),xP (l:=l) (i:=i+1) (k:=k) (by simpa using h) (fun j J d I=>C (j+1) (by omega) d (by simpa using I)) o];congr 2;omega
end
section
section
variable (ll:List (List Int))
noncomputable def Mt (a b:Nat):Bool:=eZ ll a b&&eZ ll b a
end
section
variable {ll:List (List Int)}
def MW (ll:List (List Int))(told:Nat→Bool):Prop:=∀x y,y<ll.length→told x=true→Mt ll x y=true→told y=true
end
end
section
section
variable {ll:List (List Int)}
def MF (ll:List (List Int))(k:Nat):Prop:=∃j,fd ll k j∧bm ll j k
def Ly (ll:List (List Int))(s i:Nat):Prop:=∃k,k<ll.length∧bm ll s k∧MF ll k∧bm ll k i
inductive Ew (ll:List (List Int)) (s:Nat):Nat→Nat→Prop
 |one:Ew ll s 1 s
 |step {m b c:Nat}:Ew ll s m b→fd ll b c→Ew ll s (m+1) c
theorem Ew.pos {s m i:Nat}(h:Ew ll s m i):1≤m:=by cases h<;>omega
theorem Ly.on {s i j:Nat}(h:Ly ll s i)(k:bm ll i j):Ly ll s j:=by obtain⟨x,o,C,I,J⟩:=h;exact⟨x,o,C,I,J.trans k⟩
open Classical in
def uk (ll:List (List Int))(s:Nat)(done:Nat→Prop)(out:Nat→Int):Prop:=
 ∀j,j<ll.length→(Ly ll s j→out j= -1)∧(¬Ly ll s j→0≤out j∧(out j=0∨Ew ll s (out j).toNat j)∧(j=s→1≤out j)∧
  ∀p,done p→fd ll p j→∀m,Ew ll s m p→(m:Int)+1≤out j)
end
end
section
section
variable {ll:List (List Int)}
def rz (f:Nat→Int)(i:Nat)(v:Int):Nat→Int:=fun k=>if k=i then v else f k
theorem jp (f:Nat→Int)(i:Nat)(v:Int):rz f i v i=v:=by simp[rz]
theorem rK {f:Nat→Int}{i k:Nat}{v:Int}(h:k≠i):rz f i v k=f k:=by simp[rz,h]
theorem uk.not_bad {s:Nat}{done:Nat→Prop}{out:Nat→Int}(h:uk ll s done out){i:Nat}(hi:i<ll.length)(o:0≤out i):¬Ly ll s i:=fun j=>by have:=(h i hi).1 j;omega
theorem uk.way {s:Nat}{done:Nat→Prop}{out:Nat→Int}(h:uk ll s done out){i:Nat}(hi:i<ll.length)(o:1≤out i):Ew ll s (out i).toNat i:=by
 rcases ((h i hi).2 (h.not_bad hi (by omega))).2.1 with j|j;·omega
 exact j
theorem uk.less {s:Nat}{done o:Nat→Prop}{out:Nat→Int}(h:uk ll s done out)(J:∀p,o p→p<ll.length→done p):uk ll s o out:=by
 intro j C;refine⟨(h j C).1,fun R=>?_⟩;obtain⟨Y,h2,h3,h4⟩:=(h j C).2 R;refine⟨Y,h2,h3,fun p hp e=>h4 p (J p hp ?_) e⟩;obtain⟨row,I,_⟩:=e;rcases Nat.lt_or_ge p ll.length with h|h;·exact h
 rw[kS h] at I;cases I
theorem uk.max {s:Nat}{done:Nat→Prop}{out:Nat→Int}(h:uk ll s done out){i k:Nat}(hi:i<ll.length)(hk:k<ll.length)(e:fd ll i k)(J:1≤out i)(R:0≤out k):
 uk ll s done (rz out k (Max.max (out k) (out i+1))):=by
 intro j o;by_cases C:j=k
 ·subst C;rw[jp];have I:=h.not_bad o R;refine⟨fun x=>absurd x I,fun _=>?_⟩;obtain⟨g1,g2,g3,g4⟩:=(h j o).2 I;refine⟨by omega,?_,fun x=>by have:=g3 x;omega,fun p Y e m hm=>by have:=g4 p Y e m hm;omega⟩;by_cases hm:out j≤out i+1
  ·rw[Int.max_eq_right hm]
   right;have:=Ew.step (h.way hi J) e;rwa [show(out i+1).toNat=(out i).toNat+1 by omega]
  rw[Int.max_eq_left (by omega)];exact g2
 rw[rK C];exact h j o
end
end
section
section
variable {ll:List (List Int)}
open Classical in
noncomputable def cj (ll:List (List Int))(i k:Nat):List Int:=((List.range i).filter fun a=>decide (fd ll a k)).map fun(n:Nat)=>(n:Int)
noncomputable def fX (ll:List (List Int))(row:List Int)(i m k:Nat):List Int:=cj ll i k++if(k:Int)∈row.take m then [(i:Int)] else []
theorem vE (i k:Nat):(cj ll i k).length≤i:=by unfold cj;rw[aZ];exact dA (List.length_filter_le _ _) (by simp)
theorem Az (row:List Int)(i m k:Nat):(fX ll row i m k).length≤i+1:=by have:=vE (ll:=ll) i k;unfold fX;rw[eV];split<;>simp<;>omega
theorem gX {i k:Nat}{x:Int}:x∈cj ll i k↔∃a:Nat,x=a∧a<i∧fd ll a k:=by
 simp only[cj,dt,List.mem_filter,dW,eq];constructor;·rintro⟨a,⟨j,o⟩,rfl⟩;exact⟨a,rfl,j,o⟩
 rintro⟨a,rfl,j,o⟩;exact⟨a,⟨j,o⟩,rfl⟩
theorem GM (row:List Int)(i k:Nat):fX ll row i 0 k=cj ll i k:=by simp[fX]
theorem yM {row:List Int}{i k:Nat}(h:ll[i]? =some row):fX ll row i row.length k=cj ll (i+1) k:=by
 unfold fX cj;rw[jx,List.range_succ,qj,gU];congr 1;by_cases j:(k:Int)∈row
 ·have:fd ll i k:=⟨row,h,j⟩
  simp[j,this]
 have:¬fd ll i k:=by rintro⟨r,o,C⟩;rw[h] at o;cases o;exact j C
 simp[j,this]
theorem AA {row:List Int}{i m k:Nat}(hm:m<row.length)(C:row.Nodup)(o:row[m]=(k:Int)):fX ll row i (m+1) k=fX ll row i m k++[(i:Int)]:=by
 have I:(k:Int)∈row.take (m+1):=by rw[dT,lG hm,o];simp
 have J:(k:Int)∉row.take m:=by intro h;obtain⟨j,R,e⟩:=List.getElem_of_mem h;rw[kQ] at R;rw[List.getElem_take] at e;exact(List.pairwise_iff_getElem.1 C) j m (by omega) hm (by omega) (by rw[e,o])
 unfold fX;rw[am I,ah J,List.append_nil]
theorem DN {row:List Int}{i m k j:Nat}(hm:m<row.length)(o:row[m]=(k:Int))(C:j≠k):fX ll row i (m+1) j=fX ll row i m j:=by
 have I:((j:Int)∈row.take (m+1))=((j:Int)∈row.take m):=by(
 rw[dT,lG hm,o];simp only[dV,Option.toList_some,ce,eq_iff_iff];constructor
 ·rintro(h|h)
  ·exact h
  exact absurd (by omega) C
 exact fun h=>.inl h)
 unfold fX;simp only[I]
end
end
section
section
variable {α:Type} {L:List (List α)}
theorem pE {i k:Nat}{l:List α}{x:α}(hi:L[i]? =some l)(o:l[k]? =some x):L.flatten[(L.take i).flatten.length+k]? =some x:=by
 have j:=(lS.1 o).1;have e:L.flatten=(L.take i).flatten++(l++(L.drop (i+1)).flatten):=by rw[←List.flatten_cons,←List.flatten_append,←ng hi]
 rw[e,jQ (by omega),Nat.add_sub_cancel_left,lC j];exact o
theorem BM {i j:Nat}{l:List α}(hi:L[i]? =some l)(o:i<j):(L.take i).flatten.length+l.length≤(L.take j).flatten.length:=by
 have e:(L.take j)[i]? =some l:=by rw[Cu o];exact hi
 conv=>rhs;rw[ng e]
 rw[List.flatten_append,List.flatten_cons,eV,eV,List.take_take,Nat.min_eq_left (Nat.le_of_lt o)];omega
theorem Fz {i k j m:Nat}{l r:List α}(hi:L[i]? =some l)(C:k<l.length)(o:L[j]? =some r)(hm:m<r.length)(e:(L.take i).flatten.length+k=(L.take j).flatten.length+m):i=j∧k=m:=by
 rcases Nat.lt_trichotomy i j with h|h|h;·have:=BM hi h;omega
 ·subst h;exact⟨rfl,by omega⟩
 have:=BM o h;omega
theorem rF:∀ {L:List (List α)} {n:Nat} {x:α},L.flatten[n]? =some x→∃i k l,L[i]? =some l∧l[k]? =some x∧n=(L.take i).flatten.length+k
 | [],n,x,h=>by simp at h
 |l::L,n,x,h=>by(
 rw[List.flatten_cons] at h;by_cases j:n<l.length
 ·rw[lC j] at h
  exact⟨0,n,l,rfl,h,by simp⟩
 rw[jQ (by omega)] at h;obtain⟨i,k,r,o,C,I⟩:=rF h;exact⟨i+1,k,r,by simpa using o,C,by rw[List.take_succ_cons,List.flatten_cons,eV];omega⟩)
end
def og (l:List bI):Nat:=(l.filter fun x=>decide (x.dst≠-1)).length
structure jt (b:av):Prop where
 par:0≤b.params∧b.params≤6
 blk:1≤b.Nm.length∧b.Nm.length≤64
 some_:∀l∈b.Nm,1≤l.length∧11≤(iM l).kind∧(iM l).kind≤13
 ref:∀l∈b.Nm,(iM l).kind=11∨(iM l).kind=12→0≤(iM l).ref∧(iM l).ref<b.Nm.length
 No:∀l∈b.Nm,(iM l).kind=12→0≤(iM l).No∧(iM l).No<b.Nm.length
 args:∀l∈b.Nm,∀x∈l,∀a∈x.args,0≤a∧a<b.vars
 Nn:∀l∈b.Nm,∀x∈l,∀a∈x.Nn,0≤a∧a<b.Nm.length
 phi:∀l∈b.Nm,∀x∈l,x.kind=3→x.Nn.length=x.args.length∧1≤x.Nn.length∧x.Nn.length≤64
 dst:∀l∈b.Nm,∀x∈l,x.dst= -1∨b.params≤x.dst∧x.dst<b.vars
 once:∀(v:Int) (i k j m:Nat),v≠-1→mv b v i k→mv b v j m→i=j∧k=m
 all:∀v,b.params≤v→v<b.vars→∃i k,mv b v i k
 num:b.vars=b.params+og b.Nm.flatten
theorem yd {p:aI}{c:aU}{b:av}{next:Int}{x:bI}(h:ul p c b next x)(I:0≤next):x.dst=(if cD x=true then next else-1)∧(cD x=true↔x.dst≠-1):=by
 obtain⟨n,d,r,a,o,j,_⟩:=h;have C:cD x=d:=by unfold cD;rw[o]
 rw[C];refine⟨j,?_⟩;rw[j];cases d;·simp
 simp only[if_true,true_iff,ne_eq];omega
theorem CI {l:List bI}(h:∀x∈l,cD x=true↔x.dst≠-1):gL l=og l:=by rw[fG];unfold og;congr 1;refine List.filter_congr fun x j=>?_;rw[Bool.eq_iff_iff,h x j,eq]
theorem mI {l:List bI}(h:1≤l.length):iM l∈l∧l[l.length-1]? =some (iM l):=by
 have j:l.length-1<l.length:=by omega
 have:l[l.length-1]? =some (iM l):=by unfold iM;rw[iL,lG j];rfl
 exact⟨mG this,this⟩
theorem Kd {p:aI}{c:aU}{b:av}(h:ox p c b):jt b:=by
 obtain⟨h1,h2,h3,h4,h5,h6,h7⟩:=h;have hn:∀(m:Nat),0≤b.params+(gL (b.Nm.flatten.take m):Int):=fun m=>by omega
 have J:∀l∈b.Nm,∀x∈l,∃next,0≤next∧ul p c b next x:=by intro l o x I;obtain⟨i,hi⟩:=fB.1 o;obtain⟨k,C⟩:=fB.1 I;exact⟨_,hn _,h6 _ x (pE hi C)⟩
 have b5:∀x∈b.Nm.flatten,cD x=true↔x.dst≠-1:=by intro x I;obtain⟨l,o,I⟩:=List.mem_flatten.1 I;obtain⟨next,h0,ho⟩:=J l o x I;exact(yd ho h0).2
 have a7:∀(k:Nat) x,b.Nm.flatten[k]? =some x→x.dst=if cD x=true then b.params+gL (b.Nm.flatten.take k) else-1:=fun k x I=>(yd (h6 k x I) (hn k)).1;have R:∀k m:Nat,k≤m→gL (b.Nm.flatten.take k)≤gL (b.Nm.flatten.take m):=by(
 intro k m b6;have:b.Nm.flatten.take m=b.Nm.flatten.take k++(b.Nm.flatten.take m).drop k:=by have:=(List.take_append_drop k (b.Nm.flatten.take m)).symm;rwa [List.take_take,Nat.min_eq_left b6] at this
 rw[this,fG,fG,qj,eV];omega)
 have Y:∀(k:Nat) x,b.Nm.flatten[k]? =some x→cD x=true→gL (b.Nm.flatten.take (k+1))=gL (b.Nm.flatten.take k)+1:=by intro k x C hf;rw[dT,C,fG,fG,qj,eV];simp[hf]
 have a6:∀l∈b.Nm,1≤l.length∧11≤(iM l).kind:=by
  intro l o;obtain⟨s1,s2,_⟩:=h5 l o;have a8:1≤l.length:=by(
 cases l;·simp at s1
 simp)
  refine⟨a8,(s2 (l.length-1) (iM l).kind ?_).2 (by rw[aZ];omega)⟩;rw[cy,(mI a8).2];rfl
 have b0:∀l∈b.Nm,∀x∈l,1≤x.kind∧x.kind≤13:=by intro l o x I;obtain⟨next,_,n,d,r,a,e,_⟩:=J l o x I;unfold mX at e;split at e<;>first|(cases e;done)|omega|(rename_i C;rw[C];omega)
 refine⟨⟨h1,h2⟩,⟨h3,h4⟩,fun l o=>⟨(a6 l o).1,(a6 l o).2,(b0 l o _ (mI (a6 l o).1).1).2⟩,fun l o C=>?_,fun l o C=>?_,fun l o x I=>?_,fun l o x I=>?_,fun l o x I C=>?_,fun l o x I=>?_,?_,?_,?_⟩
 ·obtain⟨next,_,n,d,r,a,e,_,_,_,_,_,_,hr,_⟩:=J l o _ (mI (a6 l o).1).1;have b7:r=true:=by rcases C with C|C<;>rw[C] at e<;>cases e<;>rfl
  have:=hr b7;have hm:jE p c b (iM l).kind=b.Nm.length:=by rcases C with C|C<;>rw[C]<;>rfl
  rwa [hm] at this
 ·obtain⟨next,_,n,d,r,a,e,_,_,_,_,_,_,_,ha,_⟩:=J l o _ (mI (a6 l o).1).1
  have b8:a=true:=by rw[C] at e;cases e;rfl
  exact ha b8
 ·obtain⟨next,_,n,d,r,a,e,_,_,_,_,_,_,_,_,_,hA,_⟩:=J l o x I
  exact hA
 ·obtain⟨next,_,n,d,r,a,e,_,_,_,_,_,_,_,_,_,_,hF⟩:=J l o x I
  exact hF
 ·obtain⟨next,_,n,d,r,a,e,_,_,_,_,_,_,_,_,hc,_⟩:=J l o x I
  rwa [am C] at hc
 ·obtain⟨i,hi⟩:=fB.1 o;obtain⟨k,C⟩:=fB.1 I;have hg:=pE hi C;have e:=a7 _ x hg;by_cases hf:cD x=true;·rw[am hf] at e;have e1:=Y _ x hg hf;have e2:=R ((b.Nm.take i).flatten.length+k+1) b.Nm.flatten.length (lS.1 hg).1;rw[jx] at e2;right;omega
  rw[ah hf] at e;exact .inl e
 ·(
 rintro v i k j m hv ⟨l,x,a1,a2,a3⟩ ⟨r,y,b1,b2,b3⟩;have g1:=pE a1 a2;have g2:=pE b1 b2;have e1:=a7 _ x g1;have e2:=a7 _ y g2;have f1:cD x=true:=by
  by_cases hf:cD x=true;·exact hf
  rw[ah hf] at e1;omega
 have f2:cD y=true:=by
  by_cases hf:cD y=true;·exact hf
  rw[ah hf] at e2;omega
 rw[am f1] at e1;rw[am f2] at e2;have n1:=Y _ x g1 f1;have n2:=Y _ y g2 f2;refine Fz a1 (lS.1 a2).1 b1 (lS.1 b2).1 ?_;rcases Nat.lt_trichotomy ((b.Nm.take i).flatten.length+k) ((b.Nm.take j).flatten.length+m) with b4|heq|b4;·have:=R (((b.Nm.take i).flatten.length+k)+1) _ b4;omega
 ·exact heq
 have:=R (((b.Nm.take j).flatten.length+m)+1) _ b4;omega)
 ·intro v c0 c1;have hr:=uO h1 b.Nm.flatten a7;have hm:v∈(b.Nm.flatten.filter fun x=>decide (0≤x.dst)).map fun x=>x.dst:=by rw[hr];refine dt.2 ⟨(v-b.params).toNat,dW.2 ?_,?_⟩<;>omega
  obtain⟨x,I,rfl⟩:=dt.1 hm;obtain⟨n,b9⟩:=fB.1 (List.mem_filter.1 I).1;obtain⟨i,k,l,a1,a2,_⟩:=rF b9;exact⟨i,k,l,x,a1,a2,rfl⟩
 rw[h7,CI b5]
end
section
section
variable {ll:List (List Int)} {k:Nat} {l:List Int}
theorem mC {a b:Nat}(h:fd ll a b):a<ll.length:=by obtain⟨row,h,_⟩:=h;exact(lS.1 h).1
theorem tB (i k:Nat):(cj ll i k).Pairwise (·<·):=by unfold cj;refine List.pairwise_map.2 ((List.Pairwise.filter _ List.pairwise_lt_range).imp fun h=>?_);omega
def oy (ll:List (List Int))(l:List Int)(k:Nat):Prop:=l.Nodup∧∀a,a∈l↔∃i:Nat,a=i∧fd ll i k
theorem je:oy ll (cj ll ll.length k) k:=by
 refine⟨(tB _ _).imp fun h=>by omega,fun a=>?_⟩;rw[gX];constructor;·rintro⟨i,e,_,h⟩;exact⟨i,e,h⟩
 rintro⟨i,e,h⟩;exact⟨i,e,mC h,h⟩
theorem rj {l m:List Int}(h:l.Perm m):oy ll l k↔oy ll m k:=by unfold oy;rw[h.nodup_iff];simp only[h.mem_iff]
theorem wZ {s:List Int}(I:s.Perm l)(J:s.Pairwise (·≤·)):s=cj ll ll.length k↔oy ll l k:=by
 constructor
 ·rintro rfl
  exact(rj I).1 je
 intro h;have j:=(rj I).2 h;have o:oy ll (cj ll ll.length k) k:=je;have C:s.Perm (cj ll ll.length k):=(List.perm_ext_iff_of_nodup j.1 o.1).2 fun a=>by rw[j.2,o.2]
 exact C.eq_of_pairwise (fun a b _ _ j o=>by omega) J ((tB _ _).imp fun h=>by omega)
open Classical in
end
theorem AC {b:av}{x:bI}{blk:Nat}:iZ b x blk↔oy (aM b) x.Nn blk:=Iff.rfl
theorem JK {b:av}{i:Nat}{l:List bI}(h:b.Nm[i]? =some l):(aM b)[i]? =some (iV (iM l)):=by unfold aM;rw[cy,h];rfl
theorem cB (b:av):(aM b).length=b.Nm.length:=by simp[aM]
theorem ix {b:av}(h:jt b):bV (aM b):=by
 refine⟨by rw[cB];exact h.blk.1,by rw[cB];have:=h.blk.2;omega,fun row R=>?_⟩;rw[cB];obtain⟨l,I,rfl⟩:=dt.1 R;have J:=h.ref l I;have Y:=h.No l I;unfold iV;by_cases o:(iM l).kind=12∧(iM l).No≠(iM l).ref
 ·rw[am o];have r1:=J (.inr o.1);have r2:=Y o.1;refine⟨fun k j=>?_,?_⟩
  ·rcases fV.1 j with rfl|j
   ·exact r1
   rw[ce.1 j];exact r2
  rw[List.nodup_cons,ce];exact⟨fun e=>o.2 e.symm,by simp⟩
 rw[ah o];by_cases C:(iM l).kind=12∨(iM l).kind=11
 ·rw[am C]
  have r1:=J C.symm;refine⟨fun k j=>?_,by simp⟩;rw[ce.1 j];exact r1
 rw[ah C];exact⟨fun k j=>by(cases j),by simp⟩
end
theorem DP {ll:List (List Int)}{a b:Nat}(j:b<ll.length):(gZ ll a)[b]? =some (eZ ll a b):=by simp[gZ,j]
theorem xO (A:Option Addr)(n cap:Nat)(w:World)(o:n≤cap)(C:cap≤9223372036854775807):Calls prog 30 #[.slice A n cap] w fun e j=>e=.returned (.slice A n n)∧w=j:=by
 have I:n≤9223372036854775807:=by omega
 go_enter func30,ntmps30;go_wp2;go_ret;exact⟨rfl,rfl⟩


end Go.Proofs.YtccbbkopmlnkpaaGreatDoor
