/- Plain laws on the entries of a graph, told by its groups from the last to the first. No program in sight. -/
import Derived.Test.YtjfonoiclndgnaaGE
namespace Go.Proofs.Ytjfonoiclndgnaa

section
variable {ll : List (List Int)}
/-- a function with one place laid anew -/
def setI (f : Nat → Int) (i : Nat) (v : Int) : Nat → Int := fun k => if k = i then v else f k
theorem setI_self (f : Nat → Int) (i : Nat) (v : Int) : setI f i v i = v := by simp [setI]
theorem setI_ne {f : Nat → Int} {i k : Nat} {v : Int} (h : k ≠ i) : setI f i v k = f k := by simp [setI, h]

theorem EInv.not_bad {s : Nat} {done : Nat → Prop} {out : Nat → Int} (h : EInv ll s done out) {i : Nat} (hi : i < ll.length) (h0 : 0 ≤ out i) : ¬ Bad ll s i := fun hb => by
  have := (h i hi).1 hb; omega
theorem EInv.way {s : Nat} {done : Nat → Prop} {out : Nat → Int} (h : EInv ll s done out) {i : Nat} (hi : i < ll.length) (h1 : 1 ≤ out i) : Way ll s (out i).toNat i := by
  rcases ((h i hi).2 (h.not_bad hi (by omega))).2.1 with h2 | h2
  · omega
  · exact h2
theorem EInv.bound {s : Nat} {done : Nat → Prop} {out : Nat → Int} (h : EInv ll s done out) (hC : Closed ll) (hs : s < ll.length) {i : Nat} (hi : i < ll.length) : -1 ≤ out i ∧ out i ≤ ll.length := by
  by_cases hb : Bad ll s i
  · have := (h i hi).1 hb; omega
  · obtain ⟨h1, h2, _⟩ := (h i hi).2 hb
    rcases h2 with h2 | h2
    · omega
    · have := way_le hC hs h2 hb
      omega
theorem EInv.less {s : Nat} {done done' : Nat → Prop} {out : Nat → Int} (h : EInv ll s done out) (hd : ∀ p, done' p → p < ll.length → done p) : EInv ll s done' out := by
  intro j hj
  refine ⟨(h j hj).1, fun hb => ?_⟩
  obtain ⟨h1, h2, h3, h4⟩ := (h j hj).2 hb
  refine ⟨h1, h2, h3, fun p hp e => h4 p (hd p hp ?_) e⟩
  obtain ⟨row, hr, _⟩ := e
  rcases Nat.lt_or_ge p ll.length with h | h
  · exact h
  · rw [List.getElem?_eq_none h] at hr; cases hr
theorem EInv.max {s : Nat} {done : Nat → Prop} {out : Nat → Int} (h : EInv ll s done out) {i k : Nat} (hi : i < ll.length) (hk : k < ll.length) (e : Adj ll i k) (h1 : 1 ≤ out i) (h0 : 0 ≤ out k) :
    EInv ll s done (setI out k (Max.max (out k) (out i + 1))) := by
  intro j hj
  by_cases ej : j = k
  · subst ej
    rw [setI_self]
    have hb := h.not_bad hj h0
    refine ⟨fun x => absurd x hb, fun _ => ?_⟩
    obtain ⟨g1, g2, g3, g4⟩ := (h j hj).2 hb
    refine ⟨by omega, ?_, fun x => by have := g3 x; omega, fun p hp e m hm => by have := g4 p hp e m hm; omega⟩
    by_cases hm : out j ≤ out i + 1
    · rw [Int.max_eq_right hm]
      right
      have := Way.step (h.way hi h1) e
      rwa [show (out i + 1).toNat = (out i).toNat + 1 by omega]
    · rw [Int.max_eq_left (by omega)]; exact g2
  · rw [setI_ne ej]; exact h j hj
theorem EInv.node {s : Nat} {done : Nat → Prop} {out : Nat → Int} (h : EInv ll s done out) {i : Nat} (full : ¬ Bad ll s i → ∀ m, Way ll s m i → (m : Int) ≤ out i) (hrow : 1 ≤ out i → ∀ k, Adj ll i k → ¬ Bad ll s k → out i + 1 ≤ out k) :
    EInv ll s (fun p => done p ∨ p = i) out := by
  intro j hj
  refine ⟨(h j hj).1, fun hb => ?_⟩
  obtain ⟨h1, h2, h3, h4⟩ := (h j hj).2 hb
  refine ⟨h1, h2, h3, fun p hp e m hm => ?_⟩
  rcases hp with hp | rfl
  · exact h4 p hp e m hm
  · have hbp : ¬ Bad ll s p := fun x => hb (x.on (.step .refl e))
    have := full hbp m hm
    have := hm.pos
    have := hrow (by omega) j e hb
    omega

/-- those of the first r groups from the end -/
def doneR (ll : List (List Int)) (r : Nat) (p : Nat) : Prop := ∃ g ∈ (groupsAll ll).reverse.take r, (p : Int) ∈ g
theorem done_adj {s : Nat} {r : Nat} {G : List Int} (hG : (groupsAll ll).reverse[r]? = some G) {i : Nat} (hi : (i : Int) ∈ G) (hb : ¬ Bad ll s i) (_ : i < ll.length) (p : Nat) (hp : Reach ll s p) (e : Adj ll p i) : doneR ll r p := by
  have hpl : p < ll.length := by
    obtain ⟨row, hr, _⟩ := e
    rcases Nat.lt_or_ge p ll.length with h | h
    · exact h
    · rw [List.getElem?_eq_none h] at hr; cases hr
  obtain ⟨hlt, hGe⟩ := List.getElem?_eq_some_iff.1 hG
  have hsplit : (groupsAll ll).reverse = (groupsAll ll).reverse.take r ++ G :: (groupsAll ll).reverse.drop (r + 1) := by
    rw [← hGe, ← List.drop_eq_getElem_cons hlt, List.take_append_drop]
  have hrev : groupsAll ll = ((groupsAll ll).reverse.drop (r + 1)).reverse ++ G :: ((groupsAll ll).reverse.take r).reverse := by
    have := congrArg List.reverse hsplit
    rw [List.reverse_reverse] at this
    rw [List.reverse_append, List.reverse_cons, List.append_assoc] at this
    exact this
  obtain ⟨g', hg', hpg⟩ := groups_order (ll.length + 1) (fun _ => false) (Nat.lt_succ_of_le (unv_bd _ _)) (fun x y _ h => by cases h) (fun x y _ h => by cases h) _ _ _ hrev i p hi hpl (.step .refl e)
  rcases List.mem_cons.1 hg' with rfl | hg'
  · have hmem : g' ∈ groupsAll ll := by rw [hrev]; simp
    exact absurd (bad_circ hpl hp e (groups_same _ _ _ hmem i p hi hpg)) fun x => hb (x.on (.step .refl e))
  · exact ⟨g', List.mem_reverse.1 hg', hpg⟩
theorem done_end {s : Nat} {out : Nat → Int} (h : EInv ll s (doneR ll (groupsAll ll).length) out) : EInv ll s (fun _ => True) out := by
  refine h.less fun p _ hp => ?_
  rcases groups_cover (ll.length + 1) (fun _ => false) (Nat.lt_succ_of_le (unv_bd _ _)) p hp with h | ⟨g, hg, hpg⟩
  · cases h
  · exact ⟨g, by rw [List.take_of_length_le (by simp)]; exact List.mem_reverse.2 hg, hpg⟩
theorem done_next {r : Nat} {G : List Int} (hG : (groupsAll ll).reverse[r]? = some G) (p : Nat) : doneR ll (r + 1) p → doneR ll r p ∨ (p : Int) ∈ G := by
  rintro ⟨g, hg, hp⟩
  rw [List.take_add_one, hG] at hg
  rcases List.mem_append.1 hg with hg | hg
  · exact .inl ⟨g, hg, hp⟩
  · rw [show g = G by simpa using hg] at hp; exact .inr hp
theorem groups_some (h : 1 ≤ ll.length) : 1 ≤ (groupsAll ll).length := by
  rcases groups_cover (ll.length + 1) (fun _ => false) (Nat.lt_succ_of_le (unv_bd _ _)) 0 (by omega) with h | ⟨g, hg, _⟩
  · cases h
  · exact List.length_pos_of_mem hg

/-- is a node that s reaches in a circle? by its row -/
noncomputable def circB (ll : List (List Int)) (s i : Nat) : Bool := reachB ll s i && (ll[i]?.getD []).any (fun x => reachB ll x.toNat i)
theorem circB_iff {s i : Nat} (hn : ∀ x ∈ ll[i]?.getD [], ∃ n : Nat, x = n ∧ n < ll.length) : circB ll s i = true ↔ Reach ll s i ∧ Circ ll i := by
  unfold circB
  rw [Bool.and_eq_true, reachB_iff, List.any_eq_true]
  refine and_congr_right fun _ => ⟨?_, ?_⟩
  · rintro ⟨x, hx, hr⟩
    obtain ⟨n, rfl, hnl⟩ := hn x hx
    refine ⟨n, ?_, reachB_iff.1 hr⟩
    cases hl : ll[i]? with
    | none => rw [hl] at hx; simp at hx
    | some row => rw [hl] at hx; exact ⟨row, hl, hx⟩
  · rintro ⟨j, ⟨row, hl, hj⟩, hr⟩
    exact ⟨j, by rw [hl]; exact hj, by simpa using reachB_iff.2 hr⟩
/-- is there a node of the first k in a circle that reaches i? -/
noncomputable def badK (ll : List (List Int)) (s i k : Nat) : Bool := (List.range k).any fun a => circB ll s a && reachB ll a i
theorem badK_succ (s i k : Nat) : badK ll s i (k + 1) = (badK ll s i k || (circB ll s k && reachB ll k i)) := by
  simp [badK, List.range_succ]
theorem badK_iff {s i : Nat} (hn : ∀ j : Nat, ∀ x ∈ ll[j]?.getD [], ∃ n : Nat, x = n ∧ n < ll.length) : badK ll s i ll.length = true ↔ Bad ll s i := by
  unfold badK Bad
  simp only [List.any_eq_true, List.mem_range, Bool.and_eq_true]
  constructor
  · rintro ⟨k, h1, h2, h3⟩
    obtain ⟨h4, h5⟩ := (circB_iff (hn k)).1 h2
    exact ⟨k, h1, h4, h5, reachB_iff.1 h3⟩
  · rintro ⟨k, h1, h4, h5, h3⟩
    exact ⟨k, h1, (circB_iff (hn k)).2 ⟨h4, h5⟩, reachB_iff.2 h3⟩
/-- what stands at the start -/
noncomputable def out0 (ll : List (List Int)) (s i : Nat) : Int := if badK ll s i ll.length then -1 else 0
theorem einv_start {s : Nat} (hn : ∀ j : Nat, ∀ x ∈ ll[j]?.getD [], ∃ n : Nat, x = n ∧ n < ll.length) :
    EInv ll s (doneR ll 0) (if out0 ll s s = 0 then setI (out0 ll s) s 1 else out0 ll s) := by
  intro j hj
  have hj' := badK_iff (s := s) (i := j) hn
  have hs' := badK_iff (s := s) (i := s) hn
  by_cases hb : Bad ll s j
  · have e : out0 ll s j = -1 := by unfold out0; rw [if_pos (hj'.2 hb)]
    refine ⟨fun _ => ?_, fun h => absurd hb h⟩
    split
    · rename_i h0
      rw [setI_ne]; exact e
      rintro rfl
      rw [e] at h0; cases h0
    · exact e
  · have e : out0 ll s j = 0 := by unfold out0; rw [if_neg fun h => hb (hj'.1 h)]
    refine ⟨fun h => absurd h hb, fun _ => ?_⟩
    by_cases hjs : j = s
    · subst hjs
      rw [if_pos e, setI_self]
      exact ⟨by decide, .inr .one, fun _ => by decide, fun p ⟨g, hg, _⟩ => by simp at hg⟩
    · have e2 : (if out0 ll s s = 0 then setI (out0 ll s) s 1 else out0 ll s) j = 0 := by
        split
        · rw [setI_ne hjs]; exact e
        · exact e
      rw [e2]
      exact ⟨by decide, .inl rfl, fun h => absurd h hjs, fun p ⟨g, hg, _⟩ => by simp at hg⟩
end
end Go.Proofs.Ytjfonoiclndgnaa
