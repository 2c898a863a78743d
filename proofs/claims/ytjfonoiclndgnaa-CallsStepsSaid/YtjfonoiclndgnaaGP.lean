/- Plain laws on the groups of a graph. No program in sight. No condition. -/
import Derived.Test.YtjfonoiclndgnaaG
namespace Go.Proofs.Ytjfonoiclndgnaa

section
variable (ll : List (List Int))
/-- each of two reaches the other one -/
noncomputable def sameB (a b : Nat) : Bool := reachB ll a b && reachB ll b a
/-- does a node lead to none but its own group and those that are told? -/
noncomputable def readyB (told : Nat → Bool) (a : Nat) : Bool := !told a && (List.range ll.length).all fun b => !reachB ll a b || told b || sameB ll a b
/-- a node's group -/
noncomputable def groupN (a : Nat) : List Nat := (List.range ll.length).filter (sameB ll a)
noncomputable def groupL (a : Nat) : List Int := (groupN ll a).map fun (n : Nat) => (n : Int)
/-- what is told when a node's group is -/
noncomputable def toldWith (told : Nat → Bool) (a : Nat) : Nat → Bool := fun k => told k || (decide (k < ll.length) && sameB ll a k)
/-- the groups that are still to come, at most so many -/
noncomputable def groupsM : Nat → (Nat → Bool) → List (List Int)
  | 0, _ => []
  | m + 1, told => match (List.range ll.length).find? (readyB ll told) with
    | none => []
    | some a => groupL ll a :: groupsM m (toldWith ll told a)
/-- all groups -/
noncomputable def groupsAll : List (List Int) := groupsM ll (ll.length + 1) fun _ => false
end

section
variable {ll : List (List Int)}
theorem reachB_refl (a : Nat) : reachB ll a a = true := reachB_iff.2 .refl
theorem reachB_trans {a b c : Nat} (h : reachB ll a b = true) (k : reachB ll b c = true) : reachB ll a c = true := reachB_iff.2 ((reachB_iff.1 h).trans (reachB_iff.1 k))
theorem sameB_self (a : Nat) : sameB ll a a = true := by simp [sameB, reachB_refl]
theorem sameB_iff {a b : Nat} : sameB ll a b = true ↔ reachB ll a b = true ∧ reachB ll b a = true := by simp [sameB]
theorem sameB_symm {a b : Nat} (h : sameB ll a b = true) : sameB ll b a = true := sameB_iff.2 ⟨(sameB_iff.1 h).2, (sameB_iff.1 h).1⟩
theorem sameB_trans {a b c : Nat} (h : sameB ll a b = true) (k : sameB ll b c = true) : sameB ll a c = true :=
  sameB_iff.2 ⟨reachB_trans (sameB_iff.1 h).1 (sameB_iff.1 k).1, reachB_trans (sameB_iff.1 k).2 (sameB_iff.1 h).2⟩
theorem readyB_iff {told : Nat → Bool} {a : Nat} : readyB ll told a = true ↔ told a = false ∧ ∀ b, b < ll.length → reachB ll a b = true → told b = true ∨ sameB ll a b = true := by
  simp only [readyB, Bool.and_eq_true, Bool.not_eq_true', List.all_eq_true, List.mem_range, Bool.or_eq_true, and_congr_right_iff]
  intro _
  constructor
  · intro h b hb hr
    rcases h b hb with (h | h) | h
    · rw [hr] at h; cases h
    · exact .inl h
    · exact .inr h
  · intro h b hb
    cases hr : reachB ll a b with
    | false => exact .inl (.inl rfl)
    | true => rcases h b hb hr with h | h
              · exact .inl (.inr h)
              · exact .inr h
theorem find_spec {n : Nat} {p : Nat → Bool} : ((List.range n).find? p = none ∧ ∀ a, a < n → p a = false) ∨ ∃ a, (List.range n).find? p = some a ∧ a < n ∧ p a = true ∧ ∀ b, b < a → p b = false := by
  cases h : (List.range n).find? p with
  | none =>
    left
    refine ⟨rfl, fun a ha => ?_⟩
    have := List.find?_eq_none.1 h a (List.mem_range.2 ha)
    simpa using this
  | some a =>
    right
    rw [List.find?_eq_some_iff_append] at h
    obtain ⟨hp, as, bs, he, hno⟩ := h
    have hlen : as.length < n := by have := congrArg List.length he; simp at this; omega
    have hget : ∀ i, i < as.length → as[i]? = some i := by
      intro i hi
      have h1 : (List.range n)[i]? = some i := List.getElem?_range (by omega)
      rw [he, List.getElem?_append_left hi] at h1; exact h1
    have ha : a = as.length := by
      have h1 : (List.range n)[as.length]? = some as.length := List.getElem?_range hlen
      rw [he, List.getElem?_append_right (Nat.le_refl _)] at h1; simpa using h1
    refine ⟨a, rfl, by omega, hp, fun b hb => ?_⟩
    have := hno b (List.mem_of_getElem? (hget b (by omega)))
    simpa using this
theorem toldWith_of {told : Nat → Bool} {a k : Nat} (h : told k = true) : toldWith ll told a k = true := by simp [toldWith, h]
theorem toldWith_unv {told : Nat → Bool} {a : Nat} (ha : a < ll.length) (hn : told a = false) : unv ll.length (toldWith ll told a) < unv ll.length told := by
  refine Nat.lt_of_le_of_lt (unv_le ll.length (p := upd told a) fun k hk h => ?_) (unv_upd _ ha hn)
  by_cases e : k = a
  · subst e; simp [toldWith, sameB_self, ha]
  · rw [upd_ne e] at h; exact toldWith_of h
theorem groupsM_none {m : Nat} {told : Nat → Bool} (h : (List.range ll.length).find? (readyB ll told) = none) : groupsM ll m told = [] := by
  cases m with
  | zero => rfl
  | succ m => simp [groupsM, h]
theorem groupsM_some {m : Nat} {told : Nat → Bool} {a : Nat} (h : (List.range ll.length).find? (readyB ll told) = some a) : groupsM ll (m + 1) told = groupL ll a :: groupsM ll m (toldWith ll told a) := by
  simp [groupsM, h]

/-- how many nodes are reached -/
noncomputable def cntR (ll : List (List Int)) : Nat → Nat → Nat
  | 0, _ => 0
  | n + 1, a => cntR ll n a + if reachB ll a n then 1 else 0
theorem cntR_le {a b : Nat} (h : reachB ll a b = true) : ∀ n, cntR ll n b ≤ cntR ll n a
  | 0 => Nat.le_refl _
  | n + 1 => by
    have h1 := cntR_le h n
    unfold cntR
    cases hb : reachB ll b n with
    | true => rw [reachB_trans h hb]; simp; exact h1
    | false => cases reachB ll a n <;> simp <;> omega
theorem cntR_lt {a b : Nat} (h : reachB ll a b = true) (hn : reachB ll b a = false) : ∀ n, a < n → cntR ll n b < cntR ll n a
  | 0, h => by omega
  | n + 1, ha => by
    unfold cntR
    by_cases e : a = n
    · subst e
      have h1 := cntR_le h a
      rw [hn, reachB_refl]; simp; omega
    · have h1 := cntR_lt h hn n (by omega)
      cases hb : reachB ll b n with
      | true => rw [reachB_trans h hb]; simp; exact h1
      | false => cases reachB ll a n <;> simp <;> omega
/-- where a node is not told, there is one that is ready -/
theorem ready_ex {told : Nat → Bool} (m : Nat) : ∀ x, x < ll.length → told x = false → cntR ll ll.length x ≤ m → ∃ a, a < ll.length ∧ readyB ll told a = true := by
  induction m with
  | zero =>
    intro x hx ht hc
    have h1 : ∀ n, x < n → 0 < cntR ll n x := by
      intro n
      induction n with
      | zero => omega
      | succ n ih =>
        intro h
        unfold cntR
        by_cases e : x = n
        · subst e; rw [reachB_refl]; simp
        · have := ih (by omega); omega
    have := h1 _ hx
    omega
  | succ m ih =>
    intro x hx ht hc
    by_cases h : readyB ll told x = true
    · exact ⟨x, hx, h⟩
    · have h' : ∃ b, b < ll.length ∧ reachB ll x b = true ∧ told b = false ∧ sameB ll x b = false := by
        apply Classical.byContradiction
        intro hno
        apply h
        rw [readyB_iff]
        refine ⟨ht, fun b hb hr => ?_⟩
        cases h1 : told b with
        | true => exact .inl rfl
        | false =>
          cases h2 : sameB ll x b with
          | true => exact .inr rfl
          | false => exact absurd ⟨b, hb, hr, h1, h2⟩ hno
      obtain ⟨b, hb, hr, h1, h2⟩ := h'
      have h3 : reachB ll b x = false := by
        cases h4 : reachB ll b x with
        | false => rfl
        | true => rw [sameB_iff.2 ⟨hr, h4⟩] at h2; cases h2
      have := cntR_lt hr h3 _ hx
      exact ih b hb h1 (by omega)
theorem ready_find {told : Nat → Bool} {x : Nat} (hx : x < ll.length) (ht : told x = false) : ∃ a, (List.range ll.length).find? (readyB ll told) = some a ∧ a < ll.length ∧ readyB ll told a = true ∧ ∀ b, b < a → readyB ll told b = false := by
  obtain ⟨a, ha, hr⟩ := ready_ex _ x hx ht (Nat.le_refl _)
  rcases find_spec (n := ll.length) (p := readyB ll told) with ⟨_, h⟩ | h
  · rw [h a ha] at hr; cases hr
  · exact h
theorem unv_pos {p : Nat → Bool} : ∀ n, 0 < unv n p → ∃ x, x < n ∧ p x = false
  | 0, h => by simp [unv] at h
  | n + 1, h => by
    unfold unv at h
    cases hp : p n with
    | false => exact ⟨n, by omega, hp⟩
    | true =>
      rw [hp] at h
      obtain ⟨x, hx, h1⟩ := unv_pos n (by simpa using h)
      exact ⟨x, by omega, h1⟩
theorem unv_zero {p : Nat → Bool} : ∀ n, unv n p = 0 → ∀ x, x < n → p x = true
  | 0, _, x, hx => by omega
  | n + 1, h, x, hx => by
    unfold unv at h
    have h1 : p n = true := by cases hp : p n <;> simp [hp] at h ⊢
    by_cases e : x = n
    · subst e; exact h1
    · exact unv_zero n (by omega) x (by omega)
/-- what is told is whole groups -/
def Whole (ll : List (List Int)) (told : Nat → Bool) : Prop := ∀ x y, y < ll.length → told x = true → sameB ll x y = true → told y = true
theorem whole_with {told : Nat → Bool} {a : Nat} (h : Whole ll told) : Whole ll (toldWith ll told a) := by
  intro x y hy hx hs
  unfold toldWith at hx ⊢
  simp only [Bool.or_eq_true, Bool.and_eq_true, decide_eq_true_eq] at hx ⊢
  rcases hx with hx | ⟨_, hx⟩
  · exact .inl (h x y hy hx hs)
  · exact .inr ⟨hy, sameB_trans hx hs⟩
/-- the nodes of a group that is not told are those that the telling adds -/
theorem unv_group {told : Nat → Bool} {a : Nat} (hw : Whole ll told) (haN : a < ll.length) (ha : told a = false) : ∀ n, n ≤ ll.length → unv n (toldWith ll told a) + ((List.range n).filter (sameB ll a)).length = unv n told
  | 0, _ => rfl
  | n + 1, hn => by
    have ih := unv_group hw haN ha n (by omega)
    unfold unv
    rw [List.range_succ, List.filter_append, List.length_append]
    cases hs : sameB ll a n with
    | true =>
      have h1 : told n = false := by
        cases ht : told n with
        | false => rfl
        | true => rw [hw n a haN ht (sameB_symm hs)] at ha; cases ha
      have h2 : toldWith ll told a n = true := by simp [toldWith, hs]; right; omega
      rw [h1, h2]; simp [hs]; omega
    | false =>
      have h2 : toldWith ll told a n = told n := by simp [toldWith, hs]
      rw [h2]; simp [hs]; omega
end
end Go.Proofs.Ytjfonoiclndgnaa
