/- Plain laws on the order of a graph's groups: each node in just one, at one place. No program in sight. -/
import Derived.Test.YtjfonoiclndgnaaGE
import Derived.Test.YtjfonoiclndgnaaI
namespace Go.Proofs.Ytjfonoiclndgnaa

section
variable {ll : List (List Int)}
theorem groups_fresh (m : Nat) : ∀ told, Whole ll told → ∀ g ∈ groupsM ll m told, ∀ x : Nat, (x : Int) ∈ g → told x = false := by
  induction m with
  | zero => intro told _ g hg; cases hg
  | succ m ih =>
    intro told hw g hg x hx
    rcases find_spec (n := ll.length) (p := readyB ll told) with ⟨hf, _⟩ | ⟨a, hf, ha, hr, _⟩
    · rw [groupsM_none hf] at hg; cases hg
    · rw [groupsM_some hf] at hg
      rcases List.mem_cons.1 hg with rfl | hg
      · obtain ⟨n, h1, h2, h3⟩ := mem_groupL.1 hx
        obtain rfl : x = n := by omega
        cases ht : told x with
        | false => rfl
        | true =>
          have := hw x a ha ht (sameB_symm h3)
          rw [(readyB_iff.1 hr).1] at this; cases this
      · have := ih _ (whole_with hw) g hg x hx
        unfold toldWith at this
        simp only [Bool.or_eq_false_iff] at this
        exact this.1
theorem groupL_nodup (a : Nat) : (groupL ll a).Nodup := by
  unfold groupL groupN
  unfold List.Nodup
  rw [List.pairwise_map]
  refine List.Pairwise.imp (fun {x y} h => ?_) (List.Pairwise.filter _ (List.nodup_range (n := ll.length)))
  intro e
  exact h (by omega)
theorem groups_pair (m : Nat) : ∀ told, Whole ll told → (groupsM ll m told).Pairwise (fun g h => ∀ x ∈ g, x ∉ h) ∧ ∀ g ∈ groupsM ll m told, g.Nodup := by
  induction m with
  | zero => intro told _; exact ⟨List.Pairwise.nil, fun g hg => by cases hg⟩
  | succ m ih =>
    intro told hw
    rcases find_spec (n := ll.length) (p := readyB ll told) with ⟨hf, _⟩ | ⟨a, hf, ha, hr, _⟩
    · rw [groupsM_none hf]; exact ⟨List.Pairwise.nil, fun g hg => by cases hg⟩
    · rw [groupsM_some hf]
      obtain ⟨h1, h2⟩ := ih (toldWith ll told a) (whole_with hw)
      refine ⟨List.Pairwise.cons (fun g hg x hx hx2 => ?_) h1, fun g hg => ?_⟩
      · obtain ⟨n, rfl, hn, hs⟩ := mem_groupL.1 hx
        have := groups_fresh m _ (whole_with hw) g hg n hx2
        unfold toldWith at this
        simp [hn, hs] at this
      · rcases List.mem_cons.1 hg with rfl | hg
        · exact groupL_nodup a
        · exact h2 g hg
theorem unv_split {told : Nat → Bool} {a : Nat} (hw : Whole ll told) (ha : a < ll.length) (hn : told a = false) : ∀ n, n ≤ ll.length → unv n (toldWith ll told a) + (grp ll a n).length = unv n told := by
  intro n
  induction n with
  | zero => intro _; rfl
  | succ n ih =>
    intro hl
    have hI := ih (by omega)
    cases hs : sameB ll a n with
    | true =>
      have ht : told n = false := by
        cases ht : told n with
        | false => rfl
        | true => have := hw n a ha ht (sameB_symm hs); rw [hn] at this; cases this
      have hw' : toldWith ll told a n = true := by unfold toldWith; simp [hs]; omega
      rw [grp_yes hs, List.length_append]
      unfold unv
      rw [hw', ht]
      simp
      omega
    | false =>
      have hw' : toldWith ll told a n = told n := by unfold toldWith; simp [hs]
      rw [grp_no hs]
      unfold unv
      rw [hw']
      omega
theorem unv_none {told : Nat → Bool} : ∀ n, (∀ x, x < n → told x = true) → unv n told = 0 := by
  intro n
  induction n with
  | zero => intro _; rfl
  | succ n ih =>
    intro h
    unfold unv
    rw [ih fun x hx => h x (by omega), h n (by omega)]
    rfl
theorem groups_sum (m : Nat) : ∀ told, Whole ll told → unv ll.length told < m → (groupsM ll m told).flatten.length = unv ll.length told := by
  induction m with
  | zero => intro told _ h; omega
  | succ m ih =>
    intro told hw hm
    rcases find_spec (n := ll.length) (p := readyB ll told) with ⟨hf, hno⟩ | ⟨a, hf, ha, hr, _⟩
    · rw [groupsM_none hf]
      refine (unv_none _ fun x hx => ?_).symm
      cases ht : told x with
      | true => rfl
      | false =>
        obtain ⟨b, hf2, _⟩ := ready_find hx ht
        rw [hf] at hf2; cases hf2
    · rw [groupsM_some hf, List.flatten_cons, List.length_append]
      have hn := (readyB_iff.1 hr).1
      have h1 := unv_split hw ha hn ll.length (Nat.le_refl _)
      have h2 := toldWith_unv ha hn
      rw [ih _ (whole_with hw) (by omega)]
      rw [grp_end] at h1
      omega
theorem false_whole : Whole ll fun _ => false := fun x y _ h => by cases h
theorem groupsAll_sum : (groupsAll ll).flatten.length = ll.length := by
  have h : unv ll.length (fun _ => false) = ll.length := by
    generalize ll.length = n
    induction n with
    | zero => rfl
    | succ n ih => unfold unv; rw [ih]; simp
  have := groups_sum (ll := ll) (ll.length + 1) (fun _ => false) false_whole (by rw [h]; omega)
  rw [h] at this
  exact this
theorem groupsAll_index {i j : Nat} {g h : List Int} (hi : (groupsAll ll)[i]? = some g) (hj : (groupsAll ll)[j]? = some h) {x : Int} (hg : x ∈ g) (hh : x ∈ h) : i = j := by
  obtain ⟨hil, rfl⟩ := List.getElem?_eq_some_iff.1 hi
  obtain ⟨hjl, rfl⟩ := List.getElem?_eq_some_iff.1 hj
  have hp := (groups_pair (ll := ll) (ll.length + 1) (fun _ => false) false_whole).1
  have hp' := List.pairwise_iff_getElem.1 hp
  rcases Nat.lt_trichotomy i j with h1 | h1 | h1
  · exact absurd hh (hp' i j hil hjl h1 x hg)
  · exact h1
  · exact absurd hg (hp' j i hjl hil h1 x hh)
/-- one that leads to a group is in it or behind it -/
theorem groupsAll_lead {i j : Nat} {g h : List Int} (hi : (groupsAll ll)[i]? = some g) (hj : (groupsAll ll)[j]? = some h) {a b : Nat} (ha : (a : Int) ∈ g) (hal : a < ll.length) (hb : (b : Int) ∈ h) (hr : Reach ll a b) : j ≤ i := by
  obtain ⟨hjl, hje⟩ := List.getElem?_eq_some_iff.1 hj
  have hsplit : groupsAll ll = (groupsAll ll).take j ++ h :: (groupsAll ll).drop (j + 1) := by
    rw [← hje, ← List.drop_eq_getElem_cons hjl, List.take_append_drop]
  obtain ⟨g', hg', hag⟩ := groups_order (ll.length + 1) (fun _ => false) (Nat.lt_succ_of_le (unv_bd _ _)) (fun x y _ h => by cases h) false_whole _ _ _ hsplit b a hb hal hr
  have hmem : g' ∈ (groupsAll ll).drop j := by
    rw [List.drop_eq_getElem_cons hjl, hje]; exact hg'
  obtain ⟨k, hk, hke⟩ := List.getElem_of_mem hmem
  have hke' : (groupsAll ll)[j + k]? = some g' := by rw [← List.getElem?_drop, List.getElem?_eq_getElem hk, hke]
  have := groupsAll_index hi hke' ha hag
  omega
theorem groupsAll_same {i j : Nat} {g h : List Int} (hi : (groupsAll ll)[i]? = some g) (hj : (groupsAll ll)[j]? = some h) {a b : Nat} (ha : (a : Int) ∈ g) (hb : (b : Int) ∈ h) (hal : a < ll.length) (hbl : b < ll.length) : (reachB ll a b && reachB ll b a) = decide (i = j) := by
  by_cases e : i = j
  · subst e
    rw [hi] at hj; cases hj
    have hm := List.mem_of_getElem? hi
    have h1 := groups_same _ _ _ hm a b ha hb
    have h2 := groups_same _ _ _ hm b a hb ha
    rw [reachB_iff.2 h1, reachB_iff.2 h2]; simp
  · cases hr : (reachB ll a b && reachB ll b a) with
    | false => simp [e]
    | true =>
      simp only [Bool.and_eq_true] at hr
      have h1 := groupsAll_lead hi hj ha hal hb (reachB_iff.1 hr.1)
      have h2 := groupsAll_lead hj hi hb hbl ha (reachB_iff.1 hr.2)
      exact absurd (by omega) e
theorem groupsAll_cover (x : Nat) (hx : x < ll.length) : ∃ (i : Nat) (g : List Int), (groupsAll ll)[i]? = some g ∧ (x : Int) ∈ g := by
  rcases groups_cover (ll.length + 1) (fun _ => false) (Nat.lt_succ_of_le (unv_bd _ _)) x hx with h | ⟨g, hg, hxg⟩
  · cases h
  · obtain ⟨i, hi, rfl⟩ := List.getElem_of_mem hg
    exact ⟨i, _, List.getElem?_eq_getElem hi, hxg⟩
end
end Go.Proofs.Ytjfonoiclndgnaa
