/- Plain: in which group each node stands, as far as the groups have been gone through. No program in sight. -/
import Derived.Test.YtjfonoiclndgnaaGO
import Derived.Test.YtjfonoiclndgnaaEP
namespace Go.Proofs.Ytjfonoiclndgnaa

section
variable {ll : List (List Int)}
/-- behind i whole groups and k nodes of the next -/
def AtInv (ll : List (List Int)) (at_ : Nat → Int) (i k : Nat) : Prop :=
  ∀ (v : Nat) (j : Nat) (g : List Int), v < ll.length → (groupsAll ll)[j]? = some g → (v : Int) ∈ g → (((j < i ∨ (j = i ∧ (v : Int) ∈ g.take k)) → at_ v = j) ∧ (¬ (j < i ∨ (j = i ∧ (v : Int) ∈ g.take k)) → at_ v = -1))
theorem at_start : AtInv ll (fun _ => -1) 0 0 := by
  intro v j g _ _ _
  refine ⟨fun h => ?_, fun _ => rfl⟩
  rcases h with h | ⟨_, h⟩
  · omega
  · simp at h
theorem all_nodup {i : Nat} {g : List Int} (h : (groupsAll ll)[i]? = some g) : g.Nodup :=
  (groups_pair (ll := ll) (ll.length + 1) (fun _ => false) false_whole).2 g (List.mem_of_getElem? h)
theorem take_succ_mem {g : List Int} {k : Nat} (hk : k < g.length) (x : Int) : x ∈ g.take (k + 1) ↔ x ∈ g.take k ∨ x = g[k] := by
  rw [List.take_add_one, List.getElem?_eq_getElem hk]; simp only [List.mem_append, Option.toList_some, List.mem_singleton]
theorem not_take {g : List Int} {k : Nat} (hn : g.Nodup) (hk : k < g.length) : g[k] ∉ g.take k := by
  intro h
  obtain ⟨j, hj, e⟩ := List.getElem_of_mem h
  rw [List.length_take] at hj
  rw [List.getElem_take] at e
  have := (List.pairwise_iff_getElem.1 hn) j k (by omega) hk (by omega)
  exact this e
theorem at_free {at_ : Nat → Int} {i k v : Nat} {g : List Int} (h : AtInv ll at_ i k) (hg : (groupsAll ll)[i]? = some g) (hk : k < g.length) (hv : g[k] = (v : Int)) (hl : v < ll.length) : at_ v = -1 := by
  refine (h v i g hl hg (by rw [← hv]; exact List.getElem_mem hk)).2 fun h1 => ?_
  rcases h1 with h1 | ⟨_, h1⟩
  · omega
  · rw [← hv] at h1; exact not_take (all_nodup hg) hk h1
theorem at_step {at_ : Nat → Int} {i k v : Nat} {g : List Int} (h : AtInv ll at_ i k) (hg : (groupsAll ll)[i]? = some g) (hk : k < g.length) (hv : g[k] = (v : Int)) : AtInv ll (setI at_ v i) i (k + 1) := by
  intro u j g' hu hg' hm
  have hiff : u ≠ v → ((j < i ∨ (j = i ∧ (u : Int) ∈ g'.take (k + 1))) ↔ (j < i ∨ (j = i ∧ (u : Int) ∈ g'.take k))) := by
    intro hne
    constructor
    · rintro (h1 | ⟨h1, h2⟩)
      · exact .inl h1
      · subst h1
        rw [hg] at hg'; cases hg'
        rcases (take_succ_mem hk _).1 h2 with h3 | h3
        · exact .inr ⟨rfl, h3⟩
        · rw [hv] at h3; exact absurd (by omega) hne
    · rintro (h1 | ⟨h1, h2⟩)
      · exact .inl h1
      · subst h1
        rw [hg] at hg'; cases hg'
        exact .inr ⟨rfl, (take_succ_mem hk _).2 (.inl h2)⟩
  by_cases e : u = v
  · subst e
    have hj := groupsAll_index hg hg' (x := (u : Int)) (by rw [← hv]; exact List.getElem_mem hk) hm
    subst hj
    rw [setI_self]
    refine ⟨fun _ => rfl, fun hno => absurd (.inr ⟨rfl, ?_⟩) hno⟩
    rw [hg] at hg'; cases hg'
    exact (take_succ_mem hk _).2 (.inr hv.symm)
  · rw [setI_ne e, hiff e]
    exact h u j g' hu hg' hm
theorem at_next {at_ : Nat → Int} {i : Nat} {g : List Int} (h : AtInv ll at_ i g.length) (hg : (groupsAll ll)[i]? = some g) : AtInv ll at_ (i + 1) 0 := by
  intro u j g' hu hg' hm
  have hiff : (j < i + 1 ∨ (j = i + 1 ∧ (u : Int) ∈ g'.take 0)) ↔ (j < i ∨ (j = i ∧ (u : Int) ∈ g'.take g.length)) := by
    constructor
    · rintro (h1 | ⟨_, h2⟩)
      · by_cases e : j = i
        · subst e
          rw [hg] at hg'; cases hg'
          exact .inr ⟨rfl, by rw [List.take_length]; exact hm⟩
        · exact .inl (by omega)
      · simp at h2
    · rintro (h1 | ⟨h1, _⟩)
      · exact .inl (by omega)
      · exact .inl (by omega)
  rw [hiff]
  exact h u j g' hu hg' hm
theorem at_end {at_ : Nat → Int} (h : AtInv ll at_ (groupsAll ll).length 0) {a b : Nat} (ha : a < ll.length) (hb : b < ll.length) :
    0 ≤ at_ a ∧ 0 ≤ at_ b ∧ (reachB ll a b && reachB ll b a) = (at_ a == at_ b) ∧ (reachB ll a b = true → at_ b ≤ at_ a) := by
  obtain ⟨i, g, hi, hag⟩ := groupsAll_cover a ha
  obtain ⟨j, g', hj, hbg⟩ := groupsAll_cover b hb
  have hil := (List.getElem?_eq_some_iff.1 hi).1
  have hjl := (List.getElem?_eq_some_iff.1 hj).1
  have e1 := (h a i g ha hi hag).1 (.inl hil)
  have e2 := (h b j g' hb hj hbg).1 (.inl hjl)
  refine ⟨by omega, by omega, ?_, fun hr => ?_⟩
  · rw [groupsAll_same hi hj hag hbg ha hb, e1, e2]
    rw [Bool.eq_iff_iff, decide_eq_true_eq, beq_iff_eq]; omega
  · have := groupsAll_lead hi hj hag ha hbg (reachB_iff.1 hr)
    omega
theorem sum_next {L : List (List Int)} {i : Nat} {g : List Int} (h : L[i]? = some g) : (L.take (i + 1)).flatten.length = (L.take i).flatten.length + g.length := by
  rw [List.take_add_one, h]; simp
theorem sum_le {L : List (List Int)} {i : Nat} {g : List Int} (h : L[i]? = some g) : (L.take i).flatten.length + g.length ≤ L.flatten.length := by
  have := sum_next h
  have h2 : (L.take (i + 1)).flatten.length ≤ L.flatten.length := by
    conv => rhs; rw [← List.take_append_drop (i + 1) L]
    rw [List.flatten_append, List.length_append]; omega
  omega
end
end Go.Proofs.Ytjfonoiclndgnaa
