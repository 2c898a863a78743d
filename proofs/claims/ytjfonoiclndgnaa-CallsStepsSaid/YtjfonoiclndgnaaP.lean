/- What interdictref18.Circle and interdictref18.long answer. No condition but that the graph may be, and (long) that no circle leads to the node. -/
import Derived.Test.YtjfonoiclndgnaaN
namespace Go.Proofs.Ytjfonoiclndgnaa
open Go.RowKit

section
variable {ll : List (List Int)}
/-- numbers that are ways' lengths -/
def LBase (ll : List (List Int)) (s t : Nat) (n : Nat → Int) : Prop := 1 ≤ n s ∧ ∀ x, x < ll.length → 0 ≤ n x ∧ (n x = 0 ∨ (Way ll s (n x).toNat x ∧ Reach ll x t))
/-- ways of so many nodes are counted -/
def LDone (ll : List (List Int)) (s t r : Nat) (n : Nat → Int) : Prop := ∀ x m, m ≤ r + 1 → Way ll s m x → Reach ll x t → (m : Int) ≤ n x
/-- a round that has come to row i, its place k -/
def LEdge (ll : List (List Int)) (t : Nat) (n0 n : Nat → Int) (i k : Nat) : Prop := (∀ x, n0 x ≤ n x) ∧
  (∀ b c, b < i → Adj ll b c → Reach ll c t → 1 ≤ n0 b → n0 b + 1 ≤ n c) ∧ ∀ row, ll[i]? = some row → ∀ c : Nat, (c : Int) ∈ row.take k → Reach ll c t → 1 ≤ n0 i → n0 i + 1 ≤ n c
theorem LBase.bound {s t : Nat} {n : Nat → Int} (h : LBase ll s t n) (hC : Closed ll) (hs : s < ll.length) (hb : ¬ Bad ll s t) {x : Nat} (hx : x < ll.length) : 0 ≤ n x ∧ n x ≤ ll.length := by
  obtain ⟨h1, h2⟩ := h.2 x hx
  refine ⟨h1, ?_⟩
  rcases h2 with h2 | ⟨h2, h3⟩
  · omega
  · have := way_le hC hs h2 fun k => hb (k.on h3)
    omega
theorem LBase.start {s t : Nat} (h : Reach ll s t) : LBase ll s t (setI (fun _ => 0) s 1) := by
  refine ⟨by rw [setI_self]; decide, fun x _ => ?_⟩
  by_cases e : x = s
  · subst e; rw [setI_self]; exact ⟨by decide, .inr ⟨.one, h⟩⟩
  · rw [setI_ne e]; exact ⟨by decide, .inl rfl⟩
theorem LDone.start {s t : Nat} : LDone ll s t 0 (setI (fun _ => 0) s 1) := by
  intro x m hm hw _
  have := hw.pos
  obtain rfl : m = 1 := by omega
  cases hw with
  | one => rw [setI_self]; decide
  | step h _ => have := h.pos; omega
theorem LBase.upd {s t i j : Nat} {n : Nat → Int} (h : LBase ll s t n) (hi : i < ll.length) (e : Adj ll i j) (hj : Reach ll j t) (h1 : 0 < n i) (hlt : n j < n i + 1) : LBase ll s t (setI n j (n i + 1)) := by
  refine ⟨?_, fun x hx => ?_⟩
  · by_cases ej : s = j
    · subst ej; rw [setI_self]; omega
    · rw [setI_ne ej]; exact h.1
  · by_cases ej : x = j
    · subst ej
      rw [setI_self]
      refine ⟨by omega, .inr ⟨?_, hj⟩⟩
      rcases (h.2 i hi).2 with h2 | ⟨h2, _⟩
      · omega
      · have := Way.step h2 e
        rwa [show (n i + 1).toNat = (n i).toNat + 1 by omega]
    · rw [setI_ne ej]; exact h.2 x hx
theorem LEdge.start {t : Nat} {n : Nat → Int} : LEdge ll t n n 0 0 := ⟨fun x => Int.le_refl _, fun b c h => by omega, fun row _ c h => by simp at h⟩
theorem LEdge.more {t i k j : Nat} {n0 n n' : Nat → Int} {row : List Int} (h : LEdge ll t n0 n i k) (hr : ll[i]? = some row) (hk : row[k]? = some (j : Int)) (hmono : ∀ x, n x ≤ n' x) (hj : Reach ll j t → 1 ≤ n0 i → n0 i + 1 ≤ n' j) : LEdge ll t n0 n' i (k + 1) := by
  obtain ⟨h1, h2, h3⟩ := h
  refine ⟨fun x => Int.le_trans (h1 x) (hmono x), fun b c hb e hc hp => Int.le_trans (h2 b c hb e hc hp) (hmono c), fun row' hr' c hc hct hp => ?_⟩
  rw [hr] at hr'; cases hr'
  rw [List.take_add_one, hk] at hc
  rcases List.mem_append.1 hc with hc | hc
  · exact Int.le_trans (h3 row hr c hc hct hp) (hmono c)
  · obtain rfl : c = j := by have : (c : Int) = j := by simpa using hc
                             omega
    exact hj hct hp
theorem LEdge.next {t i k : Nat} {n0 n : Nat → Int} {row : List Int} (h : LEdge ll t n0 n i k) (hr : ll[i]? = some row) (hk : row.length ≤ k ∨ n i ≤ 0) : LEdge ll t n0 n (i + 1) 0 := by
  obtain ⟨h1, h2, h3⟩ := h
  refine ⟨h1, fun b c hb e hc hp => ?_, fun row' _ c hc => by simp at hc⟩
  by_cases hbi : b = i
  · subst hbi
    rcases hk with hk | hk
    · obtain ⟨row', hr', hm⟩ := e
      rw [hr] at hr'; cases hr'
      exact h3 row hr c (by rw [List.take_of_length_le hk]; exact hm) hc hp
    · have := h1 b; omega
  · exact h2 b c (by omega) e hc hp
theorem LEdge.done {s t r : Nat} {n0 n : Nat → Int} (h : LEdge ll t n0 n ll.length 0) (hb : LBase ll s t n0) (hd : LDone ll s t r n0) : LDone ll s t (r + 1) n := by
  intro x m hm hw hx
  cases hw with
  | one => have := hb.1; have := h.1 s; omega
  | @step m' b _ hw e =>
    have h1 := hd b m' (by omega) hw (.head e hx)
    have := hw.pos
    have hbl : b < ll.length := by
      obtain ⟨row, hr, _⟩ := e
      rcases Nat.lt_or_ge b ll.length with h | h
      · exact h
      · rw [List.getElem?_eq_none h] at hr; cases hr
    have := h.2.1 b x hbl e hx (by omega)
    omega
theorem long_entry {s t : Nat} {n : Nat → Int} (hC : Closed ll) (hs : s < ll.length) (hb : ¬ Bad ll s t) (hr : Reach ll s t) (h : LBase ll s t n) (hd : LDone ll s t ll.length n) : n t = entry ll s t := by
  refine (entry_eq ⟨fun x => absurd x hb, fun x => absurd hr x, fun _ _ => ?_⟩).symm
  obtain ⟨m, hm⟩ := way_of hr
  have hle := fun m hm => hd t m (by have := way_le hC hs hm hb; omega) hm .refl
  have := hle m hm
  have := hm.pos
  rcases (h.2 t (reach_closed_lt hC hs hr)).2 with h2 | ⟨h2, _⟩
  · omega
  · exact ⟨(n t).toNat, by omega, h2, fun m' hm' => by have := hle m' hm'; omega⟩
end
end Go.Proofs.Ytjfonoiclndgnaa
