/- What the layer's first example says: its groups, its entries. No condition. -/
import Derived.Test.YtjfonoiclndgnaaR
namespace Go.Proofs.Ytjfonoiclndgnaa
open Go.RowKit

/-- the chapter's first example -/
def exG : List (List Int) := [[1, 2], [2], []]
theorem ex_right : RightP exG := by decide
theorem ex_adj {a b : Nat} (h : Adj exG a b) : a < b ∧ b < 3 := by
  obtain ⟨row, hr, hb⟩ := h
  match a, hr with
  | 0, hr => cases hr; simp at hb; omega
  | 1, hr => cases hr; simp at hb; omega
  | 2, hr => cases hr; simp at hb
theorem ex_le {a b : Nat} (h : Reach exG a b) : a ≤ b := by
  induction h with
  | refl => exact Nat.le_refl _
  | step _ e ih => have := ex_adj e; omega
theorem ex_01 : Adj exG 0 1 := ⟨_, rfl, by decide⟩
theorem ex_02 : Adj exG 0 2 := ⟨_, rfl, by decide⟩
theorem ex_12 : Adj exG 1 2 := ⟨_, rfl, by decide⟩
theorem ex_reach {a b : Nat} (hb : b < 3) : reachB exG a b = decide (a ≤ b) := by
  cases h : decide (a ≤ b) with
  | false =>
    cases hr : reachB exG a b with
    | false => rfl
    | true => have := ex_le (reachB_iff.1 hr); simp at h; omega
  | true =>
    have hab : a ≤ b := by simpa using h
    refine reachB_iff.2 ?_
    by_cases e : a = b
    · subst e; exact .refl
    · have : (a = 0 ∧ b = 1) ∨ (a = 0 ∧ b = 2) ∨ (a = 1 ∧ b = 2) := by omega
      rcases this with ⟨rfl, rfl⟩ | ⟨rfl, rfl⟩ | ⟨rfl, rfl⟩
      · exact .step .refl ex_01
      · exact .step .refl ex_02
      · exact .step .refl ex_12
theorem ex_groups : groupsAll exG = [[2], [1], [0]] := by
  have hl : exG.length = 3 := rfl
  have hr : List.range 3 = [0, 1, 2] := rfl
  have h00 : reachB exG 0 0 = true := by rw [ex_reach (by decide)]; rfl
  have h01 : reachB exG 0 1 = true := by rw [ex_reach (by decide)]; rfl
  have h02 : reachB exG 0 2 = true := by rw [ex_reach (by decide)]; rfl
  have h10 : reachB exG 1 0 = false := by rw [ex_reach (by decide)]; rfl
  have h11 : reachB exG 1 1 = true := by rw [ex_reach (by decide)]; rfl
  have h12 : reachB exG 1 2 = true := by rw [ex_reach (by decide)]; rfl
  have h20 : reachB exG 2 0 = false := by rw [ex_reach (by decide)]; rfl
  have h21 : reachB exG 2 1 = false := by rw [ex_reach (by decide)]; rfl
  have h22 : reachB exG 2 2 = true := by rw [ex_reach (by decide)]; rfl
  simp [groupsAll, groupsM, hl, hr, readyB, toldWith, groupL, groupN, sameB, h00, h01, h02, h10, h11, h12, h20, h21, h22, List.find?, List.filter]
theorem ex_way {m i : Nat} (h : Way exG 0 m i) : m ≤ i + 1 := by
  induction h with
  | one => omega
  | step _ e ih => have := ex_adj e; omega
theorem ex_bad (i : Nat) : ¬ Bad exG 0 i := by
  rintro ⟨k, _, _, ⟨j, e, hr⟩, _⟩
  have := ex_adj e
  have := ex_le hr
  omega
theorem ex_entry {i : Nat} (h : Way exG 0 (i + 1) i) : entry exG 0 i = i + 1 :=
  entry_eq ⟨fun x => absurd x (ex_bad i), fun x => absurd h.reach x, fun _ _ => ⟨i + 1, by simp, h, fun m hm => ex_way hm⟩⟩
theorem ex_entries : entriesL exG 0 = [1, 2, 3] := by
  show [entry exG 0 0, entry exG 0 1, entry exG 0 2] = _
  rw [ex_entry .one, ex_entry (.step .one ex_01), ex_entry (.step (.step .one ex_01) ex_12)]
  rfl
end Go.Proofs.Ytjfonoiclndgnaa
