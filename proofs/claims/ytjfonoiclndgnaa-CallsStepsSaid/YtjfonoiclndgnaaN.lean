/- Small laws for calls.Entries: tables of numbers, rows turned about. No condition but lengths. -/
import Derived.Test.YtjfonoiclndgnaaL
import Derived.Test.YtjfonoiclndgnaaM
import Derived.Test.YtjfonoiclndgnaaEP
namespace Go.Proofs.Ytjfonoiclndgnaa
open Go.RowKit

/-- N cells of numbers -/
def intArr (N : Nat) (f : Nat → Int) : Array Value := cellArr N fun i => .int .i64 (f i)
theorem intArr_at {N : Nat} {f : Nat → Int} {i : Nat} (h : i < N) : (intArr N f)[i]? = some (.int .i64 (f i)) := cellArr_at h
theorem intArr_size (N : Nat) (f : Nat → Int) : (intArr N f).size = N := cellArr_size _ _
theorem intArr_congr {N : Nat} {f g : Nat → Int} (h : ∀ i, i < N → f i = g i) : intArr N f = intArr N g := by
  apply Array.ext_getElem?
  intro j
  by_cases hj : j < N
  · rw [intArr_at hj, intArr_at hj, h j hj]
  · rw [Array.getElem?_eq_none (by rw [intArr_size]; omega), Array.getElem?_eq_none (by rw [intArr_size]; omega)]
theorem intArr_set {N : Nat} {f : Nat → Int} {i : Nat} {v : Int} : (intArr N f).setIfInBounds i (.int .i64 v) = intArr N (setI f i v) := by
  unfold intArr
  rw [cellArr_set]
  congr 1
  funext k
  unfold updV setI
  split <;> rfl
theorem mk_ints (n : Nat) (hn : n ≤ 1048576) (w : World) : (Instr.makeSlice 28 (.int .i64 n) (.int .i64 n)).run Try.prog w = .ok (.slice (some ⟨w.heap.size, 0, none⟩) n n) (w.alloc (.cells (intArr n fun _ => 0) 3)) := by
  obtain ⟨i3, hi, hz, hs, hb⟩ := info_parts info3
  rw [run_make (P := Try.prog) w 28 3 i3 (.int .i64 0) Try.underlying28 hi hz .i64 .i64 n n (by omega) (by omega) (by rw [hb]; omega) (by omega)]
  have e : madeCells (Value.int .i64 0).cells ((n : Int).toNat * i3.size) = intArr n fun _ => 0 := by
    rw [hs, Int.toNat_natCast, Nat.mul_one]
    apply Array.ext_getElem?
    intro j
    by_cases hj : j < n
    · rw [intArr_at hj]; simp [madeCells, hj, Value.cells, Nat.mod_one]
    · rw [Array.getElem?_eq_none (by rw [size_madeCells]; omega), Array.getElem?_eq_none (by rw [intArr_size]; omega)]
  rw [e, Int.toNat_natCast]
theorem ints_blk {S : Nat → Prop} {w : World} {g n : Nat} {t : TypeId} {f : Nat → Int} (h : Blk w g t (intArr n f)) (hs : S g) (hn : n ≤ 1048576) (hw : ∀ i, i < n → (Lit.int .i64 (f i)).wf = true) :
    Ints S w (.slice (some ⟨g, 0, none⟩) n n) ((List.range n).map f) := by
  have hl : ((List.range n).map f).length = n := by simp
  have := Sl.of_blk (bw := 8) (E := IntE) (S := S) (l := (List.range n).map f) (cap := n) h hs (by simp) (by unfold maxLen; omega) (by rw [hl]; omega) (fun i x hx => by
    have hi : i < n := by
      rcases Nat.lt_or_ge i n with h | h
      · exact h
      · rw [List.getElem?_eq_none (by simp; omega)] at hx; cases hx
    rw [List.getElem?_map, List.getElem?_range hi] at hx
    cases hx
    exact ⟨_, intArr_at hi, rfl, hw i hi⟩)
  rwa [hl] at this

theorem rev_rows {B : Nat} {w : World} {u : Value} {L : List (List Int)} (h : OutRows B w u L) (h1 : 1 ≤ L.length) (h2 : L.length ≤ 256) :
    Calls Try.prog 28 #[u] w fun e w' => e = .returned (.tuple #[]) ∧ Kept (fun b => b < B) w w' ∧ Rows (fun b => B ≤ b) w' u L.reverse := by
  obtain ⟨vs, hown, hvs⟩ := h
  obtain ⟨hvl, hown⟩ := hown
  rcases hown with ⟨_, hn⟩ | ⟨g, cap, cur, rfl, hb, hh, hc, hm, hsz, htk⟩
  · omega
  have hcur : ∀ m, m < L.length → cur[m]? = vs[m]? := fun m hm => by
    rw [← htk, List.getElem?_take_of_lt (by omega), Array.getElem?_toList]
  have hcs : L.length ≤ cur.size := by
    have := congrArg List.length htk
    rw [List.length_take, Array.length_toList] at this
    omega
  refine (reverse_any g L.length cap 28 cur w hh hcs h1 h2 hc fun m hm => ?_).mono ?_
  · obtain ⟨c, hc, a, cp, rfl, _⟩ := hvs m _ (List.getElem?_eq_getElem hm)
    exact ⟨_, _, _, by rw [hcur m hm, hc]⟩
  · rintro e w' ⟨rfl, hk, cs', hblk, hcs'⟩
    refine ⟨rfl, hk.mono fun b hb => by omega, ?_⟩
    have hl : L.reverse.length = L.length := List.length_reverse
    have := Sl.of_blk (bw := 24) (E := Ints) (S := fun b => B ≤ b) (l := L.reverse) (cap := cap) hblk hb (by rw [hl]; exact hc) hm (by rw [hl]; omega) (fun i x hx => by
      have hi : i < L.length := by
        rcases Nat.lt_or_ge i L.length with h | h
        · exact h
        · rw [List.getElem?_eq_none (by rw [hl]; omega)] at hx; cases hx
      rw [List.getElem?_reverse hi] at hx
      obtain ⟨c, hc, hE⟩ := hvs _ x hx
      refine ⟨c, by rw [hcs' i hi, hcur _ (by omega)]; exact hc, ?_⟩
      exact goodInts.wide (fun b hb => hb.1) (goodInts.keep (hk.mono fun b hb => fun e => hb.2.2 (by rw [e]; rfl)) hE))
    rwa [hl] at this
/-- the table while its bad places are laid -/
noncomputable def outF (ll : List (List Int)) (s i k j : Nat) : Int := if j < i then out0 ll s j else if j = i then (if badK ll s i k then -1 else 0) else 0
theorem outF_0 (ll : List (List Int)) (s j : Nat) : outF ll s 0 0 j = 0 := by unfold outF badK; simp
theorem outF_next (ll : List (List Int)) (s i : Nat) : outF ll s i ll.length = outF ll s (i + 1) 0 := by
  funext j
  unfold outF
  by_cases h1 : j < i
  · rw [if_pos h1, if_pos (by omega)]
  · rw [if_neg h1]
    by_cases h2 : j = i
    · subst h2; rw [if_pos rfl, if_pos (Nat.lt_succ_self j)]; rfl
    · rw [if_neg h2, if_neg (by omega)]
      simp [badK]
theorem outF_no {ll : List (List Int)} {s i k : Nat} (h : (circB ll s k && reachB ll k i) = false) : outF ll s i (k + 1) = outF ll s i k := by
  funext j
  unfold outF
  rw [badK_succ, h, Bool.or_false]
theorem outF_yes {ll : List (List Int)} {s i k : Nat} (h : (circB ll s k && reachB ll k i) = true) : setI (outF ll s i k) i (-1) = outF ll s i (k + 1) := by
  funext j
  unfold setI outF
  rw [badK_succ, h, Bool.or_true]
  by_cases h2 : j = i
  · subst h2; simp
  · simp [h2]
theorem outF_end {ll : List (List Int)} {s j : Nat} (h : j < ll.length) : outF ll s ll.length 0 j = out0 ll s j := by unfold outF; rw [if_pos h]
end Go.Proofs.Ytjfonoiclndgnaa
