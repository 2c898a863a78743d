/- Plain: those that lead to each node; how an entry hangs on theirs. No program in sight. No condition but that the graph may be. -/
import Derived.Test.YtjfonoiclndgnaaE
import Derived.Test.YtjfonoiclndgnaaEP
namespace Go.Proofs.Ytjfonoiclndgnaa

section
variable {ll : List (List Int)}
open Classical in
/-- the nodes among the first i that lead to k -/
noncomputable def preds (ll : List (List Int)) (i k : Nat) : List Int := ((List.range i).filter fun a => decide (Adj ll a k)).map fun (n : Nat) => (n : Int)
/-- and i, if it is said to be one by the first m of its row -/
noncomputable def predsK (ll : List (List Int)) (row : List Int) (i m k : Nat) : List Int := preds ll i k ++ if (k : Int) ∈ row.take m then [(i : Int)] else []
theorem preds_len (i k : Nat) : (preds ll i k).length ≤ i := by
  unfold preds
  rw [List.length_map]
  exact Nat.le_trans (List.length_filter_le _ _) (by simp)
theorem predsK_len (row : List Int) (i m k : Nat) : (predsK ll row i m k).length ≤ i + 1 := by
  have := preds_len (ll := ll) i k
  unfold predsK
  rw [List.length_append]
  split <;> simp <;> omega
theorem preds_mem {i k : Nat} {x : Int} : x ∈ preds ll i k ↔ ∃ a : Nat, x = a ∧ a < i ∧ Adj ll a k := by
  simp only [preds, List.mem_map, List.mem_filter, List.mem_range, decide_eq_true_eq]
  constructor
  · rintro ⟨a, ⟨h1, h2⟩, rfl⟩; exact ⟨a, rfl, h1, h2⟩
  · rintro ⟨a, rfl, h1, h2⟩; exact ⟨a, ⟨h1, h2⟩, rfl⟩
theorem predsK_0 (row : List Int) (i k : Nat) : predsK ll row i 0 k = preds ll i k := by simp [predsK]
theorem predsK_next {row : List Int} {i k : Nat} (h : ll[i]? = some row) : predsK ll row i row.length k = preds ll (i + 1) k := by
  unfold predsK preds
  rw [List.take_length, List.range_succ, List.filter_append, List.map_append]
  congr 1
  by_cases hk : (k : Int) ∈ row
  · have : Adj ll i k := ⟨row, h, hk⟩
    simp [hk, this]
  · have : ¬ Adj ll i k := by
      rintro ⟨r, h1, h2⟩
      rw [h] at h1; cases h1; exact hk h2
    simp [hk, this]
theorem predsK_yes {row : List Int} {i m k : Nat} (hm : m < row.length) (hn : row.Nodup) (hk : row[m] = (k : Int)) : predsK ll row i (m + 1) k = predsK ll row i m k ++ [(i : Int)] := by
  have h1 : (k : Int) ∈ row.take (m + 1) := by
    rw [List.take_add_one, List.getElem?_eq_getElem hm, hk]; simp
  have h2 : (k : Int) ∉ row.take m := by
    intro h
    obtain ⟨j, hj, e⟩ := List.getElem_of_mem h
    rw [List.length_take] at hj
    rw [List.getElem_take] at e
    exact (List.pairwise_iff_getElem.1 hn) j m (by omega) hm (by omega) (by rw [e, hk])
  unfold predsK
  rw [if_pos h1, if_neg h2, List.append_nil]
theorem predsK_no {row : List Int} {i m k j : Nat} (hm : m < row.length) (hk : row[m] = (k : Int)) (hj : j ≠ k) : predsK ll row i (m + 1) j = predsK ll row i m j := by
  have h1 : ((j : Int) ∈ row.take (m + 1)) = ((j : Int) ∈ row.take m) := by
    rw [List.take_add_one, List.getElem?_eq_getElem hm, hk]
    simp only [List.mem_append, Option.toList_some, List.mem_singleton, eq_iff_iff]
    constructor
    · rintro (h | h)
      · exact h
      · exact absurd (by omega) hj
    · exact fun h => .inl h
  unfold predsK
  simp only [h1]

/-! ### steps -/
theorem entry_zero {s i : Nat} (hC : Closed ll) (hs : s < ll.length) : (entry ll s i == 0) = !reachB ll s i := by
  have h := entry_is (entry_ex hC hs i)
  cases hr : reachB ll s i with
  | false =>
    have hnr : ¬ Reach ll s i := fun x => by rw [reachB_iff.2 x] at hr; cases hr
    rw [h.2.1 hnr]; rfl
  | true =>
    have hr' := reachB_iff.1 hr
    by_cases hb : Bad ll s i
    · rw [h.1 hb]; rfl
    · obtain ⟨m, h1, h2, _⟩ := h.2.2 hr' hb
      have := h2.pos
      rw [h1]
      simp; omega
/-- the greatest of 0 and what some nodes have -/
noncomputable def mostE (ll : List (List Int)) (s : Nat) (l : List Int) : Int := l.foldl (fun m k => if m < entry ll s k.toNat then entry ll s k.toNat else m) 0
theorem most_snoc (s : Nat) (l : List Int) (k : Nat) : mostE ll s (l ++ [(k : Int)]) = if mostE ll s l < entry ll s k then entry ll s k else mostE ll s l := by
  unfold mostE
  rw [List.foldl_append, List.foldl_cons, List.foldl_nil, Int.toNat_natCast]
theorem fold_ge (f : Int → Int) : ∀ (l : List Int) (a : Int), a ≤ l.foldl (fun m k => if m < f k then f k else m) a ∧ ∀ k ∈ l, f k ≤ l.foldl (fun m k => if m < f k then f k else m) a
  | [], a => ⟨Int.le_refl _, fun k hk => by cases hk⟩
  | x :: l, a => by
    have h := fold_ge f l (if a < f x then f x else a)
    simp only [List.foldl_cons]
    refine ⟨?_, fun k hk => ?_⟩
    · have := h.1; split at this <;> split <;> omega
    · rcases List.mem_cons.1 hk with rfl | hk
      · have := h.1; split at this <;> split <;> omega
      · exact h.2 k hk
theorem fold_le (f : Int → Int) : ∀ (l : List Int) (a b : Int), a ≤ b → (∀ k ∈ l, f k ≤ b) → l.foldl (fun m k => if m < f k then f k else m) a ≤ b
  | [], _, _, h, _ => h
  | x :: l, a, b, h, hk => by
    simp only [List.foldl_cons]
    exact fold_le f l _ b (by split; exact hk x List.mem_cons_self; exact h) fun k h' => hk k (List.mem_cons_of_mem _ h')
theorem most_ge (s : Nat) (l : List Int) : 0 ≤ mostE ll s l ∧ ∀ k ∈ l, entry ll s k.toNat ≤ mostE ll s l := fold_ge (fun k => entry ll s k.toNat) l 0
theorem most_le {s : Nat} {l : List Int} {b : Int} (h0 : 0 ≤ b) (h : ∀ k ∈ l, entry ll s k.toNat ≤ b) : mostE ll s l ≤ b := fold_le (fun k => entry ll s k.toNat) l 0 b h0 h
theorem entry_step {s i : Nat} (hC : Closed ll) (hs : s < ll.length) (hi : i < ll.length) (h1 : 1 ≤ entry ll s i) : entry ll s i = mostE ll s (preds ll ll.length i) + 1 ∧ entry ll s i ≤ ll.length ∧ ¬ Adj ll i i := by
  have h := entry_is (entry_ex hC hs i)
  have hb : ¬ Bad ll s i := fun hb => by have := h.1 hb; omega
  have hr : Reach ll s i := Classical.byContradiction fun hr => by have := h.2.1 hr; omega
  obtain ⟨m, he, hw, hmax⟩ := h.2.2 hr hb
  have hle := way_le hC hs hw hb
  refine ⟨?_, by omega, fun e => hb (bad_circ hi hr e .refl)⟩
  have up : mostE ll s (preds ll ll.length i) ≤ m - 1 := by
    refine most_le (by have := hw.pos; omega) fun k hk => ?_
    obtain ⟨a, rfl, ha, e⟩ := preds_mem.1 hk
    rw [Int.toNat_natCast]
    have hea := entry_is (entry_ex hC hs a)
    by_cases hba : Bad ll s a
    · exact absurd (hba.on (.step .refl e)) hb
    · by_cases hra : Reach ll s a
      · obtain ⟨n, hn, hwn, _⟩ := hea.2.2 hra hba
        have := hmax _ (.step hwn e)
        omega
      · rw [hea.2.1 hra]; have := hw.pos; omega
  have lo : (m : Int) - 1 ≤ mostE ll s (preds ll ll.length i) := by
    cases hw with
    | one => have := (most_ge (ll := ll) s (preds ll ll.length s)).1; omega
    | @step n b _ hwb e =>
      have hbb : ¬ Bad ll s b := fun x => hb (x.on (.step .refl e))
      have hbl := reach_closed_lt hC hs hwb.reach
      obtain ⟨n', hn, _, hn'⟩ := (entry_is (entry_ex hC hs b)).2.2 hwb.reach hbb
      have h2 := (most_ge (ll := ll) s (preds ll ll.length i)).2 b (preds_mem.2 ⟨b, rfl, hbl, e⟩)
      rw [Int.toNat_natCast] at h2
      have := hn' _ hwb
      omega
  omega
end
end Go.Proofs.Ytjfonoiclndgnaa
