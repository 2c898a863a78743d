/- What interdictlaw18.awake answers: true. No condition. -/
import Derived.Test.YtjfonoiclndgnaaS
import Derived.Test.YtjfonoiclndgnaaA
namespace Go.Proofs.Ytjfonoiclndgnaa
open Go.RowKit

theorem ints_lit {w : World} {g n : Nat} {l : List Int} (h : Blk w g 3 (intCells l).toArray) (hn : n = l.length) (hl : l.length ≤ 1000) (hw : ∀ x ∈ l, (Lit.int .i64 x).wf = true) : Ints All w (.slice (some ⟨g, 0, none⟩) n n) l := by
  subst hn
  refine Sl.of_blk h trivial (Nat.le_refl _) (by unfold maxLen; omega) (by omega) fun i x hx => ⟨.int .i64 x, ?_, rfl, hw x (List.mem_of_getElem? hx)⟩
  simp [intCells, hx]
theorem rows_lit {w : World} {g n : Nat} {cs : List Value} {ll : List (List Int)} (h : Blk w g 28 cs.toArray) (hn : n = ll.length) (hl : ll.length ≤ 1000) (hw : ∀ (i : Nat) x, ll[i]? = some x → ∃ c, cs[i]? = some c ∧ Ints All w c x) : Rows All w (.slice (some ⟨g, 0, none⟩) n n) ll := by
  subst hn
  refine Sl.of_blk h trivial (Nat.le_refl _) (by unfold maxLen; omega) (by omega) fun i x hx => ?_
  obtain ⟨c, hc, hE⟩ := hw i x hx
  exact ⟨c, by simpa using hc, hE⟩
/-- the first example as it is built -/
abbrev exW (w : World) : World := ((w.alloc (.cells #[.int .i64 1, .int .i64 2] 3)).alloc (.cells #[.int .i64 2] 3)).alloc (.cells #[.slice (some ⟨w.heap.size, 0, none⟩) 2 2, .slice (some ⟨w.heap.size + 1, 0, none⟩) 1 1, .slice none 0 0] 28)
theorem ex_rows (w : World) : Rows All (exW w) (.slice (some ⟨w.heap.size + 1 + 1, 0, none⟩) 3 3) exG := by
  have b1 : Blk (exW w) w.heap.size 3 (intCells [1, 2]).toArray := ((Blk.new _ _ _).alloc _).alloc _
  have b2 : Blk (exW w) (w.heap.size + 1) 3 (intCells [2]).toArray := (blk_new' (by simp)).alloc _
  have b3 : Blk (exW w) (w.heap.size + 1 + 1) 28 [Value.slice (some ⟨w.heap.size, 0, none⟩) 2 2, .slice (some ⟨w.heap.size + 1, 0, none⟩) 1 1, .slice none 0 0].toArray := blk_new' (by simp)
  refine rows_lit b3 rfl (by decide) fun i x hx => ?_
  match i, hx with
  | 0, hx => cases hx; exact ⟨_, rfl, ints_lit b1 rfl (by decide) (by decide)⟩
  | 1, hx => cases hx; exact ⟨_, rfl, ints_lit b2 rfl (by decide) (by decide)⟩
  | 2, hx => cases hx; exact ⟨_, rfl, Sl.nil⟩
abbrev exW2 (w : World) : World := (((w.alloc (.cells #[.int .i64 2] 3)).alloc (.cells #[.int .i64 1] 3)).alloc (.cells #[.int .i64 0] 3)).alloc (.cells #[.slice (some ⟨w.heap.size, 0, none⟩) 1 1, .slice (some ⟨w.heap.size + 1, 0, none⟩) 1 1, .slice (some ⟨w.heap.size + 1 + 1, 0, none⟩) 1 1] 28)
theorem ex_rows2 (w : World) : Rows All (exW2 w) (.slice (some ⟨w.heap.size + 1 + 1 + 1, 0, none⟩) 3 3) [[2], [1], [0]] := by
  have b1 : Blk (exW2 w) w.heap.size 3 (intCells [2]).toArray := (((Blk.new _ _ _).alloc _).alloc _).alloc _
  have b2 : Blk (exW2 w) (w.heap.size + 1) 3 (intCells [1]).toArray := ((blk_new' (by simp)).alloc _).alloc _
  have b3 : Blk (exW2 w) (w.heap.size + 1 + 1) 3 (intCells [0]).toArray := (blk_new' (by simp)).alloc _
  have b4 : Blk (exW2 w) (w.heap.size + 1 + 1 + 1) 28 [Value.slice (some ⟨w.heap.size, 0, none⟩) 1 1, .slice (some ⟨w.heap.size + 1, 0, none⟩) 1 1, .slice (some ⟨w.heap.size + 1 + 1, 0, none⟩) 1 1].toArray := blk_new' (by simp)
  refine rows_lit b4 rfl (by decide) fun i x hx => ?_
  match i, hx with
  | 0, hx => cases hx; exact ⟨_, rfl, ints_lit b1 rfl (by decide) (by decide)⟩
  | 1, hx => cases hx; exact ⟨_, rfl, ints_lit b2 rfl (by decide) (by decide)⟩
  | 2, hx => cases hx; exact ⟨_, rfl, ints_lit b3 rfl (by decide) (by decide)⟩
set_option maxRecDepth 100000 in
theorem awake_any (w : World) : Calls Try.prog 11 #[] w fun e w' => e = .returned (.bool true) ∧ Kept All w w' := by
  go_enter Try.func11, Try.ntmps11
  go_wp2_with fail
  refine (groups_yes All _ exG (exW w) (ex_rows w) ex_right).mono ?_
  rintro e w1 ⟨u, rfl, hk1, hr1⟩
  rw [ex_groups] at hr1
  have hkw : Kept All w (exW w) := (((Kept.refl _ w).alloc _).alloc _).alloc _
  have hrow1 := goodRows.keep hk1.all (ex_rows w)
  have hr1' := hr1
  obtain ⟨Au, cu, rfl, _⟩ := hr1'
  have H1 := Lib.hid (And.intro (hkw.trans hk1) (And.intro hrow1 hr1))
  clear hk1 hr1 hkw hrow1
  go_wp2_with fail
  have hk2 : Kept All w1 (exW2 w1) := ((((Kept.refl _ w1).alloc _).alloc _).alloc _).alloc _
  refine (same_any _ _ _ _ _ _ (exW2 w1) (goodRows.keep hk2.all H1.out.2.2) (ex_rows2 w1)).mono ?_
  rintro e w2 ⟨rfl, hk3⟩
  have H2 := Lib.hid (And.intro (H1.out.1.trans (hk2.trans hk3)) (goodRows.keep (hk2.trans hk3).all H1.out.2.1))
  clear hk2 hk3
  have hd : decide ([[2], [1], [0]] = ([[2], [1], [0]] : List (List Int))) = true := rfl
  rw [hd]
  go_wp2_with fail
  refine (entries_yes All _ exG 0 w2 H2.out.2 ex_right (by decide)).mono ?_
  rintro e w3 ⟨u3, rfl, hk4, hr3⟩
  rw [ex_entries] at hr3
  have hr3' := hr3
  obtain ⟨Au3, cu3, rfl, _⟩ := hr3'
  have H3 := Lib.hid (And.intro (H2.out.1.trans hk4) hr3)
  clear hk4 hr3
  go_wp2_with fail
  have hk5 : Kept All w3 (w3.alloc (.cells #[.int .i64 1, .int .i64 2, .int .i64 3] 3)) := (Kept.refl _ w3).alloc _
  refine (ints_any _ All _ _ _ [1, 2, 3] _ (goodInts.keep hk5.all H3.out.2) (ints_lit (l := [1, 2, 3]) (Blk.new _ _ _) rfl (by decide) (by decide))).mono ?_
  rintro e w4 ⟨rfl, hk6⟩
  have hd2 : decide ([1, 2, 3] = ([1, 2, 3] : List Int)) = true := rfl
  rw [hd2]
  have H4 := Lib.hid (H3.out.1.trans (hk5.trans hk6))
  clear hk5 hk6
  go_wp2_with fail
  go_ret
  exact ⟨rfl, H4.out⟩
end Go.Proofs.Ytjfonoiclndgnaa
