/- What graph.Right answers: just whether a graph may be. No condition. -/
import Derived.Test.YtjfonoiclndgnaaRows
import Derived.Test.YtjfonoiclndgnaaMem
namespace Go.Proofs.Ytjfonoiclndgnaa
open Go.RowKit
def RowOk (n : Nat) (row : List Int) : Prop := (∀ k ∈ row, 0 ≤ k ∧ k < n) ∧ row.Nodup
def RightP (ll : List (List Int)) : Prop := 1 ≤ ll.length ∧ ll.length ≤ 256 ∧ ∀ row ∈ ll, RowOk ll.length row
instance (n : Nat) (row : List Int) : Decidable (RowOk n row) := by unfold RowOk; infer_instance
instance (ll : List (List Int)) : Decidable (RightP ll) := by unfold RightP; infer_instance

theorem rowOk_step {n m : Nat} {row : List Int} (hm : m < row.length) (h : RowOk n (row.take m)) : RowOk n (row.take (m + 1)) ↔ (0 ≤ row[m] ∧ row[m] < n) ∧ row[m] ∉ row.take m := by
  have e : row.take (m + 1) = row.take m ++ [row[m]] := by rw [List.take_add_one, List.getElem?_eq_getElem hm]; rfl
  unfold RowOk at *
  rw [e]
  simp only [List.mem_append, List.mem_singleton, List.nodup_append, List.nodup_cons, List.not_mem_nil, not_false_eq_true, List.nodup_nil, true_and]
  constructor
  · rintro ⟨h1, h2, h3⟩
    exact ⟨h1 _ (.inr rfl), fun hx => h3 _ hx _ rfl rfl⟩
  · rintro ⟨h1, h2⟩
    refine ⟨fun k hk => ?_, h.2, fun a ha b hb hab => ?_⟩
    · rcases hk with hk | rfl
      · exact h.1 k hk
      · exact h1
    · exact h2 (hb ▸ hab ▸ ha)
theorem rowOk_take {n m : Nat} {row : List Int} (h : RowOk n row) : RowOk n (row.take m) :=
  ⟨fun k hk => h.1 k (List.mem_of_mem_take hk), h.2.sublist (List.take_sublist _ _)⟩
theorem all_step {ll : List (List Int)} {p : List Int → Prop} {k : Nat} (hk : k < ll.length) (h : ∀ row ∈ ll.take k, p row) (h1 : p ll[k]) : ∀ row ∈ ll.take (k + 1), p row := by
  have e : ll.take (k + 1) = ll.take k ++ [ll[k]] := by rw [List.take_add_one, List.getElem?_eq_getElem hk]; rfl
  rw [e]
  intro row hr
  rcases List.mem_append.1 hr with hr | hr
  · exact h row hr
  · rw [List.mem_singleton.1 hr]; exact h1

/-- 256 bools that are false -/
def zs256 : Array Value := boolArr 256 fun _ => false
theorem zero37_run (w : World) : (zeroValue 37).run Try.prog w = .ok (.agg zs256) w := by kernel_rfl
attribute [local go_sem] zero37_run

theorem right_any (S : Nat → Prop) (v : Value) (ll : List (List Int)) (w : World) (hv : Rows S w v ll) :
    Calls Try.prog 15 #[v] w fun e w' => e = .returned (.bool (decide (RightP ll))) ∧ Kept All w w' := by
  obtain ⟨a, cap, rfl, h1, h2, _, h⟩ := hv
  unfold maxLen at h2
  have H := Lib.hid h
  have hl : ll.length ≤ 9223372036854775807 := by omega
  clear h h1 h2
  by_cases hn1 : ll.length < 1
  · have hR : ¬ RightP ll := fun h => by have := h.1; omega
    rw [decide_eq_false hR]
    go_enter Try.func15, Try.ntmps15
    go_wp2
    go_step3
    go_wp2
    (first | go_ret | (rw [Exit.noGoto_ret]; go_ret))
    exact ⟨rfl, Kept.refl _ _⟩
  by_cases hn2 : 256 < ll.length
  · have hR : ¬ RightP ll := fun h => by have := h.2.1; omega
    rw [decide_eq_false hR]
    go_enter Try.func15, Try.ntmps15
    go_wp2
    go_step3
    go_wp2
    (first | go_ret | (rw [Exit.noGoto_ret]; go_ret))
    exact ⟨rfl, Kept.refl _ _⟩
  have d1 : decide ((ll.length : Int) < 1) = false := by simp; omega
  have d2 : decide ((256 : Int) < (ll.length : Int)) = false := by simp; omega
  have hle : ll.length ≤ 256 := by omega
  go_enter Try.func15, Try.ntmps15
  go_wp2
  go_step3
  go_wp2
  go_step3
  go_wp2
  go_loopg [18] ll.length (fun g i wr => ∃ k : Nat, k ≤ ll.length ∧ g = ll.length - k ∧ i = .int .i64 k ∧ (∀ row ∈ ll.take k, RowOk ll.length row) ∧ Kept All w wr)
  case atStart => exact ⟨0, by omega, by omega, rfl, by simp, Kept.refl _ _⟩
  case round =>
    obtain ⟨k, hk, rfl, rfl, hok, hkept⟩ := hrel
    by_cases hlt : k < ll.length
    · obtain ⟨b1, o1, c1, rfl, hs1, hc1, he⟩ := H.out k ll[k] (List.getElem?_eq_getElem hlt)
      obtain ⟨ra, rcap, rfl, r1, r2, _, rh⟩ := he
      have hd1 := hkept.cell (p := ⟨b1, o1 + k, none⟩) trivial hc1
      have RH := Lib.hid rh
      have hstep : RowOk ll.length ll[k] → ∀ row ∈ ll.take (k + 1), RowOk ll.length row := fun h => all_step hlt hok h
      have hbad : ¬ RowOk ll.length ll[k] → ¬ RightP ll := fun h h' => h (h'.2.2 _ (List.getElem_mem hlt))
      have Hstep := Lib.hid hstep
      have Hbad := Lib.hid hbad
      unfold maxLen at r2
      have hr : ll[k].length ≤ 9223372036854775807 := by omega
      clear hc1 rh hok hstep hbad r1 r2
      generalize ll[k] = row at *
      go_wp2
      have hB : w.heap.size ≤ wr.heap.size := hkept.size
      have hK0 : Kept All w (wr.alloc (.cells zs256 37)) := hkept.alloc _
      have hb0 : Blk (wr.alloc (.cells zs256 37)) wr.heap.size 37 zs256 := Blk.new _ _ _
      obtain ⟨wo, rfl⟩ : ∃ wo : World, wo = wr := ⟨_, rfl⟩
      go_loopg [24] row.length (fun g i wr => ∃ m : Nat, m ≤ row.length ∧ g = row.length - m ∧ i = .int .i64 m ∧ RowOk ll.length (row.take m) ∧ Kept All w wr ∧ Blk wr wo.heap.size 37 (boolArr 256 fun x => decide ((x : Int) ∈ row.take m)))
      case atStart => exact ⟨0, by omega, by omega, rfl, ⟨by simp, by simp⟩, hK0, by simpa [zs256] using hb0⟩
      case round =>
        obtain ⟨m, hm, rfl, rfl, hrok, hkept2, hblk⟩ := hrel
        clear hd1 hK0 hb0
        by_cases hlt2 : m < row.length
        · obtain ⟨b2, o2, c2, rfl, hs2, hc2, rfl, hwf⟩ := RH.out m row[m] (List.getElem?_eq_getElem hlt2)
          have hd2 := hkept2.cell (p := ⟨b2, o2 + m, none⟩) trivial hc2
          have hst := rowOk_step hlt2 hrok
          have htk : row.take (m + 1) = row.take m ++ [row[m]] := by rw [List.take_add_one, List.getElem?_eq_getElem hlt2]; rfl
          have hrk : RowOk ll.length row → RowOk ll.length (row.take (m + 1)) := rowOk_take
          have HF := Lib.hid (And.intro hst (And.intro htk hrk))
          clear hst htk hrk hc2
          obtain ⟨y1, y2⟩ := wf_bd hwf
          generalize row[m] = y at *
          have hbad2 : ¬ ((0 ≤ y ∧ y < (ll.length : Int)) ∧ y ∉ row.take m) → ¬ RightP ll := fun h => Hbad.out fun hr => h (HF.out.1.1 (HF.out.2.2 hr))
          have Hbad2 := Lib.hid hbad2
          have Hrok := Lib.hid hrok
          clear hbad2 hrok
          have hlast : decide ((m : Int) = (row.length : Int) - 1) = decide (m + 1 = row.length) := by rw [decide_eq_decide]; omega
          clear hlast
          by_cases hy0 : y < 0
          · go_wp2
            (first | go_ret | (rw [Exit.noGoto_ret]; go_ret))
            exact ⟨by rw [decide_eq_false (Hbad2.out (by omega))]; rfl, hkept2⟩
          by_cases hy1 : (ll.length : Int) ≤ y
          · go_wp2
            (first | go_ret | (rw [Exit.noGoto_ret]; go_ret))
            exact ⟨by rw [decide_eq_false (Hbad2.out (by omega))]; rfl, hkept2⟩
          obtain ⟨q, rfl⟩ : ∃ q : Nat, y = q := ⟨y.toNat, by omega⟩
          have hq : q < 256 := by omega
          have hcell : wr.cell? ⟨wo.heap.size, q, none⟩ = some (.bool (decide ((q : Int) ∈ row.take m))) := by rw [hblk.cell, boolArr_at hq]
          have hfree := hblk.free q
          by_cases hin : (q : Int) ∈ row.take m
          · rw [decide_eq_true hin] at hcell
            have Hin := Lib.hid hin
            clear hin
            go_wp2
            (first | go_ret | (rw [Exit.noGoto_ret]; go_ret))
            exact ⟨by rw [decide_eq_false (Hbad2.out (fun h => h.2 Hin.out))]; rfl, hkept2⟩
          · rw [decide_eq_false hin] at hcell
            have hnew : RowOk ll.length (row.take (m + 1)) := HF.out.1.2 ⟨by omega, hin⟩
            have Hin := Lib.hid hin
            have Hnew := Lib.hid hnew
            clear hin hnew
            by_cases hl : m + 1 = row.length
            · have hl1 : ((m : Int) == (row.length : Int) - 1) = true := by rw [beq_iff_eq]; omega
              have Hl := Lib.hid hl
              clear hl
              go_wp2
              go_roundg (ll.length - (k + 1))
              case measure => omega
              case rel => exact ⟨k + 1, by omega, rfl, by go_num, Hstep.out (by have := Hnew.out; rwa [Hl.out, List.take_length] at this), hkept2⟩
            · have hl1 : ((m : Int) == (row.length : Int) - 1) = false := by rw [beq_eq_false_iff_ne]; omega
              have Hl := Lib.hid hl
              clear hl
              go_wp2
              go_roundg (row.length - (m + 1))
              case measure => omega
              case rel => exact ⟨m + 1, by omega, rfl, by go_num, Hnew.out, hkept2.setCell (p := ⟨wo.heap.size, q, none⟩) (.inr hB) _, by
                rw [← boolArr_set (p := fun x => decide ((x : Int) ∈ row.take m)) (i := q) (b := true)]
                · exact hblk.set q _
                · rw [HF.out.2.1]; simp
                · intro j _ hj
                  have : ¬ (j : Int) = (q : Int) := by omega
                  rw [HF.out.2.1]; simp [this]⟩
        · have hml : m = row.length := by omega
          have Hrok := Lib.hid hrok
          have Hml := Lib.hid hml
          clear hrok hml
          go_wp2
          go_roundg (ll.length - (k + 1))
          case measure => omega
          case rel => exact ⟨k + 1, by omega, rfl, by go_num, Hstep.out (by have := Hrok.out; rwa [Hml.out, List.take_length] at this), hkept2⟩
    · have hkl : k = ll.length := by omega
      have hR : RightP ll := ⟨by omega, by omega, by rw [hkl, List.take_length] at hok; exact hok⟩
      have HR := Lib.hid hR
      clear hR hok hkl
      go_wp2
      (first | go_ret | (rw [Exit.noGoto_ret]; go_ret))
      exact ⟨by rw [decide_eq_true HR.out]; rfl, hkept⟩
end Go.Proofs.Ytjfonoiclndgnaa
