/- What arith.Name, arith.Op and the reference's Name, Op, Names answer, where the table of names holds its thirteen names. -/
import Derived.Test.YtbebgjodgebgkaaDoorBase
import Derived.Lib.LaidTab
namespace Go.Proofs.YtbebgjodgebgkaaDoor
open Go.RowKit

/-- the operators' names -/
def nm : Nat → ByteArray
  | 1 => ⟨#[97, 100, 100]⟩ | 2 => ⟨#[115, 117, 98]⟩ | 3 => ⟨#[109, 117, 108]⟩ | 4 => ⟨#[100, 105, 118]⟩ | 5 => ⟨#[109, 111, 100]⟩ | 6 => ⟨#[97, 110, 100]⟩
  | 7 => ⟨#[111, 114]⟩ | 8 => ⟨#[120, 111, 114]⟩ | 9 => ⟨#[115, 104, 108]⟩ | 10 => ⟨#[115, 104, 114]⟩ | 11 => ⟨#[101, 113]⟩ | 12 => ⟨#[108, 101, 115, 115]⟩ | _ => ⟨#[]⟩

/-- the block of the reference's names -/
def nmObj : Obj := .cells ((List.range 12).map fun i => Value.string (nm (i + 1))).toArray 9

theorem names_any (w : World) : Calls Tryd.prog 13 #[] w fun e w' => e = .returned (.slice (some ⟨w.heap.size, 0, none⟩) 12 12) ∧ w.alloc nmObj = w' := by
  go_enter Tryd.func13, Tryd.ntmps13
  go_wp2
  go_ret
  exact ⟨rfl, rfl⟩

theorem nm_cell (w : World) (i : Nat) (hi : i < 12) : (w.alloc nmObj).cell? ⟨w.heap.size, i, none⟩ = some (.string (nm (i + 1))) := by
  unfold nmObj
  rw [World.cell?_alloc_new]
  simp [hi]

theorem name_yes (op : Nat) (h : op < 13) (w : World) (hc : w.cell? ⟨0, op, none⟩ = some (.string (nm op))) : Calls Tryd.prog 7 #[.int .u8 op] w fun e w' => e = .returned (.string (nm op)) ∧ w = w' := by
  go_enter Tryd.func7, Tryd.ntmps7
  go_wp2
  go_ret
  exact ⟨rfl, rfl⟩
theorem name_no (op : Nat) (h : 13 ≤ op) (h1 : op < 256) (w : World) : Calls Tryd.prog 7 #[.int .u8 op] w fun e w' => e = .returned (.string ⟨#[]⟩) ∧ w = w' := by
  go_enter Tryd.func7, Tryd.ntmps7
  go_wp2
  go_ret
  exact ⟨rfl, rfl⟩
theorem refname_yes (op : Nat) (h : op < 12) (w : World) : Calls Tryd.prog 6 #[.int .u8 (op + 1)] w fun e w' => e = .returned (.string (nm (op + 1))) ∧ w.alloc nmObj = w' := by
  have hc := nm_cell w op h
  go_enter Tryd.func6, Tryd.ntmps6
  go_wp2_with (go_at_call 13; refine (names_any _).mono ?_; rintro e w' ⟨rfl, rfl⟩)
  go_ret
  exact ⟨rfl, rfl⟩
theorem refname_no (op : Nat) (h : op < 1 ∨ 12 < op) (h1 : op < 256) (w : World) : Calls Tryd.prog 6 #[.int .u8 op] w fun e w' => e = .returned (.string ⟨#[]⟩) ∧ w = w' := by
  rcases h with h | h
  all_goals
    go_enter Tryd.func6, Tryd.ntmps6
    go_wp2
    go_ret
    exact ⟨rfl, rfl⟩

theorem op_yes (s : ByteArray) (r : Nat) (h1 : 1 ≤ r) (h2 : r ≤ 12) (hr : ((nm r).toList == s.toList) = true) (hmin : ∀ j, 1 ≤ j → j < r → ((nm j).toList == s.toList) = false) (w : World)
    (hc : ∀ i, i < 13 → w.cell? ⟨0, i, none⟩ = some (.string (nm i))) : Calls Tryd.prog 9 #[.string s] w fun e w' => e = .returned (.tuple #[.int .u8 r, .bool true]) ∧ w = w' := by
  have HC := Lib.hid hc
  have HM := Lib.hid hmin
  have HR := Lib.hid hr
  clear hc hmin hr
  go_enter Tryd.func9, Tryd.ntmps9
  go_wp2
  go_loop [5] (fun i => ∃ k : Nat, k ≤ r ∧ i = .int .i64 k) (fun i => r - (intOf i).toNat)
  case atStart => exact ⟨0, by omega, rfl⟩
  case round =>
    obtain ⟨k, hk, rfl⟩ := hrel
    have hck := HC.out k (by omega)
    by_cases hlt : k < r
    · by_cases h0 : k = 0
      · subst h0
        go_wp2
        go_round
        case rel => exact ⟨1, by omega, rfl⟩
        case measure => simp [intOf]; omega
      · have hm := HM.out k (by omega) hlt
        have hpos : decide ((0 : Int) < k) = true := by simp; omega
        go_wp2
        go_round
        case rel => exact ⟨k + 1, by omega, by go_num⟩
        case measure => simp [intOf]; omega
    · obtain rfl : k = r := by omega
      have hm := HR.out
      have hpos : decide ((0 : Int) < k) = true := by simp; omega
      go_wp2
      go_ret2
      exact ⟨rfl, rfl⟩
theorem op_no (s : ByteArray) (hmin : ∀ j, 1 ≤ j → j < 13 → ((nm j).toList == s.toList) = false) (w : World)
    (hc : ∀ i, i < 13 → w.cell? ⟨0, i, none⟩ = some (.string (nm i))) : Calls Tryd.prog 9 #[.string s] w fun e w' => e = .returned (.tuple #[.int .u8 0, .bool false]) ∧ w = w' := by
  have HC := Lib.hid hc
  have HM := Lib.hid hmin
  clear hc hmin
  go_enter Tryd.func9, Tryd.ntmps9
  go_wp2
  go_loop [5] (fun i => ∃ k : Nat, k ≤ 13 ∧ i = .int .i64 k) (fun i => 13 - (intOf i).toNat)
  case atStart => exact ⟨0, by omega, rfl⟩
  case round =>
    obtain ⟨k, hk, rfl⟩ := hrel
    by_cases hlt : k < 13
    · have hck := HC.out k (by omega)
      by_cases h0 : k = 0
      · subst h0
        go_wp2
        go_round
        case rel => exact ⟨1, by omega, rfl⟩
        case measure => simp [intOf]
      · have hm := HM.out k (by omega) hlt
        have hpos : decide ((0 : Int) < k) = true := by simp; omega
        go_wp2
        go_round
        case rel => exact ⟨k + 1, by omega, by go_num⟩
        case measure => simp [intOf]; omega
    · go_wp2
      go_ret2
      exact ⟨rfl, rfl⟩
theorem refop_yes (s : ByteArray) (r : Nat) (h2 : r < 12) (hr : ((nm (r + 1)).toList == s.toList) = true) (hmin : ∀ j, j < r → ((nm (j + 1)).toList == s.toList) = false) (w : World) :
    Calls Tryd.prog 10 #[.string s] w fun e w' => e = .returned (.int .u8 (r + 1)) ∧ w.alloc nmObj = w' := by
  have hc := fun i hi => nm_cell w i hi
  have HC := Lib.hid hc
  have HM := Lib.hid hmin
  have HR := Lib.hid hr
  clear hc hmin hr
  go_enter Tryd.func10, Tryd.ntmps10
  go_wp2_with (go_at_call 13; refine (names_any _).mono ?_; rintro e w' ⟨rfl, rfl⟩)
  go_loop [4] (fun i => ∃ k : Nat, k ≤ r ∧ i = .int .i64 k) (fun i => r - (intOf i).toNat)
  case atStart => exact ⟨0, by omega, rfl⟩
  case round =>
    obtain ⟨k, hk, rfl⟩ := hrel
    have hck := HC.out k (by omega)
    by_cases hlt : k < r
    · have hm := HM.out k hlt
      go_wp2
      go_round
      case rel => exact ⟨k + 1, by omega, by go_num⟩
      case measure => simp [intOf]; omega
    · obtain rfl : k = r := by omega
      have hm := HR.out
      go_wp2
      go_ret
      exact ⟨rfl, rfl⟩
theorem refop_no (s : ByteArray) (hmin : ∀ j, j < 12 → ((nm (j + 1)).toList == s.toList) = false) (w : World) :
    Calls Tryd.prog 10 #[.string s] w fun e w' => e = .returned (.int .u8 0) ∧ w.alloc nmObj = w' := by
  have hc := fun i hi => nm_cell w i hi
  have HC := Lib.hid hc
  have HM := Lib.hid hmin
  clear hc hmin
  go_enter Tryd.func10, Tryd.ntmps10
  go_wp2_with (go_at_call 13; refine (names_any _).mono ?_; rintro e w' ⟨rfl, rfl⟩)
  go_loop [4] (fun i => ∃ k : Nat, k ≤ 12 ∧ i = .int .i64 k) (fun i => 12 - (intOf i).toNat)
  case atStart => exact ⟨0, by omega, rfl⟩
  case round =>
    obtain ⟨k, hk, rfl⟩ := hrel
    by_cases hlt : k < 12
    · have hck := HC.out k (by omega)
      have hm := HM.out k hlt
      go_wp2
      go_round
      case rel => exact ⟨k + 1, by omega, by go_num⟩
      case measure => simp [intOf]; omega
    · go_wp2
      go_ret
      exact ⟨rfl, rfl⟩
end Go.Proofs.YtbebgjodgebgkaaDoor
