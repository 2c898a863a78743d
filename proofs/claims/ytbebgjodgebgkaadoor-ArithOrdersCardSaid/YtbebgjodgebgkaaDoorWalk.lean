/- What arith.Do, its closures and arith.Traps answer, for every operator and every two numbers. No condition (operators are bytes). -/
import Derived.Test.YtbebgjodgebgkaaDoorBv
import Derived.Outline
namespace Go.Proofs.YtbebgjodgebgkaaDoor
open Go.RowKit
attribute [local go_sem] b_add b_sub b_mul b_quo b_rem b_and b_or b_xor b_eql b_neq b_lss b_gtr b_and63 b_shl b_shr eqg eqg0 eqgU eqgU0 eqgF eqgN nil_eq1 nil_eq2
theorem I_lit0 : Value.int .i64 0 = I 0 := by simp [I]
theorem b_eql0 {P : Program} {w : World} (t : TypeId) (x : BitVec 64) : (binOp .eql t (I x) (.int .i64 0)).run P w = .ok (.bool (x == 0#64)) w := by rw [I_lit0]; exact b_eql t x 0
attribute [local go_sem] b_eql0

/-- 1 or 0 -/
def tr (t : Bool) : BitVec 64 := if t then 1#64 else 0#64
/-- what an operator makes -/
def doV (op : Int) (a b : BitVec 64) : BitVec 64 :=
  if op = 1 then a + b else if op = 2 then a - b else if op = 3 then a * b else if op = 4 then a.sdiv b else if op = 5 then a.srem b else if op = 6 then a &&& b
  else if op = 7 then a ||| b else if op = 8 then a ^^^ b else if op = 9 then a <<< (b &&& 63#64).toNat else if op = 10 then a.sshiftRight (b &&& 63#64).toNat
  else if op = 11 then (tr (a == b)) else if op = 12 then (tr (a.slt b)) else 0
/-- its error -/
def doE (op : Int) (b : BitVec 64) : Int := if op < 1 ∨ 12 < op then 1 else if (op = 4 ∨ op = 5) ∧ b = 0#64 then 20 else 0
def doR (op : Int) (a b : BitVec 64) : BitVec 64 := if doE op b = 0 then doV op a b else 0

theorem truth_any (t : Bool) (w : World) : Calls Tryd.prog 26 #[.bool t] w fun e w' => e = .returned (I (tr t)) ∧ w = w' := by
  cases t
  all_goals
    go_enter Tryd.func26, Tryd.ntmps26
    go_wp2
    go_ret
    exact ⟨rfl, rfl⟩
theorem op17 (a b : BitVec 64) (w : World)  : Calls Tryd.prog 15 #[I a, I b] w fun e w' => e = .returned (I (a + b)) ∧ w = w' := by
  go_enter Tryd.func15, Tryd.ntmps15
  go_wp2_with (go_at_call 26; refine (truth_any _ _).mono ?_; rintro e w' ⟨rfl, rfl⟩)
  go_ret
  exact ⟨rfl, rfl⟩
theorem op18 (a b : BitVec 64) (w : World)  : Calls Tryd.prog 16 #[I a, I b] w fun e w' => e = .returned (I (a - b)) ∧ w = w' := by
  go_enter Tryd.func16, Tryd.ntmps16
  go_wp2_with (go_at_call 26; refine (truth_any _ _).mono ?_; rintro e w' ⟨rfl, rfl⟩)
  go_ret
  exact ⟨rfl, rfl⟩
theorem op19 (a b : BitVec 64) (w : World)  : Calls Tryd.prog 17 #[I a, I b] w fun e w' => e = .returned (I (a * b)) ∧ w = w' := by
  go_enter Tryd.func17, Tryd.ntmps17
  go_wp2_with (go_at_call 26; refine (truth_any _ _).mono ?_; rintro e w' ⟨rfl, rfl⟩)
  go_ret
  exact ⟨rfl, rfl⟩
theorem op20 (a b : BitVec 64) (w : World) (hb : b ≠ 0#64) : Calls Tryd.prog 18 #[I a, I b] w fun e w' => e = .returned (I (a.sdiv b)) ∧ w = w' := by
  go_enter Tryd.func18, Tryd.ntmps18
  go_wp2_with (go_at_call 26; refine (truth_any _ _).mono ?_; rintro e w' ⟨rfl, rfl⟩)
  go_ret
  exact ⟨rfl, rfl⟩
theorem op21 (a b : BitVec 64) (w : World) (hb : b ≠ 0#64) : Calls Tryd.prog 19 #[I a, I b] w fun e w' => e = .returned (I (a.srem b)) ∧ w = w' := by
  go_enter Tryd.func19, Tryd.ntmps19
  go_wp2_with (go_at_call 26; refine (truth_any _ _).mono ?_; rintro e w' ⟨rfl, rfl⟩)
  go_ret
  exact ⟨rfl, rfl⟩
theorem op22 (a b : BitVec 64) (w : World)  : Calls Tryd.prog 20 #[I a, I b] w fun e w' => e = .returned (I (a &&& b)) ∧ w = w' := by
  go_enter Tryd.func20, Tryd.ntmps20
  go_wp2_with (go_at_call 26; refine (truth_any _ _).mono ?_; rintro e w' ⟨rfl, rfl⟩)
  go_ret
  exact ⟨rfl, rfl⟩
theorem op23 (a b : BitVec 64) (w : World)  : Calls Tryd.prog 21 #[I a, I b] w fun e w' => e = .returned (I (a ||| b)) ∧ w = w' := by
  go_enter Tryd.func21, Tryd.ntmps21
  go_wp2_with (go_at_call 26; refine (truth_any _ _).mono ?_; rintro e w' ⟨rfl, rfl⟩)
  go_ret
  exact ⟨rfl, rfl⟩
theorem op24 (a b : BitVec 64) (w : World)  : Calls Tryd.prog 22 #[I a, I b] w fun e w' => e = .returned (I (a ^^^ b)) ∧ w = w' := by
  go_enter Tryd.func22, Tryd.ntmps22
  go_wp2_with (go_at_call 26; refine (truth_any _ _).mono ?_; rintro e w' ⟨rfl, rfl⟩)
  go_ret
  exact ⟨rfl, rfl⟩
theorem op25 (a b : BitVec 64) (w : World)  : Calls Tryd.prog 23 #[I a, I b] w fun e w' => e = .returned (I (a <<< (b &&& 63#64).toNat)) ∧ w = w' := by
  go_enter Tryd.func23, Tryd.ntmps23
  go_wp2_with (go_at_call 26; refine (truth_any _ _).mono ?_; rintro e w' ⟨rfl, rfl⟩)
  go_ret
  exact ⟨rfl, rfl⟩
theorem op26 (a b : BitVec 64) (w : World)  : Calls Tryd.prog 24 #[I a, I b] w fun e w' => e = .returned (I (a.sshiftRight (b &&& 63#64).toNat)) ∧ w = w' := by
  go_enter Tryd.func24, Tryd.ntmps24
  go_wp2_with (go_at_call 26; refine (truth_any _ _).mono ?_; rintro e w' ⟨rfl, rfl⟩)
  go_ret
  exact ⟨rfl, rfl⟩
theorem op27 (a b : BitVec 64) (w : World)  : Calls Tryd.prog 25 #[I a, I b] w fun e w' => e = .returned (I (tr (a == b))) ∧ w = w' := by
  go_enter Tryd.func25, Tryd.ntmps25
  go_wp2_with (go_at_call 26; refine (truth_any _ _).mono ?_; rintro e w' ⟨rfl, rfl⟩)
  go_ret
  exact ⟨rfl, rfl⟩
theorem op29 (a b : BitVec 64) (w : World)  : Calls Tryd.prog 27 #[I a, I b] w fun e w' => e = .returned (I (tr (a.slt b))) ∧ w = w' := by
  go_enter Tryd.func27, Tryd.ntmps27
  go_wp2_with (go_at_call 26; refine (truth_any _ _).mono ?_; rintro e w' ⟨rfl, rfl⟩)
  go_ret
  exact ⟨rfl, rfl⟩
theorem traps_any (op : Int) (w : World) (h0 : 0 ≤ op) (h1 : op < 256) : Calls Tryd.prog 11 #[.int .u8 op] w fun e w' => e = .returned (.bool (op == 4 || op == 5)) ∧ w = w' := by
  by_cases h4 : (op == 4) = true
  · go_enter Tryd.func11, Tryd.ntmps11
    go_wp2
    go_ret
    exact ⟨by simp [h4], rfl⟩
  · have h4' : (op == 4) = false := by simpa using h4
    clear h4
    go_enter Tryd.func11, Tryd.ntmps11
    go_wp2
    go_ret
    exact ⟨by simp [h4'], rfl⟩
theorem traps_yes (op : Int) (w : World) (h : op = 4 ∨ op = 5) : Calls Tryd.prog 11 #[.int .u8 op] w fun e w' => e = .returned (.bool true) ∧ w = w' := by
  refine (traps_any op w (by omega) (by omega)).mono ?_
  rintro e w' ⟨rfl, rfl⟩
  rcases h with rfl | rfl <;> exact ⟨rfl, rfl⟩
theorem traps_no (op : Int) (w : World) (h0 : 0 ≤ op) (h1 : op < 256) (h : op ≠ 4 ∧ op ≠ 5) : Calls Tryd.prog 11 #[.int .u8 op] w fun e w' => e = .returned (.bool false) ∧ w = w' := by
  refine (traps_any op w (by omega) (by omega)).mono ?_
  rintro e w' ⟨rfl, rfl⟩
  have e4 : (op == 4) = false := by simpa using h.1
  have e5 : (op == 5) = false := by simpa using h.2
  exact ⟨by rw [e4, e5]; rfl, rfl⟩
theorem do1 (a b : BitVec 64) (w : World)  : Calls Tryd.prog 12 #[.int .u8 1, I a, I b] w fun e w' => e = .returned (.tuple #[I (a + b), .int .i64 0]) ∧ w.alloc (mp 12) = w' := by
  have hl : (Instr.lookup 38 (.map (some w.heap.size)) (.int .u8 1) false).run Tryd.prog (w.alloc (mp 12)) = .ok (.func (.func 15) #[] #[]) (w.alloc (mp 12)) := look_mp w 1 (by decide) (by decide)
  go_enter Tryd.func12, Tryd.ntmps12
  go_wp2_with (first | (go_at_call 14; refine (does_any _).mono ?_; rintro e w' ⟨rfl, rfl⟩) | (go_at_call 11; refine (traps_no _ _ (by omega) (by omega) (by omega)).mono ?_; rintro e w' ⟨rfl, rfl⟩) | (go_at_call 15; refine (op17 _ _ _).mono ?_; rintro e w' ⟨rfl, rfl⟩))
  go_ret2
  exact ⟨rfl, rfl⟩
theorem do2 (a b : BitVec 64) (w : World)  : Calls Tryd.prog 12 #[.int .u8 2, I a, I b] w fun e w' => e = .returned (.tuple #[I (a - b), .int .i64 0]) ∧ w.alloc (mp 12) = w' := by
  have hl : (Instr.lookup 38 (.map (some w.heap.size)) (.int .u8 2) false).run Tryd.prog (w.alloc (mp 12)) = .ok (.func (.func 16) #[] #[]) (w.alloc (mp 12)) := look_mp w 2 (by decide) (by decide)
  go_enter Tryd.func12, Tryd.ntmps12
  go_wp2_with (first | (go_at_call 14; refine (does_any _).mono ?_; rintro e w' ⟨rfl, rfl⟩) | (go_at_call 11; refine (traps_no _ _ (by omega) (by omega) (by omega)).mono ?_; rintro e w' ⟨rfl, rfl⟩) | (go_at_call 16; refine (op18 _ _ _).mono ?_; rintro e w' ⟨rfl, rfl⟩))
  go_ret2
  exact ⟨rfl, rfl⟩
theorem do3 (a b : BitVec 64) (w : World)  : Calls Tryd.prog 12 #[.int .u8 3, I a, I b] w fun e w' => e = .returned (.tuple #[I (a * b), .int .i64 0]) ∧ w.alloc (mp 12) = w' := by
  have hl : (Instr.lookup 38 (.map (some w.heap.size)) (.int .u8 3) false).run Tryd.prog (w.alloc (mp 12)) = .ok (.func (.func 17) #[] #[]) (w.alloc (mp 12)) := look_mp w 3 (by decide) (by decide)
  go_enter Tryd.func12, Tryd.ntmps12
  go_wp2_with (first | (go_at_call 14; refine (does_any _).mono ?_; rintro e w' ⟨rfl, rfl⟩) | (go_at_call 11; refine (traps_no _ _ (by omega) (by omega) (by omega)).mono ?_; rintro e w' ⟨rfl, rfl⟩) | (go_at_call 17; refine (op19 _ _ _).mono ?_; rintro e w' ⟨rfl, rfl⟩))
  go_ret2
  exact ⟨rfl, rfl⟩
theorem do4 (a b : BitVec 64) (w : World) (hb : b ≠ 0#64) : Calls Tryd.prog 12 #[.int .u8 4, I a, I b] w fun e w' => e = .returned (.tuple #[I (a.sdiv b), .int .i64 0]) ∧ w.alloc (mp 12) = w' := by
  have hl : (Instr.lookup 38 (.map (some w.heap.size)) (.int .u8 4) false).run Tryd.prog (w.alloc (mp 12)) = .ok (.func (.func 18) #[] #[]) (w.alloc (mp 12)) := look_mp w 4 (by decide) (by decide)
  have hb0 : (b == 0#64) = false := by simpa using hb
  go_enter Tryd.func12, Tryd.ntmps12
  go_wp2_with (first | (go_at_call 14; refine (does_any _).mono ?_; rintro e w' ⟨rfl, rfl⟩) | (go_at_call 11; refine (traps_yes _ _ (by omega)).mono ?_; rintro e w' ⟨rfl, rfl⟩) | (go_at_call 18; refine (op20 _ _ _ hb).mono ?_; rintro e w' ⟨rfl, rfl⟩))
  go_ret2
  exact ⟨rfl, rfl⟩
theorem do5 (a b : BitVec 64) (w : World) (hb : b ≠ 0#64) : Calls Tryd.prog 12 #[.int .u8 5, I a, I b] w fun e w' => e = .returned (.tuple #[I (a.srem b), .int .i64 0]) ∧ w.alloc (mp 12) = w' := by
  have hl : (Instr.lookup 38 (.map (some w.heap.size)) (.int .u8 5) false).run Tryd.prog (w.alloc (mp 12)) = .ok (.func (.func 19) #[] #[]) (w.alloc (mp 12)) := look_mp w 5 (by decide) (by decide)
  have hb0 : (b == 0#64) = false := by simpa using hb
  go_enter Tryd.func12, Tryd.ntmps12
  go_wp2_with (first | (go_at_call 14; refine (does_any _).mono ?_; rintro e w' ⟨rfl, rfl⟩) | (go_at_call 11; refine (traps_yes _ _ (by omega)).mono ?_; rintro e w' ⟨rfl, rfl⟩) | (go_at_call 19; refine (op21 _ _ _ hb).mono ?_; rintro e w' ⟨rfl, rfl⟩))
  go_ret2
  exact ⟨rfl, rfl⟩
theorem do6 (a b : BitVec 64) (w : World)  : Calls Tryd.prog 12 #[.int .u8 6, I a, I b] w fun e w' => e = .returned (.tuple #[I (a &&& b), .int .i64 0]) ∧ w.alloc (mp 12) = w' := by
  have hl : (Instr.lookup 38 (.map (some w.heap.size)) (.int .u8 6) false).run Tryd.prog (w.alloc (mp 12)) = .ok (.func (.func 20) #[] #[]) (w.alloc (mp 12)) := look_mp w 6 (by decide) (by decide)
  go_enter Tryd.func12, Tryd.ntmps12
  go_wp2_with (first | (go_at_call 14; refine (does_any _).mono ?_; rintro e w' ⟨rfl, rfl⟩) | (go_at_call 11; refine (traps_no _ _ (by omega) (by omega) (by omega)).mono ?_; rintro e w' ⟨rfl, rfl⟩) | (go_at_call 20; refine (op22 _ _ _).mono ?_; rintro e w' ⟨rfl, rfl⟩))
  go_ret2
  exact ⟨rfl, rfl⟩
theorem do7 (a b : BitVec 64) (w : World)  : Calls Tryd.prog 12 #[.int .u8 7, I a, I b] w fun e w' => e = .returned (.tuple #[I (a ||| b), .int .i64 0]) ∧ w.alloc (mp 12) = w' := by
  have hl : (Instr.lookup 38 (.map (some w.heap.size)) (.int .u8 7) false).run Tryd.prog (w.alloc (mp 12)) = .ok (.func (.func 21) #[] #[]) (w.alloc (mp 12)) := look_mp w 7 (by decide) (by decide)
  go_enter Tryd.func12, Tryd.ntmps12
  go_wp2_with (first | (go_at_call 14; refine (does_any _).mono ?_; rintro e w' ⟨rfl, rfl⟩) | (go_at_call 11; refine (traps_no _ _ (by omega) (by omega) (by omega)).mono ?_; rintro e w' ⟨rfl, rfl⟩) | (go_at_call 21; refine (op23 _ _ _).mono ?_; rintro e w' ⟨rfl, rfl⟩))
  go_ret2
  exact ⟨rfl, rfl⟩
theorem do8 (a b : BitVec 64) (w : World)  : Calls Tryd.prog 12 #[.int .u8 8, I a, I b] w fun e w' => e = .returned (.tuple #[I (a ^^^ b), .int .i64 0]) ∧ w.alloc (mp 12) = w' := by
  have hl : (Instr.lookup 38 (.map (some w.heap.size)) (.int .u8 8) false).run Tryd.prog (w.alloc (mp 12)) = .ok (.func (.func 22) #[] #[]) (w.alloc (mp 12)) := look_mp w 8 (by decide) (by decide)
  go_enter Tryd.func12, Tryd.ntmps12
  go_wp2_with (first | (go_at_call 14; refine (does_any _).mono ?_; rintro e w' ⟨rfl, rfl⟩) | (go_at_call 11; refine (traps_no _ _ (by omega) (by omega) (by omega)).mono ?_; rintro e w' ⟨rfl, rfl⟩) | (go_at_call 22; refine (op24 _ _ _).mono ?_; rintro e w' ⟨rfl, rfl⟩))
  go_ret2
  exact ⟨rfl, rfl⟩
theorem do9 (a b : BitVec 64) (w : World)  : Calls Tryd.prog 12 #[.int .u8 9, I a, I b] w fun e w' => e = .returned (.tuple #[I (a <<< (b &&& 63#64).toNat), .int .i64 0]) ∧ w.alloc (mp 12) = w' := by
  have hl : (Instr.lookup 38 (.map (some w.heap.size)) (.int .u8 9) false).run Tryd.prog (w.alloc (mp 12)) = .ok (.func (.func 23) #[] #[]) (w.alloc (mp 12)) := look_mp w 9 (by decide) (by decide)
  go_enter Tryd.func12, Tryd.ntmps12
  go_wp2_with (first | (go_at_call 14; refine (does_any _).mono ?_; rintro e w' ⟨rfl, rfl⟩) | (go_at_call 11; refine (traps_no _ _ (by omega) (by omega) (by omega)).mono ?_; rintro e w' ⟨rfl, rfl⟩) | (go_at_call 23; refine (op25 _ _ _).mono ?_; rintro e w' ⟨rfl, rfl⟩))
  go_ret2
  exact ⟨rfl, rfl⟩
theorem do10 (a b : BitVec 64) (w : World)  : Calls Tryd.prog 12 #[.int .u8 10, I a, I b] w fun e w' => e = .returned (.tuple #[I (a.sshiftRight (b &&& 63#64).toNat), .int .i64 0]) ∧ w.alloc (mp 12) = w' := by
  have hl : (Instr.lookup 38 (.map (some w.heap.size)) (.int .u8 10) false).run Tryd.prog (w.alloc (mp 12)) = .ok (.func (.func 24) #[] #[]) (w.alloc (mp 12)) := look_mp w 10 (by decide) (by decide)
  go_enter Tryd.func12, Tryd.ntmps12
  go_wp2_with (first | (go_at_call 14; refine (does_any _).mono ?_; rintro e w' ⟨rfl, rfl⟩) | (go_at_call 11; refine (traps_no _ _ (by omega) (by omega) (by omega)).mono ?_; rintro e w' ⟨rfl, rfl⟩) | (go_at_call 24; refine (op26 _ _ _).mono ?_; rintro e w' ⟨rfl, rfl⟩))
  go_ret2
  exact ⟨rfl, rfl⟩
theorem do11 (a b : BitVec 64) (w : World)  : Calls Tryd.prog 12 #[.int .u8 11, I a, I b] w fun e w' => e = .returned (.tuple #[I (tr (a == b)), .int .i64 0]) ∧ w.alloc (mp 12) = w' := by
  have hl : (Instr.lookup 38 (.map (some w.heap.size)) (.int .u8 11) false).run Tryd.prog (w.alloc (mp 12)) = .ok (.func (.func 25) #[] #[]) (w.alloc (mp 12)) := look_mp w 11 (by decide) (by decide)
  go_enter Tryd.func12, Tryd.ntmps12
  go_wp2_with (first | (go_at_call 14; refine (does_any _).mono ?_; rintro e w' ⟨rfl, rfl⟩) | (go_at_call 11; refine (traps_no _ _ (by omega) (by omega) (by omega)).mono ?_; rintro e w' ⟨rfl, rfl⟩) | (go_at_call 25; refine (op27 _ _ _).mono ?_; rintro e w' ⟨rfl, rfl⟩))
  go_ret2
  exact ⟨rfl, rfl⟩
theorem do12 (a b : BitVec 64) (w : World)  : Calls Tryd.prog 12 #[.int .u8 12, I a, I b] w fun e w' => e = .returned (.tuple #[I (tr (a.slt b)), .int .i64 0]) ∧ w.alloc (mp 12) = w' := by
  have hl : (Instr.lookup 38 (.map (some w.heap.size)) (.int .u8 12) false).run Tryd.prog (w.alloc (mp 12)) = .ok (.func (.func 27) #[] #[]) (w.alloc (mp 12)) := look_mp w 12 (by decide) (by decide)
  go_enter Tryd.func12, Tryd.ntmps12
  go_wp2_with (first | (go_at_call 14; refine (does_any _).mono ?_; rintro e w' ⟨rfl, rfl⟩) | (go_at_call 11; refine (traps_no _ _ (by omega) (by omega) (by omega)).mono ?_; rintro e w' ⟨rfl, rfl⟩) | (go_at_call 27; refine (op29 _ _ _).mono ?_; rintro e w' ⟨rfl, rfl⟩))
  go_ret2
  exact ⟨rfl, rfl⟩
theorem do4z (a : BitVec 64) (w : World) : Calls Tryd.prog 12 #[.int .u8 4, I a, I 0#64] w fun e w' => e = .returned (.tuple #[I 0#64, .int .i64 20]) ∧ w.alloc (mp 12) = w' := by
  have hl : (Instr.lookup 38 (.map (some w.heap.size)) (.int .u8 4) false).run Tryd.prog (w.alloc (mp 12)) = .ok (.func (.func 18) #[] #[]) (w.alloc (mp 12)) := look_mp w 4 (by decide) (by decide)
  go_enter Tryd.func12, Tryd.ntmps12
  go_wp2_with (first | (go_at_call 14; refine (does_any _).mono ?_; rintro e w' ⟨rfl, rfl⟩) | (go_at_call 11; refine (traps_yes _ _ (by omega)).mono ?_; rintro e w' ⟨rfl, rfl⟩))
  go_ret2
  exact ⟨rfl, rfl⟩
theorem do5z (a : BitVec 64) (w : World) : Calls Tryd.prog 12 #[.int .u8 5, I a, I 0#64] w fun e w' => e = .returned (.tuple #[I 0#64, .int .i64 20]) ∧ w.alloc (mp 12) = w' := by
  have hl : (Instr.lookup 38 (.map (some w.heap.size)) (.int .u8 5) false).run Tryd.prog (w.alloc (mp 12)) = .ok (.func (.func 19) #[] #[]) (w.alloc (mp 12)) := look_mp w 5 (by decide) (by decide)
  go_enter Tryd.func12, Tryd.ntmps12
  go_wp2_with (first | (go_at_call 14; refine (does_any _).mono ?_; rintro e w' ⟨rfl, rfl⟩) | (go_at_call 11; refine (traps_yes _ _ (by omega)).mono ?_; rintro e w' ⟨rfl, rfl⟩))
  go_ret2
  exact ⟨rfl, rfl⟩
theorem look_no (op : Int) (h : op < 1 ∨ 12 < op) : look ops op = none := by
  simp only [look, Option.map_eq_none_iff, List.find?_eq_none]
  intro x hx
  have : 1 ≤ x.1 ∧ x.1 ≤ 12 := by
    simp only [ops, List.mem_cons, List.not_mem_nil, or_false] at hx
    rcases hx with rfl | rfl | rfl | rfl | rfl | rfl | rfl | rfl | rfl | rfl | rfl | rfl <;> exact ⟨by decide, by decide⟩
  simp; omega
theorem do_no (op : Int) (a b : BitVec 64) (w : World) (h0 : 0 ≤ op) (h1 : op < 256) (h : op < 1 ∨ 12 < op) : Calls Tryd.prog 12 #[.int .u8 op, I a, I b] w fun e w' => e = .returned (.tuple #[I 0#64, .int .i64 1]) ∧ w.alloc (mp 12) = w' := by
  have hl : (Instr.lookup 38 (.map (some w.heap.size)) (.int .u8 op) false).run Tryd.prog (w.alloc (mp 12)) = .ok .nilFunc (w.alloc (mp 12)) := by
    have := look_mp w op h0 h1
    rw [look_no op h] at this
    exact this
  go_enter Tryd.func12, Tryd.ntmps12
  go_wp2_with (first | (go_at_call 14; refine (does_any _).mono ?_; rintro e w' ⟨rfl, rfl⟩))
  go_ret2
  exact ⟨rfl, rfl⟩
/-- what arith.Do answers -/
def doA (op : Int) (a b : BitVec 64) : Value := .tuple #[I (doR op a b), .int .i64 (doE op b)]
theorem do_any (op : Int) (a b : BitVec 64) (w : World) (h0 : 0 ≤ op) (h1 : op < 256) : Calls Tryd.prog 12 #[.int .u8 op, I a, I b] w fun e w' => e = .returned (doA op a b) ∧ w.alloc (mp 12) = w' := by
  by_cases h : op < 1 ∨ 12 < op
  · have e1 : doE op b = 1 := if_pos h
    have e2 : doR op a b = 0#64 := by rw [doR, e1]; rfl
    rw [doA, e1, e2]
    exact do_no op a b w h0 h1 h
  · have : op = 1 ∨ op = 2 ∨ op = 3 ∨ op = 4 ∨ op = 5 ∨ op = 6 ∨ op = 7 ∨ op = 8 ∨ op = 9 ∨ op = 10 ∨ op = 11 ∨ op = 12 := by omega
    by_cases hb : b = 0#64
    · subst hb
      rcases this with rfl | rfl | rfl | rfl | rfl | rfl | rfl | rfl | rfl | rfl | rfl | rfl
      · exact do1 a _ w
      · exact do2 a _ w
      · exact do3 a _ w
      · exact do4z a w
      · exact do5z a w
      · exact do6 a _ w
      · exact do7 a _ w
      · exact do8 a _ w
      · exact do9 a _ w
      · exact do10 a _ w
      · exact do11 a _ w
      · exact do12 a _ w
    · have e1 : doE op b = 0 := by rw [doE, if_neg h, if_neg (fun e => hb e.2)]
      rw [doA, e1, doR, e1, if_pos rfl]
      rcases this with rfl | rfl | rfl | rfl | rfl | rfl | rfl | rfl | rfl | rfl | rfl | rfl
      · exact do1 a b w
      · exact do2 a b w
      · exact do3 a b w
      · exact do4 a b w hb
      · exact do5 a b w hb
      · exact do6 a b w
      · exact do7 a b w
      · exact do8 a b w
      · exact do9 a b w
      · exact do10 a b w
      · exact do11 a b w
      · exact do12 a b w
end Go.Proofs.YtbebgjodgebgkaaDoor
