/- What interdictlaw04.do and awake answer. No condition. -/
import Derived.Test.YtbebgjodgebgkaaDoorWalk
import Derived.Outline
import Derived.Carry
import Derived.Lib.Hide
namespace Go.Proofs.YtbebgjodgebgkaaDoor
open Go.RowKit
attribute [local go_sem] b_add b_sub b_mul b_quo b_rem b_and b_or b_xor b_eql b_neq b_lss b_gtr b_and63 b_shl b_shr eqg eqg0 eqgU eqgU0 eqgF eqgN nil_eq1 nil_eq2 b_eql0

section
variable {P : Program} {w : World} (t : TypeId) (x : BitVec 64)
theorem b_neg : (Op.unary .neg (I x)).run P w = .ok (I (-x)) w := by
  simp [Op.unary, Op.intArith, I, wrap_i64_bmod, BitVec.toInt_neg]
theorem b_lss0 : (binOp .lss t (I x) (.int .i64 0)).run P w = .ok (.bool (x.slt 0#64)) w := by rw [I_lit0]; exact b_lss t x 0
theorem b_neq0 : (binOp .neq t (I x) (.int .i64 0)).run P w = .ok (.bool (x != 0#64)) w := by rw [I_lit0]; exact b_neq t x 0
theorem b_eqlMin : (binOp .eql t (I x) (.int .i64 (-9223372036854775808))).run P w = .ok (.bool (x == BitVec.intMin 64)) w := b_eql t x (BitVec.intMin 64)
end
attribute [local go_sem] b_neg b_lss0 b_neq0 b_eqlMin
theorem d_any (op : Int) (a b : BitVec 64) (w : World) (h0 : 0 ≤ op) (h1 : op < 256) : Calls Tryd.prog 5 #[.int .u8 op, I a, I b] w fun e w' => e = .returned (I (doR op a b)) ∧ w.alloc (mp 12) = w' := by
  go_enter Tryd.func5, Tryd.ntmps5
  go_wp2_with (go_at_call 12; refine (do_any _ _ _ _ h0 h1).mono ?_; rintro e w' ⟨rfl, rfl⟩; unfold doA)
  go_ret
  exact ⟨rfl, rfl⟩

theorem grown_trans {a b c : World} (h : Grown a b) (k : Grown b c) : Grown a c :=
  ⟨World.keptBut_trans h.1 k.1, fun x => (k.2.1 x).trans (h.2.1 x), Nat.le_trans h.2.2 k.2.2⟩
theorem grown_mp {a b : World} (h : Grown a b) : Grown a (b.alloc (mp 12)) := h.allocMap _ _
theorem aw (w : World) : Calls Tryd.prog 8 #[] w fun e w' => e = .returned (.bool true) ∧ Grown w w' := by
  have h1 : Calls Tryd.prog 12 #[.int .u8 4, .int .i64 (-7), .int .i64 2] w fun e w' => e = .returned (.tuple #[.int .i64 (-3), .int .i64 0]) ∧ w.alloc (mp 12) = w' :=
    do4 (-7#64) 2#64 w (by decide)
  have h2 : Calls Tryd.prog 12 #[.int .u8 5, .int .i64 (-7), .int .i64 2] (w.alloc (mp 12)) fun e w' => e = .returned (.tuple #[.int .i64 (-1), .int .i64 0]) ∧ (w.alloc (mp 12)).alloc (mp 12) = w' :=
    do5 (-7#64) 2#64 _ (by decide)
  go_enter Tryd.func8, Tryd.ntmps8
  go_wp2_with fail
  refine h1.mono ?_
  rintro e w' ⟨rfl, rfl⟩
  clear h1
  go_wp2_with fail
  refine h2.mono ?_
  rintro e w' ⟨rfl, rfl⟩
  clear h2
  go_wp2_with fail
  go_ret
  exact ⟨rfl, by repeat (first | exact Grown.refl _ | apply Grown.drew | apply grown_mp)⟩

theorem I_of {a : Int} (h : (Lit.int .i64 a).wf = true) : Value.int .i64 a = I (BitVec.ofInt 64 a) := by
  rw [I, BitVec.toInt_ofInt]
  simp only [Lit.wf, IntKind.min, IntKind.max, IntKind.signed, IntKind.bits, Bool.and_eq_true, decide_eq_true_eq, if_true] at h
  rw [Int.bmod_eq_of_le (by omega) (by omega)]
end Go.Proofs.YtbebgjodgebgkaaDoor
