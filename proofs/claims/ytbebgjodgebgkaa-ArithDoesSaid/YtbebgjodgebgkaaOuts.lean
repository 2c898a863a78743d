/- The laws ArithParts, ArithRings, ArithBits walked over their contracts. No condition. -/
import Derived.Test.YtbebgjodgebgkaaWalk
import Derived.Outline
import Derived.Test.YtbebgjodgebgkaaPlain
import Derived.Carry
import Derived.Lib.Hide
namespace Go.Proofs.Ytbebgjodgebgkaa
open Go.RowKit
attribute [local go_sem] b_add b_sub b_mul b_quo b_rem b_and b_or b_xor b_eql b_neq b_lss b_gtr b_and63 b_shl b_shr eqg eqg0 eqgU eqgU0 eqgF eqgN nil_eq1 nil_eq2 b_eql0

section
variable {P : Program} {w : World} (t : TypeId) (x : BitVec 64)
theorem b_neg : (Op.unary .neg (I x)).run P w = .ok (I (-x)) w := by
  simp [Op.unary, Op.intArith, I, wrap_i64_bmod, BitVec.toInt_neg]
theorem b_lss0 : (binOp .lss t (I x) (.int .i64 0)).run P w = .ok (.bool (x.slt 0#64)) w := by rw [I_lit0]; exact b_lss t x 0
theorem b_neq0 : (binOp .neq t (I x) (.int .i64 0)).run P w = .ok (.bool (x != 0#64)) w := by rw [I_lit0]; exact b_neq t x 0
theorem b_eqlMin : (binOp .eql t (I x) (.int .i64 (-9223372036854775808))).run P w = .ok (.bool (x == BitVec.intMin 64)) w := b_eql t x (BitVec.intMin 64)
end
attribute [local go_sem] b_neg b_lss0 b_neq0 b_eqlMin
theorem d_any (op : Int) (a b : BitVec 64) (w : World) (h0 : 0 ≤ op) (h1 : op < 256) : Calls Try.prog 10 #[.int .u8 op, I a, I b] w fun e w' => e = .returned (I (doR op a b)) ∧ w.alloc (mp 12) = w' := by
  go_enter Try.func10, Try.ntmps10
  go_wp2_with (go_at_call 7; refine (do_any _ _ _ _ h0 h1).mono ?_; rintro e w' ⟨rfl, rfl⟩; unfold doA)
  go_ret
  exact ⟨rfl, rfl⟩

theorem grown_trans {a b c : World} (h : Grown a b) (k : Grown b c) : Grown a c :=
  ⟨World.keptBut_trans h.1 k.1, fun x => (k.2.1 x).trans (h.2.1 x), Nat.le_trans h.2.2 k.2.2⟩
theorem grown_mp {a b : World} (h : Grown a b) : Grown a (b.alloc (mp 12)) := h.allocMap _ _
theorem aw (w : World) : Calls Try.prog 9 #[] w fun e w' => e = .returned (.bool true) ∧ Grown w w' := by
  have h1 : Calls Try.prog 7 #[.int .u8 4, .int .i64 (-7), .int .i64 2] w fun e w' => e = .returned (.tuple #[.int .i64 (-3), .int .i64 0]) ∧ w.alloc (mp 12) = w' :=
    do4 (-7#64) 2#64 w (by decide)
  have h2 : Calls Try.prog 7 #[.int .u8 5, .int .i64 (-7), .int .i64 2] (w.alloc (mp 12)) fun e w' => e = .returned (.tuple #[.int .i64 (-1), .int .i64 0]) ∧ (w.alloc (mp 12)).alloc (mp 12) = w' :=
    do5 (-7#64) 2#64 _ (by decide)
  go_enter Try.func9, Try.ntmps9
  go_wp2_with fail
  refine h1.mono ?_
  rintro e w' ⟨rfl, rfl⟩
  clear h1
  go_wp2_with fail
  refine h2.mono ?_
  rintro e w' ⟨rfl, rfl⟩
  clear h2
  go_wp2_with fail
  go_ret
  exact ⟨rfl, by repeat (first | exact Grown.refl _ | apply Grown.drew | apply grown_mp)⟩

theorem rings (a b c : BitVec 64) (w : World) : Calls Try.prog 5 #[I a, I b, I c] w fun e w' => e = .returned (.bool true) ∧ Grown w w' := by
  have h1 : (doR 1 a b != doR 1 b a) = false := by simp [doR, doV, doE, BitVec.add_comm]
  have h2 : (doR 3 a b != doR 3 b a) = false := by simp [doR, doV, doE, BitVec.mul_comm]
  have h3 : (doR 1 (doR 2 a b) b != a) = false := by simp [doR, doV, doE, BitVec.sub_add_cancel]
  have h4 : (doR 3 a (doR 1 b c) == doR 1 (doR 3 a b) (doR 3 a c)) = true := by simp [doR, doV, doE, BitVec.mul_add]
  go_enter Try.func5, Try.ntmps5
  go_wp2_with (first | (go_at_call 10; refine (d_any _ _ _ _ (by decide) (by decide)).mono ?_; rintro e w' ⟨rfl, rfl⟩) | (go_at_call 9; refine (aw _).mono ?_; rintro e w' ⟨rfl, hg⟩))
  go_ret
  refine ⟨rfl, grown_trans ?_ hg⟩
  repeat (first | exact Grown.refl _ | apply Grown.drew | apply grown_mp)
theorem I_of {a : Int} (h : (Lit.int .i64 a).wf = true) : Value.int .i64 a = I (BitVec.ofInt 64 a) := by
  rw [I, BitVec.toInt_ofInt]
  simp only [Lit.wf, IntKind.min, IntKind.max, IntKind.signed, IntKind.bits, Bool.and_eq_true, decide_eq_true_eq, if_true] at h
  rw [Int.bmod_eq_of_le (by omega) (by omega)]
theorem d9one (c : BitVec 64) (w : World) : Calls Try.prog 10 #[.int .u8 9, .int .i64 1, I c] w fun e w' => e = .returned (I (doR 9 1#64 c)) ∧ w.alloc (mp 12) = w' :=
  d_any 9 1#64 c w (by decide) (by decide)
theorem and63_again (b : BitVec 64) : (b &&& 63#64) &&& 63#64 = b &&& 63#64 := by
  rw [BitVec.and_assoc]; rfl
theorem bits (a b : BitVec 64) (w : World) : Calls Try.prog 6 #[I a, I b] w fun e w' => e = .returned (.bool true) ∧ Grown w w' := by
  have h1 : (doR 7 a b != doR 8 (doR 6 a b) (doR 8 a b)) = false := by
    rw [bne_eq_false_iff_eq]; simp [doR, doV, doE]; exact or_xor a b
  have h2 : (doR 6 (doR 6 a b) a != doR 6 a b) = false := by
    rw [bne_eq_false_iff_eq]; exact and_and a b
  have h3 : (doR 9 a b == doR 3 a (doR 9 1#64 (b &&& 63#64))) = true := by
    rw [beq_iff_eq]; show a <<< (b &&& 63#64).toNat = a * (1#64 <<< (b &&& 63#64 &&& 63#64).toNat); rw [and63_again]; exact shl_mul a _
  have h4 : (doR 10 a b == doR 10 a (b &&& 63#64)) = true := by
    rw [beq_iff_eq]; show a.sshiftRight (b &&& 63#64).toNat = a.sshiftRight (b &&& 63#64 &&& 63#64).toNat; rw [and63_again]
  go_enter Try.func6, Try.ntmps6
  go_wp2_with (first | (go_at_call 10; ((with_reducible refine (d9one _ _).mono ?_); rintro e w' ⟨rfl, rfl⟩)) | (go_at_call 10; refine (d_any _ _ _ _ (by decide) (by decide)).mono ?_; rintro e w' ⟨rfl, rfl⟩) | (go_at_call 9; refine (aw _).mono ?_; rintro e w' ⟨rfl, hg⟩))
  go_ret
  refine ⟨rfl, grown_trans ?_ hg⟩
  repeat (first | exact Grown.refl _ | apply Grown.drew | apply grown_mp)

theorem parts0 (a : BitVec 64) (w : World) : Calls Try.prog 4 #[I a, I 0#64] w fun e w' => e = .returned (.bool true) ∧ Grown w w' := by
  go_enter Try.func4, Try.ntmps4
  go_wp2_with (first | (go_at_call 7; refine (do5z _ _).mono ?_; rintro e w' ⟨rfl, rfl⟩) | (go_at_call 9; refine (aw _).mono ?_; rintro e w' ⟨rfl, hg⟩))
  go_ret
  refine ⟨rfl, grown_trans ?_ hg⟩
  repeat (first | exact Grown.refl _ | apply Grown.drew | apply grown_mp)

theorem parts1 (a b : BitVec 64) (w : World) (hb : (b == 0#64) = false) : Calls Try.prog 4 #[I a, I b] w fun e w' => e = .returned (.bool true) ∧ Grown w w' := by
  have hb' : b ≠ 0#64 := by simpa using hb
  have hr : doR 5 a b = a.srem b := by simp [doR, doV, doE, hb']
  have hq : doR 4 a b = a.sdiv b := by simp [doR, doV, doE, hb']
  have h1 : (doR 1 (doR 3 (doR 4 a b) b) (doR 5 a b) != a) = false := by
    rw [bne_eq_false_iff_eq, hr, hq]; exact div_mod a b
  rw [hr] at h1
  have hm : b = BitVec.intMin 64 ∨ b ≠ BitVec.intMin 64 := Classical.em _
  have h5 : ∀ w, Calls Try.prog 10 #[.int .u8 5, I a, I b] w fun e w' => e = .returned (I (a.srem b)) ∧ w.alloc (mp 12) = w' := fun w => by
    have := d_any 5 a b w (by decide) (by decide); rw [hr] at this; exact this
  have hs : (a.srem b != 0#64) = false ∨ ((a.srem b != 0#64) = true ∧ ((a.srem b).slt 0#64 == a.slt 0#64) = true) := by
    by_cases h : a.srem b = 0#64
    · left; simp [h]
    · right; exact ⟨by simp [h], by rw [rem_sign a b h]; simp⟩
  have hc : (b == BitVec.intMin 64) = true ∨ ((b == BitVec.intMin 64) = false ∧ (((a.srem b).slt b = true ∧ b.slt (a.srem b) = false ∧ (-b).slt (a.srem b) = true) ∨ ((a.srem b).slt b = false ∧ b.slt (a.srem b) = true ∧ (a.srem b).slt (-b) = true))) := by
    rcases hm with h | h
    · left; simp [h]
    · right
      refine ⟨by simpa using h, ?_⟩
      by_cases h0 : (0#64).slt b = true
      · exact .inl (rem_pos a b h0)
      · refine .inr (rem_neg a b ?_ h)
        have : b.toInt ≠ 0 := fun e => hb' (BitVec.eq_of_toInt_eq (by simpa using e))
        simp only [BitVec.slt, BitVec.toInt_zero, decide_eq_true_eq] at *
        omega
  clear hr hq hb' hm
  have H5 := Lib.hid h5
  clear h5
  rcases hs with hs | ⟨hs, hs'⟩
  all_goals rcases hc with hc | ⟨hc, ⟨hc1, hc2, hc3⟩ | ⟨hc1, hc2, hc3⟩⟩
  all_goals
    go_enter Try.func4, Try.ntmps4
    go_wp2_with (first | (go_at_call 10; ((with_reducible refine (H5.out _).mono ?_); rintro e w' ⟨rfl, rfl⟩)) | (go_at_call 10; refine (d_any _ _ _ _ (by decide) (by decide)).mono ?_; rintro e w' ⟨rfl, rfl⟩) | (go_at_call 9; refine (aw _).mono ?_; rintro e w' ⟨rfl, hg⟩))
    go_ret
    refine ⟨rfl, grown_trans ?_ hg⟩
    repeat (first | exact Grown.refl _ | apply Grown.drew | apply grown_mp)
end Go.Proofs.Ytbebgjodgebgkaa
