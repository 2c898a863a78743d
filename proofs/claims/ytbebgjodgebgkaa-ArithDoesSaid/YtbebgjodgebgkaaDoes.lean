/- What the reference's Do of layer 4 answers, and the law ArithDoes walked over the two. No condition (operators are bytes). -/
import Derived.Test.YtbebgjodgebgkaaRef
namespace Go.Proofs.Ytbebgjodgebgkaa
open Go.RowKit
attribute [local go_sem] b_add b_sub b_mul b_quo b_rem b_and b_or b_xor b_eql b_neq b_lss b_gtr b_and63 b_shl b_shr eqg eqg0 eqgU eqgU0 eqgF eqgN b_neg b_eql0 b_lss0 b_neq0 u_mul u_add u_sub u_quo u_rem u_or u_and u_and1 u_mul2 u_sub0 u_rem64 u_shr u_shl1 b_quo2 b_rem2 b_sub1 b_add1 b_lss64 c_iu c_ui c_in c_u3

theorem shl_step (a : BitVec 64) (k : Nat) : a <<< k * 2#64 = a <<< (k + 1) := by
  rw [BitVec.shiftLeft_add, ← BitVec.mul_twoPow_eq_shiftLeft _ 1]; rfl
theorem td2 (n : Int) : (0 ≤ n → n.tdiv 2 = n / 2) ∧ (n < 0 → n.tdiv 2 = -((-n) / 2)) ∧ 2 * n.tdiv 2 + n.tmod 2 = n := by
  refine ⟨fun h => Int.tdiv_eq_ediv_of_nonneg h, fun h => ?_, Int.mul_tdiv_add_tmod n 2⟩
  have := Int.tdiv_eq_ediv_of_nonneg (a := -n) (b := 2) (by omega)
  rw [Int.neg_tdiv] at this
  omega
theorem shr_step (x : BitVec 64) : x.sshiftRight 1 = if x.slt 0#64 = true ∧ (x.srem 2#64 != 0#64) = true then x.sdiv 2#64 - 1#64 else x.sdiv 2#64 := by
  have lo := BitVec.le_toInt x
  have hi := BitVec.toInt_lt (x := x)
  obtain ⟨t1, t2, t3⟩ := td2 x.toInt
  have e2 : (2#64 : BitVec 64).toInt = 2 := by decide
  have e1 : (1#64 : BitVec 64).toInt = 1 := by decide
  have hq : (x.sdiv 2#64).toInt = x.toInt.tdiv 2 := by
    rw [BitVec.toInt_sdiv, e2]
    exact Int.bmod_eq_of_le (by omega) (by omega)
  have hn : ((x.srem 2#64 != 0#64) = true) ↔ x.toInt.tmod 2 ≠ 0 := by
    rw [bne_iff_ne, Ne, ← BitVec.toInt_inj, BitVec.toInt_srem, e2, BitVec.toInt_zero]
  apply BitVec.eq_of_toInt_eq
  rw [BitVec.toInt_sshiftRight, Int.shiftRight_eq_div_pow]
  simp only [BitVec.slt, BitVec.toInt_zero, decide_eq_true_eq]
  split
  · rename_i h
    rw [hn] at h
    rw [BitVec.toInt_sub, hq, e1, Int.bmod_eq_of_le (by omega) (by omega)]
    omega
  · rename_i h
    rw [hn] at h
    rw [hq]
    omega
theorem slt_nat (k n : Nat) (hk : k ≤ 64) (hn : n ≤ 64) : (BitVec.ofNat 64 k).slt (BitVec.ofNat 64 n) = decide (k < n) := by
  rw [BitVec.slt, toInt_small k hk, toInt_small n hn]; simp
theorem shl_any (a : BitVec 64) (n : Nat) (hn : n < 64) (w : World) : Calls Try.prog 16 #[I a, I (BitVec.ofNat 64 n), .bool true] w fun e w' => e = .returned (I (a <<< n)) ∧ w = w' := by
  go_enter Try.func16, Try.ntmps16
  go_wp2
  go_loop [0, 7] (fun o i => ∃ k : Nat, k ≤ n ∧ i = I (BitVec.ofNat 64 k) ∧ o = I (a <<< k)) (fun _ i => n - natOf i)
  case atStart => exact ⟨0, by omega, rfl, by simp⟩
  case round =>
    obtain ⟨k, hk, rfl, rfl⟩ := hrel
    by_cases hlt : k < n
    · have h64 : (BitVec.ofNat 64 k).slt (BitVec.ofNat 64 n) = true := by rw [slt_nat k n (by omega) (by omega)]; simp [hlt]
      go_wp2
      go_round
      case rel => exact ⟨k + 1, by omega, by rw [add1], by rw [shl_step]⟩
      case measure => rw [add1, natOf_I _ (by omega), natOf_I _ (by omega)]; omega
    · obtain rfl : k = n := by omega
      have h64 : (BitVec.ofNat 64 k).slt (BitVec.ofNat 64 k) = false := by rw [slt_nat k k (by omega) (by omega)]; simp
      go_wp2
      go_ret
      exact ⟨rfl, rfl⟩
theorem shr_any (a : BitVec 64) (n : Nat) (hn : n < 64) (w : World) : Calls Try.prog 16 #[I a, I (BitVec.ofNat 64 n), .bool false] w fun e w' => e = .returned (I (a.sshiftRight n)) ∧ w = w' := by
  go_enter Try.func16, Try.ntmps16
  go_wp2
  go_loop [0, 7] (fun o i => ∃ k : Nat, k ≤ n ∧ i = I (BitVec.ofNat 64 k) ∧ o = I (a.sshiftRight k)) (fun _ i => n - natOf i)
  case atStart => exact ⟨0, by omega, rfl, by simp⟩
  case round =>
    obtain ⟨k, hk, rfl, rfl⟩ := hrel
    by_cases hlt : k < n
    · have h64 : (BitVec.ofNat 64 k).slt (BitVec.ofNat 64 n) = true := by rw [slt_nat k n (by omega) (by omega)]; simp [hlt]
      have hs := shr_step (a.sshiftRight k)
      have hz : a.sshiftRight (k + 1) = (a.sshiftRight k).sshiftRight 1 := by rw [BitVec.sshiftRight_add]
      generalize a.sshiftRight k = x at *
      have Hs := Lib.hid hs
      have Hz := Lib.hid hz
      clear hs hz
      cases h1 : x.slt 0#64 <;> cases h2 : (x.srem 2#64 != 0#64)
      all_goals
        have H1 := Lib.hid h1
        have H2 := Lib.hid h2
        go_wp2
        go_round
        case rel => exact ⟨k + 1, by omega, by rw [add1], by rw [Hz.out, Hs.out, H1.out, H2.out]; rfl⟩
        case measure => rw [add1, natOf_I _ (by omega), natOf_I _ (by omega)]; omega
    · obtain rfl : k = n := by omega
      have h64 : (BitVec.ofNat 64 k).slt (BitVec.ofNat 64 k) = false := by rw [slt_nat k k (by omega) (by omega)]; simp
      go_wp2
      go_ret
      exact ⟨rfl, rfl⟩

theorem umod64 (b : BitVec 64) : b % 64#64 = BitVec.ofNat 64 (b &&& 63#64).toNat := by
  apply BitVec.eq_of_toNat_eq
  have h := (and63 b).2
  have e : (b &&& 63#64).toNat = b.toNat % 64 := by
    rw [BitVec.toNat_and]; exact Nat.and_two_pow_sub_one_eq_mod b.toNat 6
  rw [BitVec.toNat_umod, BitVec.toNat_ofNat, e]
  have := Nat.mod_lt b.toNat (show 0 < 64 by decide)
  rw [BitVec.toNat_ofNat, show (64 % 2 ^ 64 : Nat) = 64 from rfl]; omega
/-- what ref04.Do answers -/
def refA (op : Int) (a b : BitVec 64) : Value := .tuple #[I (doR op a b), .int .i64 (doE op b)]
theorem ref_no (op : Int) (a b : BitVec 64) (w : World) (h0 : 0 ≤ op) (h1 : op < 256) (h : op < 1 ∨ 12 < op) : Calls Try.prog 8 #[.int .u8 op, I a, I b] w fun e w' => e = .returned (.tuple #[I 0#64, .int .i64 1]) ∧ w = w' := by
  rcases h with h | h
  · have h' := h
    go_enter Try.func8, Try.ntmps8
    go_wp2
    go_ret2
    exact ⟨rfl, rfl⟩
  · have hn : ¬ op < 1 := by omega
    go_enter Try.func8, Try.ntmps8
    go_wp2
    go_ret2
    exact ⟨rfl, rfl⟩
theorem ref4z (a : BitVec 64) (w : World) : Calls Try.prog 8 #[.int .u8 4, I a, I 0#64] w fun e w' => e = .returned (.tuple #[I 0#64, .int .i64 20]) ∧ w = w' := by
  go_enter Try.func8, Try.ntmps8
  go_wp2
  go_ret2
  exact ⟨rfl, rfl⟩
theorem ref5z (a : BitVec 64) (w : World) : Calls Try.prog 8 #[.int .u8 5, I a, I 0#64] w fun e w' => e = .returned (.tuple #[I 0#64, .int .i64 20]) ∧ w = w' := by
  go_enter Try.func8, Try.ntmps8
  go_wp2
  go_ret2
  exact ⟨rfl, rfl⟩
theorem ref1 (a b : BitVec 64) (w : World)  : Calls Try.prog 8 #[.int .u8 1, I a, I b] w fun e w' => e = .returned (.tuple #[I (a + b), .int .i64 0]) ∧ w = w' := by
  go_enter Try.func8, Try.ntmps8
  go_wp2_with (fail)
  go_ret2
  exact ⟨rfl, rfl⟩
theorem ref2 (a b : BitVec 64) (w : World)  : Calls Try.prog 8 #[.int .u8 2, I a, I b] w fun e w' => e = .returned (.tuple #[I (a - b), .int .i64 0]) ∧ w = w' := by
  go_enter Try.func8, Try.ntmps8
  go_wp2_with (fail)
  go_ret2
  exact ⟨rfl, rfl⟩
theorem ref3 (a b : BitVec 64) (w : World)  : Calls Try.prog 8 #[.int .u8 3, I a, I b] w fun e w' => e = .returned (.tuple #[I (a * b), .int .i64 0]) ∧ w = w' := by
  go_enter Try.func8, Try.ntmps8
  go_wp2_with (fail)
  go_ret2
  exact ⟨rfl, rfl⟩
theorem ref4 (a b : BitVec 64) (w : World) (hb : b ≠ 0#64) : Calls Try.prog 8 #[.int .u8 4, I a, I b] w fun e w' => e = .returned (.tuple #[I (a.sdiv b), .int .i64 0]) ∧ w = w' := by
  have hb0 : (b == 0#64) = false := by simpa using hb
  go_enter Try.func8, Try.ntmps8
  go_wp2_with (go_at_call 13; refine (quot_any _ _ hb _).mono ?_; rintro e w' ⟨rfl, rfl⟩)
  go_ret2
  exact ⟨rfl, rfl⟩
theorem ref5 (a b : BitVec 64) (w : World) (hb : b ≠ 0#64) : Calls Try.prog 8 #[.int .u8 5, I a, I b] w fun e w' => e = .returned (.tuple #[I (a.srem b), .int .i64 0]) ∧ w = w' := by
  have hb0 : (b == 0#64) = false := by simpa using hb
  go_enter Try.func8, Try.ntmps8
  go_wp2_with (go_at_call 14; refine (rest_any _ _ hb _).mono ?_; rintro e w' ⟨rfl, rfl⟩)
  go_ret2
  exact ⟨rfl, rfl⟩
theorem ref6 (a b : BitVec 64) (w : World)  : Calls Try.prog 8 #[.int .u8 6, I a, I b] w fun e w' => e = .returned (.tuple #[I (a &&& b), .int .i64 0]) ∧ w = w' := by
  go_enter Try.func8, Try.ntmps8
  go_wp2_with (go_at_call 15; refine (and_bits _ _ _).mono ?_; rintro e w' ⟨rfl, rfl⟩)
  go_ret2
  exact ⟨rfl, rfl⟩
theorem ref7 (a b : BitVec 64) (w : World)  : Calls Try.prog 8 #[.int .u8 7, I a, I b] w fun e w' => e = .returned (.tuple #[I (a ||| b), .int .i64 0]) ∧ w = w' := by
  go_enter Try.func8, Try.ntmps8
  go_wp2_with (go_at_call 15; refine (or_bits _ _ _).mono ?_; rintro e w' ⟨rfl, rfl⟩)
  go_ret2
  exact ⟨rfl, rfl⟩
theorem ref8 (a b : BitVec 64) (w : World)  : Calls Try.prog 8 #[.int .u8 8, I a, I b] w fun e w' => e = .returned (.tuple #[I (a ^^^ b), .int .i64 0]) ∧ w = w' := by
  go_enter Try.func8, Try.ntmps8
  go_wp2_with (go_at_call 15; refine (xor_bits _ _ _).mono ?_; rintro e w' ⟨rfl, rfl⟩)
  go_ret2
  exact ⟨rfl, rfl⟩
theorem ref9 (a b : BitVec 64) (w : World)  : Calls Try.prog 8 #[.int .u8 9, I a, I b] w fun e w' => e = .returned (.tuple #[I (a <<< (b &&& 63#64).toNat), .int .i64 0]) ∧ w = w' := by
  obtain ⟨n, hn, hm, hv⟩ : ∃ n, n < 64 ∧ b % 64#64 = BitVec.ofNat 64 n ∧ (b &&& 63#64).toNat = n := ⟨_, (and63 b).2, umod64 b, rfl⟩
  rw [hv]
  clear hv
  go_enter Try.func8, Try.ntmps8
  go_wp2_with (go_at_call 16; refine (shl_any _ _ hn _).mono ?_; rintro e w' ⟨rfl, rfl⟩)
  go_ret2
  exact ⟨rfl, rfl⟩
theorem ref10 (a b : BitVec 64) (w : World)  : Calls Try.prog 8 #[.int .u8 10, I a, I b] w fun e w' => e = .returned (.tuple #[I (a.sshiftRight (b &&& 63#64).toNat), .int .i64 0]) ∧ w = w' := by
  obtain ⟨n, hn, hm, hv⟩ : ∃ n, n < 64 ∧ b % 64#64 = BitVec.ofNat 64 n ∧ (b &&& 63#64).toNat = n := ⟨_, (and63 b).2, umod64 b, rfl⟩
  rw [hv]
  clear hv
  go_enter Try.func8, Try.ntmps8
  go_wp2_with (go_at_call 16; refine (shr_any _ _ hn _).mono ?_; rintro e w' ⟨rfl, rfl⟩)
  go_ret2
  exact ⟨rfl, rfl⟩

theorem ref11 (a b : BitVec 64) (w : World) : Calls Try.prog 8 #[.int .u8 11, I a, I b] w fun e w' => e = .returned (.tuple #[I (tr (a == b)), .int .i64 0]) ∧ w = w' := by
  cases h : (a == b)
  all_goals
    go_enter Try.func8, Try.ntmps8
    go_wp2
    go_ret2
    exact ⟨rfl, rfl⟩
theorem ref12 (a b : BitVec 64) (w : World) : Calls Try.prog 8 #[.int .u8 12, I a, I b] w fun e w' => e = .returned (.tuple #[I (tr (a.slt b)), .int .i64 0]) ∧ w = w' := by
  cases h : a.slt b
  all_goals
    go_enter Try.func8, Try.ntmps8
    go_wp2
    go_ret2
    exact ⟨rfl, rfl⟩
theorem ref_any (op : Int) (a b : BitVec 64) (w : World) (h0 : 0 ≤ op) (h1 : op < 256) : Calls Try.prog 8 #[.int .u8 op, I a, I b] w fun e w' => e = .returned (.tuple #[I (doR op a b), .int .i64 (doE op b)]) ∧ w = w' := by
  by_cases h : op < 1 ∨ 12 < op
  · have e1 : doE op b = 1 := if_pos h
    have e2 : doR op a b = 0#64 := by rw [doR, e1]; rfl
    rw [e1, e2]
    exact ref_no op a b w h0 h1 h
  · have : op = 1 ∨ op = 2 ∨ op = 3 ∨ op = 4 ∨ op = 5 ∨ op = 6 ∨ op = 7 ∨ op = 8 ∨ op = 9 ∨ op = 10 ∨ op = 11 ∨ op = 12 := by omega
    by_cases hb : b = 0#64
    · subst hb
      rcases this with rfl | rfl | rfl | rfl | rfl | rfl | rfl | rfl | rfl | rfl | rfl | rfl
      · exact ref1 a _ w
      · exact ref2 a _ w
      · exact ref3 a _ w
      · exact ref4z a w
      · exact ref5z a w
      · exact ref6 a _ w
      · exact ref7 a _ w
      · exact ref8 a _ w
      · exact ref9 a _ w
      · exact ref10 a _ w
      · exact ref11 a _ w
      · exact ref12 a _ w
    · have e1 : doE op b = 0 := by rw [doE, if_neg h, if_neg (fun e => hb e.2)]
      rw [e1, doR, e1, if_pos rfl]
      rcases this with rfl | rfl | rfl | rfl | rfl | rfl | rfl | rfl | rfl | rfl | rfl | rfl
      · exact ref1 a b w
      · exact ref2 a b w
      · exact ref3 a b w
      · exact ref4 a b w hb
      · exact ref5 a b w hb
      · exact ref6 a b w
      · exact ref7 a b w
      · exact ref8 a b w
      · exact ref9 a b w
      · exact ref10 a b w
      · exact ref11 a b w
      · exact ref12 a b w
theorem c_e3 (n : Int) (w : World) (h0 : 0 ≤ n) (h1 : n < 256) : (convert 22 3 (.int .i64 n)).run Try.prog w = .ok (.int .i64 n) w := by
  have e : IntKind.i64.wrap n = n := by rw [wrap_i64_bmod]; exact Int.bmod_eq_of_le (by omega) (by omega)
  unfold convert
  simp [run_underlying Try.underlying3, run_underlying Try.underlying22, Conv.intToInt, e]
theorem does (op : Int) (a b : BitVec 64) (w : World) (h0 : 0 ≤ op) (h1 : op < 256) : Calls Try.prog 3 #[.int .u8 op, I a, I b] w fun e w' => e = .returned (.bool true) ∧ Grown w w' := by
  have hr : (doR op a b == doR op a b) = true := by simp
  have h2 : 0 ≤ doE op b ∧ doE op b < 256 := by unfold doE; split <;> (try split) <;> omega
  have hD := do_any op a b w h0 h1
  have hR := fun w => ref_any op a b w h0 h1
  unfold doA at hD
  generalize doR op a b = r at *
  generalize doE op b = q at *
  have hc := fun w => c_e3 q w h2.1 h2.2
  have hq : (q == q) = true := by simp
  have HD := Lib.hid hD
  have HR := Lib.hid hR
  clear hD hR h2
  go_enter Try.func3, Try.ntmps3
  go_wp2_with (first | (go_at_call 7; refine HD.out.mono ?_; rintro e w' ⟨rfl, rfl⟩) | (go_at_call 8; refine (HR.out _).mono ?_; rintro e w' ⟨rfl, rfl⟩) | (go_at_call 9; refine (aw _).mono ?_; rintro e w' ⟨rfl, hg⟩))
  go_ret
  exact ⟨rfl, grown_trans (grown_mp (Grown.refl _)) hg⟩
end Go.Proofs.Ytbebgjodgebgkaa
