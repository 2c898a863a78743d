/- What the reference's inner functions of layer 4 answer: size, bit, quotient, rest, bits, shifted. No condition but that bits are below 64. -/
import Derived.Test.YtbebgjodgebgkaaOuts
namespace Go.Proofs.Ytbebgjodgebgkaa
open Go.RowKit

section
variable {P : Program} {w : World} (t s : TypeId) (x y : BitVec 64)
theorem wrap_u64_mod (n : Int) : IntKind.u64.wrap n = n % 18446744073709551616 := IntKind.wrap_u64 n
theorem u_of_nat (n : Nat) : Value.int .u64 (IntKind.u64.wrap (n : Int)) = U (BitVec.ofNat 64 n) := by
  rw [wrap_u64_mod, U, BitVec.toNat_ofNat]; simp
theorem u_of_int (n : Int) : Value.int .u64 (IntKind.u64.wrap n) = U (BitVec.ofInt 64 n) := by
  rw [wrap_u64_mod, U, BitVec.toNat_ofInt]; simp; omega
theorem u_mul : (binOp .mul t (U x) (U y)).run P w = .ok (U (x * y)) w := by
  show Result.ok (Value.int .u64 (IntKind.u64.wrap ((x.toNat : Int) * (y.toNat : Int)))) w = _
  rw [show ((x.toNat : Int) * (y.toNat : Int)) = ((x.toNat * y.toNat : Nat) : Int) by simp, u_of_nat]
  congr 2
theorem u_add : (binOp .add t (U x) (U y)).run P w = .ok (U (x + y)) w := by
  show Result.ok (Value.int .u64 (IntKind.u64.wrap ((x.toNat : Int) + (y.toNat : Int)))) w = _
  rw [show ((x.toNat : Int) + (y.toNat : Int)) = ((x.toNat + y.toNat : Nat) : Int) by simp, u_of_nat]
  congr 2
theorem u_sub : (binOp .sub t (U x) (U y)).run P w = .ok (U (x - y)) w := by
  show Result.ok (Value.int .u64 (IntKind.u64.wrap ((x.toNat : Int) - (y.toNat : Int)))) w = _
  rw [u_of_int]
  congr 2
  apply BitVec.eq_of_toNat_eq
  have := x.isLt
  have := y.isLt
  rw [BitVec.toNat_ofInt, BitVec.toNat_sub]
  omega
theorem u_quo (h : y ≠ 0#64) : (binOp .quo t (U x) (U y)).run P w = .ok (U (x / y)) w := by
  have h0 : y.toNat ≠ 0 := fun e => h (BitVec.eq_of_toNat_eq (by simpa using e))
  have h1 : x.toNat / y.toNat < 18446744073709551616 := Nat.lt_of_le_of_lt (Nat.div_le_self _ _) x.isLt
  simp only [binOp, U, Op.intDiv, ne_eq, not_true, if_false, Int.natCast_eq_zero, h0, wrap_u64_mod, BitVec.toNat_udiv]
  rw [Int.tdiv_eq_ediv_of_nonneg (by omega), ← Int.natCast_ediv, Int.emod_eq_of_lt (Int.natCast_nonneg _) (by have := Int.ofNat_lt.2 h1; simpa using this)]
  simp
theorem u_rem (h : y ≠ 0#64) : (binOp .rem t (U x) (U y)).run P w = .ok (U (x % y)) w := by
  have h0 : y.toNat ≠ 0 := fun e => h (BitVec.eq_of_toNat_eq (by simpa using e))
  simp only [binOp, U, Op.intDiv, ne_eq, not_true, if_false, Int.natCast_eq_zero, h0, BitVec.toNat_umod]
  rw [Int.tmod_eq_emod_of_nonneg (by omega), ← Int.natCast_emod]
  simp
theorem u_or : (binOp .or t (U x) (U y)).run P w = .ok (U (x ||| y)) w := by
  show Result.ok (Value.int .u64 (IntKind.u64.wrap ((BitVec.ofInt 64 (x.toNat : Int) ||| BitVec.ofInt 64 (y.toNat : Int)).toNat : Int))) w = _
  rw [BitVec.ofInt_natCast, BitVec.ofInt_natCast, BitVec.ofNat_toNat, BitVec.ofNat_toNat, u_of_nat]; simp
theorem u_and : (binOp .and t (U x) (U y)).run P w = .ok (U (x &&& y)) w := by
  show Result.ok (Value.int .u64 (IntKind.u64.wrap ((BitVec.ofInt 64 (x.toNat : Int) &&& BitVec.ofInt 64 (y.toNat : Int)).toNat : Int))) w = _
  rw [BitVec.ofInt_natCast, BitVec.ofInt_natCast, BitVec.ofNat_toNat, BitVec.ofNat_toNat, u_of_nat]; simp
theorem u_and1 : (binOp .and t (U x) (.int .u64 1)).run P w = .ok (U (x &&& 1#64)) w := u_and t x 1#64
theorem u_mul2 : (binOp .mul t (U x) (.int .u64 2)).run P w = .ok (U (x * 2#64)) w := u_mul t x 2#64
theorem u_sub0 : (binOp .sub t (.int .u64 0) (U x)).run P w = .ok (U (-x)) w := by
  have := u_sub (P := P) (w := w) t 0#64 x
  rw [BitVec.zero_sub] at this; exact this
theorem u_rem64 : (binOp .rem t (U x) (.int .u64 64)).run P w = .ok (U (x % 64#64)) w := u_rem t x 64#64 (by decide)
theorem u_shr (k : Nat) (hk : k < 64) : (binOp .shr t (U x) (U (BitVec.ofNat 64 k))).run P w = .ok (U (x >>> k)) w := by
  have h1 : (BitVec.ofNat 64 k).toNat = k := by simp; omega
  have h3 : ¬ (k : Int) < 0 := by omega
  simp only [binOp, U, Op.shift, h1, h3, if_false, Int.toNat_natCast, IntKind.bits, Nat.min_eq_left (Nat.le_of_lt hk)]
  rw [Int.fdiv_eq_ediv_of_nonneg _ (by exact_mod_cast Nat.zero_le _)]
  simp [Nat.shiftRight_eq_div_pow]
theorem u_shl1 (k : Nat) (hk : k < 64) : (binOp .shl t (.int .u64 1) (U (BitVec.ofNat 64 k))).run P w = .ok (U (1#64 <<< k)) w := by
  have h1 : (BitVec.ofNat 64 k).toNat = k := by simp; omega
  have h3 : ¬ (k : Int) < 0 := by omega
  simp only [binOp, U, Op.shift, h1, h3, if_false, Int.toNat_natCast, IntKind.bits, Nat.min_eq_left (Nat.le_of_lt hk), wrap_u64_mod]
  simp [Nat.shiftLeft_eq]
theorem b_quo2 : (binOp .quo t (I x) (.int .i64 2)).run P w = .ok (I (x.sdiv 2#64)) w := b_quo t x 2#64 (by decide)
theorem b_rem2 : (binOp .rem t (I x) (.int .i64 2)).run P w = .ok (I (x.srem 2#64)) w := b_rem t x 2#64 (by decide)
theorem b_sub1 : (binOp .sub t (I x) (.int .i64 1)).run P w = .ok (I (x - 1#64)) w := b_sub t x 1#64
theorem b_add1 : (binOp .add t (I x) (.int .i64 1)).run P w = .ok (I (x + 1#64)) w := b_add t x 1#64
theorem b_lss64 : (binOp .lss t (I x) (.int .i64 64)).run P w = .ok (.bool (x.slt 64#64)) w := b_lss t x 64#64
end
theorem c_iu (x : BitVec 64) (w : World) : (convert 2 36 (I x)).run Try.prog w = .ok (U x) w := by
  unfold convert
  simp [run_underlying Try.underlying2, run_underlying Try.underlying36, I, Conv.intToInt]
  rw [u_of_int, BitVec.ofInt_toInt]
theorem c_ui (x : BitVec 64) (w : World) : (convert 36 2 (U x)).run Try.prog w = .ok (I x) w := by
  unfold convert
  simp [run_underlying Try.underlying2, run_underlying Try.underlying36, U, Conv.intToInt]
  rw [wrap_ofInt, BitVec.ofInt_natCast, BitVec.ofNat_toNat]; simp
theorem c_in (x : BitVec 64) (w : World) : (convert 3 41 (I x)).run Try.prog w = .ok (U x) w := by
  unfold convert
  simp [run_underlying Try.underlying3, run_underlying Try.underlying41, I, Conv.intToInt]
  rw [u_of_int, BitVec.ofInt_toInt]
theorem c_u3 (x : BitVec 64) (w : World) : (convert 36 3 (U x)).run Try.prog w = .ok (I x) w := by
  unfold convert
  simp [run_underlying Try.underlying3, run_underlying Try.underlying36, U, Conv.intToInt]
  rw [wrap_ofInt, BitVec.ofInt_natCast, BitVec.ofNat_toNat]; simp
attribute [local go_sem] b_add b_sub b_mul b_quo b_rem b_and b_or b_xor b_eql b_neq b_lss b_gtr b_and63 b_shl b_shr eqg eqg0 eqgU eqgU0 eqgF eqgN b_neg b_eql0 b_lss0 b_neq0 u_mul u_add u_sub u_quo u_rem u_or u_and u_and1 u_mul2 u_sub0 u_rem64 u_shr u_shl1 b_quo2 b_rem2 b_sub1 b_add1 b_lss64 c_iu c_ui c_in c_u3

/-- how far a number is from 0 -/
def sizeV (a : BitVec 64) : BitVec 64 := if a.slt 0#64 then -a else a
theorem size_any (a : BitVec 64) (w : World) : Calls Try.prog 30 #[I a] w fun e w' => e = .returned (U (sizeV a)) ∧ w = w' := by
  cases h : a.slt 0#64
  all_goals
    have hs := h
    go_enter Try.func30, Try.ntmps30
    go_wp2
    go_ret
    exact ⟨by simp [sizeV, hs], rfl⟩
/-- a bit of a number, as 0 or 1 -/
def bitN (a : BitVec 64) (k : Nat) : BitVec 64 := if a.getLsbD k then 1#64 else 0#64
theorem bitN_eq (a : BitVec 64) (k : Nat) : a >>> k &&& 1#64 = bitN a k := by
  unfold bitN
  apply BitVec.eq_of_getLsbD_eq
  intro i hi
  simp only [BitVec.getLsbD_and, BitVec.getLsbD_ushiftRight, BitVec.getLsbD_one]
  by_cases h : i = 0
  · subst h; cases a.getLsbD k <;> simp
  · cases a.getLsbD k <;> simp [h]
theorem bit_any (a : BitVec 64) (k : Nat) (hk : k < 64) (w : World) : Calls Try.prog 31 #[I a, I (BitVec.ofNat 64 k)] w fun e w' => e = .returned (U (bitN a k)) ∧ w = w' := by
  have he := bitN_eq a k
  have He := Lib.hid he
  clear he
  go_enter Try.func31, Try.ntmps31
  go_wp2
  go_ret
  exact ⟨by rw [← He.out]; rfl, rfl⟩
theorem bit_yes (a : BitVec 64) (k : Nat) (hk : k < 64) (h : a.getLsbD k = true) (w : World) : Calls Try.prog 31 #[I a, I (BitVec.ofNat 64 k)] w fun e w' => e = .returned (.int .u64 1) ∧ w = w' := by
  have := bit_any a k hk w
  rw [bitN, if_pos h] at this; exact this
theorem bit_no (a : BitVec 64) (k : Nat) (hk : k < 64) (h : a.getLsbD k = false) (w : World) : Calls Try.prog 31 #[I a, I (BitVec.ofNat 64 k)] w fun e w' => e = .returned (.int .u64 0) ∧ w = w' := by
  have := bit_any a k hk w
  rw [bitN, h] at this; exact this
theorem quot_any (a b : BitVec 64) (hb : b ≠ 0#64) (w : World) : Calls Try.prog 13 #[I a, I b] w fun e w' => e = .returned (I (a.sdiv b)) ∧ w = w' := by
  have hs : sizeV b ≠ 0#64 := by
    unfold sizeV; split
    · intro h; exact hb (by simpa using h)
    · exact hb
  have hq : a.sdiv b = if (a.slt 0#64 == b.slt 0#64) = false then -(sizeV a / sizeV b) else sizeV a / sizeV b := by
    unfold sizeV
    rw [BitVec.sdiv_eq, BitVec.slt_zero_eq_msb, BitVec.slt_zero_eq_msb]
    cases a.msb <;> cases b.msb <;> rfl
  have Hq := Lib.hid hq
  clear hq
  cases h : (a.slt 0#64 == b.slt 0#64)
  all_goals
    have h' := Lib.hid h
    go_enter Try.func13, Try.ntmps13
    go_wp2_with (go_at_call 30; refine (size_any _ _).mono ?_; rintro e w' ⟨rfl, rfl⟩)
    go_ret
    exact ⟨by rw [Hq.out, h'.out]; simp, rfl⟩
theorem rest_any (a b : BitVec 64) (hb : b ≠ 0#64) (w : World) : Calls Try.prog 14 #[I a, I b] w fun e w' => e = .returned (I (a.srem b)) ∧ w = w' := by
  have hs : sizeV b ≠ 0#64 := by
    unfold sizeV; split
    · intro h; exact hb (by simpa using h)
    · exact hb
  have hq : a.srem b = if a.slt 0#64 = true then -(sizeV a % sizeV b) else sizeV a % sizeV b := by
    unfold sizeV
    rw [BitVec.srem_eq, BitVec.slt_zero_eq_msb, BitVec.slt_zero_eq_msb]
    cases a.msb <;> cases b.msb <;> rfl
  have Hq := Lib.hid hq
  clear hq
  cases h : a.slt 0#64
  all_goals
    have h' := Lib.hid h
    go_enter Try.func14, Try.ntmps14
    go_wp2_with (go_at_call 30; refine (size_any _ _).mono ?_; rintro e w' ⟨rfl, rfl⟩)
    go_ret
    exact ⟨by rw [Hq.out, h'.out]; simp, rfl⟩

/-- the low k bits -/
def lo (r : BitVec 64) (k : Nat) : BitVec 64 := (r.setWidth k).setWidth 64
theorem lo_0 (r : BitVec 64) : lo r 0 = 0#64 := by
  apply BitVec.eq_of_getLsbD_eq; intro i hi; simp [lo]
theorem lo_64 (r : BitVec 64) : lo r 64 = r := by simp [lo]
theorem lo_yes (r : BitVec 64) (k : Nat) (hk : k < 64) (h : r.getLsbD k = true) : lo r (k + 1) = lo r k ||| 1#64 <<< k := by
  apply BitVec.eq_of_getLsbD_eq
  intro i hi
  simp only [lo, BitVec.getLsbD_or, BitVec.getLsbD_setWidth, BitVec.getLsbD_shiftLeft, BitVec.getLsbD_one]
  by_cases h1 : i = k
  · subst h1; simp [h, hk]
  · by_cases h2 : i < k
    · have : i < k + 1 := by omega
      simp [h2, this, hi]
    · have h3 : ¬ i < k + 1 := by omega
      have h4 : ¬ i - k = 0 := by omega
      simp [h2, h3, h4]
theorem lo_no (r : BitVec 64) (k : Nat) (h : r.getLsbD k = false) : lo r (k + 1) = lo r k := by
  apply BitVec.eq_of_getLsbD_eq
  intro i hi
  simp only [lo, BitVec.getLsbD_setWidth]
  by_cases h1 : i = k
  · subst h1; simp [h]
  · have : (i < k + 1) ↔ (i < k) := by omega
    simp [this]
theorem lo_step (r : BitVec 64) (k : Nat) (hk : k < 64) : lo r (k + 1) = if r.getLsbD k then lo r k ||| 1#64 <<< k else lo r k := by
  cases h : r.getLsbD k
  · rw [lo_no r k h]; simp
  · rw [lo_yes r k hk h]; simp
theorem toInt_small (k : Nat) (hk : k ≤ 64) : (BitVec.ofNat 64 k).toInt = k := by
  have h : (BitVec.ofNat 64 k).toNat = k := by simp; omega
  rw [BitVec.toInt_eq_toNat_of_lt (by omega), h]
theorem slt64 (k : Nat) (hk : k < 64) : (BitVec.ofNat 64 k).slt 64#64 = true := by
  rw [BitVec.slt, toInt_small k (by omega)]; simp; omega
theorem add1 (k : Nat) : BitVec.ofNat 64 k + 1#64 = BitVec.ofNat 64 (k + 1) := by
  rw [BitVec.ofNat_add]
/-- a word's number -/
def natOf : Value → Nat | .int _ q => q.toNat | _ => 0
theorem natOf_I (k : Nat) (hk : k ≤ 64) : natOf (I (BitVec.ofNat 64 k)) = k := by
  simp only [natOf, I, toInt_small k hk]; omega
theorem and_bits (a b : BitVec 64) (w : World) : Calls Try.prog 15 #[.int .u8 6, I a, I b] w fun e w' => e = .returned (I (a &&& b)) ∧ w = w' := by
  go_enter Try.func15, Try.ntmps15
  go_wp2
  go_loop [7, 8] (fun o i => ∃ k : Nat, k ≤ 64 ∧ i = I (BitVec.ofNat 64 k) ∧ o = U (lo (a &&& b) k)) (fun _ i => 64 - natOf i)
  case atStart => exact ⟨0, by omega, rfl, by rw [lo_0]; rfl⟩
  case round =>
    obtain ⟨k, hk, rfl, rfl⟩ := hrel
    by_cases hlt : k < 64
    · have h64 := slt64 k hlt
      cases ha : a.getLsbD k <;> cases hb : b.getLsbD k
      all_goals
        have Ha := Lib.hid ha
        have Hb := Lib.hid hb
        clear ha hb
        go_wp2_with (first | (go_at_call 31; ((with_reducible refine (bit_yes a k hlt Ha.out _).mono ?_); rintro e w' ⟨rfl, rfl⟩)) | (go_at_call 31; ((with_reducible refine (bit_no a k hlt Ha.out _).mono ?_); rintro e w' ⟨rfl, rfl⟩)) | (go_at_call 31; ((with_reducible refine (bit_yes b k hlt Hb.out _).mono ?_); rintro e w' ⟨rfl, rfl⟩)) | (go_at_call 31; ((with_reducible refine (bit_no b k hlt Hb.out _).mono ?_); rintro e w' ⟨rfl, rfl⟩)))
        go_round
        case rel => exact ⟨k + 1, by omega, by rw [add1], by rw [lo_step _ _ hlt]; simp [Ha.out, Hb.out]⟩
        case measure => rw [add1, natOf_I _ (by omega), natOf_I _ (by omega)]; omega
    · obtain rfl : k = 64 := by omega
      have h64 : (BitVec.ofNat 64 64).slt 64#64 = false := by decide
      go_wp2
      go_ret
      exact ⟨by rw [lo_64]; rfl, rfl⟩
theorem or_bits (a b : BitVec 64) (w : World) : Calls Try.prog 15 #[.int .u8 7, I a, I b] w fun e w' => e = .returned (I (a ||| b)) ∧ w = w' := by
  go_enter Try.func15, Try.ntmps15
  go_wp2
  go_loop [7, 8] (fun o i => ∃ k : Nat, k ≤ 64 ∧ i = I (BitVec.ofNat 64 k) ∧ o = U (lo (a ||| b) k)) (fun _ i => 64 - natOf i)
  case atStart => exact ⟨0, by omega, rfl, by rw [lo_0]; rfl⟩
  case round =>
    obtain ⟨k, hk, rfl, rfl⟩ := hrel
    by_cases hlt : k < 64
    · have h64 := slt64 k hlt
      cases ha : a.getLsbD k <;> cases hb : b.getLsbD k
      all_goals
        have Ha := Lib.hid ha
        have Hb := Lib.hid hb
        clear ha hb
        go_wp2_with (first | (go_at_call 31; ((with_reducible refine (bit_yes a k hlt Ha.out _).mono ?_); rintro e w' ⟨rfl, rfl⟩)) | (go_at_call 31; ((with_reducible refine (bit_no a k hlt Ha.out _).mono ?_); rintro e w' ⟨rfl, rfl⟩)) | (go_at_call 31; ((with_reducible refine (bit_yes b k hlt Hb.out _).mono ?_); rintro e w' ⟨rfl, rfl⟩)) | (go_at_call 31; ((with_reducible refine (bit_no b k hlt Hb.out _).mono ?_); rintro e w' ⟨rfl, rfl⟩)))
        go_round
        case rel => exact ⟨k + 1, by omega, by rw [add1], by rw [lo_step _ _ hlt]; simp [Ha.out, Hb.out]⟩
        case measure => rw [add1, natOf_I _ (by omega), natOf_I _ (by omega)]; omega
    · obtain rfl : k = 64 := by omega
      have h64 : (BitVec.ofNat 64 64).slt 64#64 = false := by decide
      go_wp2
      go_ret
      exact ⟨by rw [lo_64]; rfl, rfl⟩
theorem xor_bits (a b : BitVec 64) (w : World) : Calls Try.prog 15 #[.int .u8 8, I a, I b] w fun e w' => e = .returned (I (a ^^^ b)) ∧ w = w' := by
  go_enter Try.func15, Try.ntmps15
  go_wp2
  go_loop [7, 8] (fun o i => ∃ k : Nat, k ≤ 64 ∧ i = I (BitVec.ofNat 64 k) ∧ o = U (lo (a ^^^ b) k)) (fun _ i => 64 - natOf i)
  case atStart => exact ⟨0, by omega, rfl, by rw [lo_0]; rfl⟩
  case round =>
    obtain ⟨k, hk, rfl, rfl⟩ := hrel
    by_cases hlt : k < 64
    · have h64 := slt64 k hlt
      cases ha : a.getLsbD k <;> cases hb : b.getLsbD k
      all_goals
        have Ha := Lib.hid ha
        have Hb := Lib.hid hb
        clear ha hb
        go_wp2_with (first | (go_at_call 31; ((with_reducible refine (bit_yes a k hlt Ha.out _).mono ?_); rintro e w' ⟨rfl, rfl⟩)) | (go_at_call 31; ((with_reducible refine (bit_no a k hlt Ha.out _).mono ?_); rintro e w' ⟨rfl, rfl⟩)) | (go_at_call 31; ((with_reducible refine (bit_yes b k hlt Hb.out _).mono ?_); rintro e w' ⟨rfl, rfl⟩)) | (go_at_call 31; ((with_reducible refine (bit_no b k hlt Hb.out _).mono ?_); rintro e w' ⟨rfl, rfl⟩)))
        go_round
        case rel => exact ⟨k + 1, by omega, by rw [add1], by rw [lo_step _ _ hlt]; simp [Ha.out, Hb.out]⟩
        case measure => rw [add1, natOf_I _ (by omega), natOf_I _ (by omega)]; omega
    · obtain rfl : k = 64 := by omega
      have h64 : (BitVec.ofNat 64 64).slt 64#64 = false := by decide
      go_wp2
      go_ret
      exact ⟨by rw [lo_64]; rfl, rfl⟩
end Go.Proofs.Ytbebgjodgebgkaa
