/- Plain laws on 64-bit numbers: quotient and rest, bits, shifts. No program in sight. No condition. -/
namespace Go.Proofs.Ytbebgjodgebgkaa
theorem or_xor (a b : BitVec 64) : a ||| b = (a &&& b) ^^^ (a ^^^ b) := by
  ext i hi; simp; cases a[i] <;> cases b[i] <;> rfl
theorem and_and (a b : BitVec 64) : (a &&& b) &&& a = a &&& b := by
  ext i hi; simp only [BitVec.getElem_and]; cases a[i] <;> cases b[i] <;> rfl
theorem shl_mul (a : BitVec 64) (n : Nat) : a <<< n = a * (1#64 <<< n) := by
  rw [← BitVec.mul_twoPow_eq_shiftLeft]; rfl
theorem div_mod (a b : BitVec 64) : a.sdiv b * b + a.srem b = a := by
  apply BitVec.eq_of_toInt_eq
  rw [BitVec.toInt_add, BitVec.toInt_mul, BitVec.toInt_sdiv, BitVec.toInt_srem]
  simp only [Int.bmod_add_bmod, Int.bmod_mul_bmod]
  rw [Int.mul_comm, Int.mul_tdiv_add_tmod]
  exact Int.bmod_eq_of_le (by have := BitVec.le_toInt a; simpa using this) (by have := BitVec.toInt_lt (x := a); simpa using this)
theorem rem_sign (a b : BitVec 64) (h : a.srem b ≠ 0#64) : (a.srem b).slt 0#64 = a.slt 0#64 := by
  have hr : (a.srem b).toInt ≠ 0 := fun e => h (BitVec.eq_of_toInt_eq (by simpa using e))
  simp only [BitVec.slt, BitVec.toInt_srem, BitVec.toInt_zero] at *
  rw [decide_eq_decide]
  rcases Int.lt_or_le a.toInt 0 with h0 | h0
  · have := Int.tmod_nonneg b.toInt (a := -a.toInt) (by omega)
    rw [Int.neg_tmod] at this
    omega
  · have := Int.tmod_nonneg b.toInt h0
    omega
theorem tmod_bd (a b : Int) (h : 0 < b) : a.tmod b < b ∧ -b < a.tmod b := by
  have h1 := Int.tmod_lt_of_pos a h
  have h2 := Int.tmod_lt_of_pos (-a) h
  rw [Int.neg_tmod] at h2
  omega
theorem toInt_neg' (b : BitVec 64) (hm : b ≠ BitVec.intMin 64) : (-b).toInt = -b.toInt := by
  rw [BitVec.toInt_neg_of_ne_intMin hm]
theorem rem_pos (a b : BitVec 64) (h : (0#64).slt b = true) : (a.srem b).slt b = true ∧ b.slt (a.srem b) = false ∧ (-b).slt (a.srem b) = true := by
  have hm : b ≠ BitVec.intMin 64 := by rintro rfl; exact absurd h (by decide)
  simp only [BitVec.slt, BitVec.toInt_srem, BitVec.toInt_zero, toInt_neg' b hm, decide_eq_true_eq, decide_eq_false_iff_not] at *
  have := tmod_bd a.toInt b.toInt h
  omega
theorem rem_neg (a b : BitVec 64) (h : b.slt 0#64 = true) (hm : b ≠ BitVec.intMin 64) : (a.srem b).slt b = false ∧ b.slt (a.srem b) = true ∧ (a.srem b).slt (-b) = true := by
  simp only [BitVec.slt, BitVec.toInt_srem, BitVec.toInt_zero, toInt_neg' b hm, decide_eq_true_eq, decide_eq_false_iff_not] at *
  have := tmod_bd a.toInt (-b.toInt) (by omega)
  rw [Int.tmod_neg] at this
  omega
end Go.Proofs.Ytbebgjodgebgkaa
