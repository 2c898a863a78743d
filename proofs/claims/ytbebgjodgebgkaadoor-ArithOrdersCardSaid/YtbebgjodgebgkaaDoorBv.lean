/- What the machine's operations make of 64-bit numbers, said over BitVec 64. No condition. -/
import Derived.Test.YtbebgjodgebgkaaDoorDo
namespace Go.Proofs.YtbebgjodgebgkaaDoor
open Go.RowKit

/-- a number of 64 bits, as an int64 -/
def I (x : BitVec 64) : Value := .int .i64 x.toInt
/-- .. as a uint64 -/
def U (x : BitVec 64) : Value := .int .u64 x.toNat

theorem wrap_i64_bmod (n : Int) : IntKind.i64.wrap n = n.bmod 18446744073709551616 := by
  simp [IntKind.wrap, IntKind.bits, IntKind.signed, Int.bmod]; split <;> split <;> omega

theorem wrap_ofInt (n : Int) : Value.int .i64 (IntKind.i64.wrap n) = I (BitVec.ofInt 64 n) := by
  rw [wrap_i64_bmod, I, BitVec.toInt_ofInt]

section
variable {P : Program} {w : World} (t s : TypeId) (x y : BitVec 64)
theorem b_add : (binOp .add t (I x) (I y)).run P w = .ok (I (x + y)) w := by
  simp [binOp, I, Op.intArith, Sem.run, wrap_i64_bmod, BitVec.toInt_add]
theorem b_sub : (binOp .sub t (I x) (I y)).run P w = .ok (I (x - y)) w := by
  simp [binOp, I, Op.intArith, Sem.run, wrap_i64_bmod]
theorem b_mul : (binOp .mul t (I x) (I y)).run P w = .ok (I (x * y)) w := by
  simp [binOp, I, Op.intArith, Sem.run, wrap_i64_bmod]
theorem b_quo (h : y ≠ 0#64) : (binOp .quo t (I x) (I y)).run P w = .ok (I (x.sdiv y)) w := by
  have : y.toInt ≠ 0 := fun e => h (BitVec.eq_of_toInt_eq (by simpa using e))
  simp [binOp, I, Op.intDiv, Sem.run, wrap_i64_bmod, this, BitVec.toInt_sdiv]
theorem b_rem (h : y ≠ 0#64) : (binOp .rem t (I x) (I y)).run P w = .ok (I (x.srem y)) w := by
  have : y.toInt ≠ 0 := fun e => h (BitVec.eq_of_toInt_eq (by simpa using e))
  simp [binOp, I, Op.intDiv, Sem.run, this, BitVec.toInt_srem]
theorem b_and : (binOp .and t (I x) (I y)).run P w = .ok (I (x &&& y)) w := by
  show Result.ok (Value.int .i64 (IntKind.i64.wrap ((BitVec.ofInt 64 x.toInt &&& BitVec.ofInt 64 y.toInt).toNat : Int))) w = _
  rw [BitVec.ofInt_toInt, BitVec.ofInt_toInt, wrap_i64_bmod, I, BitVec.toInt_eq_toNat_bmod (x &&& y)]
theorem b_or : (binOp .or t (I x) (I y)).run P w = .ok (I (x ||| y)) w := by
  show Result.ok (Value.int .i64 (IntKind.i64.wrap ((BitVec.ofInt 64 x.toInt ||| BitVec.ofInt 64 y.toInt).toNat : Int))) w = _
  rw [BitVec.ofInt_toInt, BitVec.ofInt_toInt, wrap_i64_bmod, I, BitVec.toInt_eq_toNat_bmod (x ||| y)]
theorem b_xor : (binOp .xor t (I x) (I y)).run P w = .ok (I (x ^^^ y)) w := by
  show Result.ok (Value.int .i64 (IntKind.i64.wrap ((BitVec.ofInt 64 x.toInt ^^^ BitVec.ofInt 64 y.toInt).toNat : Int))) w = _
  rw [BitVec.ofInt_toInt, BitVec.ofInt_toInt, wrap_i64_bmod, I, BitVec.toInt_eq_toNat_bmod (x ^^^ y)]
theorem beq_toInt : (x.toInt == y.toInt) = (x == y) := by
  rw [Bool.eq_iff_iff, beq_iff_eq, beq_iff_eq, BitVec.toInt_inj]
theorem b_eql : (binOp .eql t (I x) (I y)).run P w = .ok (.bool (x == y)) w := by
  simp [binOp, I, Op.intCmp, Sem.run, beq_toInt]
theorem b_neq : (binOp .neq t (I x) (I y)).run P w = .ok (.bool (x != y)) w := by
  simp [binOp, I, Op.intCmp, Sem.run, bne, beq_toInt]
theorem b_lss : (binOp .lss t (I x) (I y)).run P w = .ok (.bool (x.slt y)) w := by
  simp [binOp, I, Op.intCmp, Sem.run, BitVec.slt]
theorem b_gtr : (binOp .gtr t (I x) (I y)).run P w = .ok (.bool (y.slt x)) w := by
  simp [binOp, I, Op.intCmp, Sem.run, BitVec.slt]
theorem b_and63 : (binOp .and t (I x) (.int .i64 63)).run P w = .ok (I (x &&& 63#64)) w := b_and t x 63
theorem and63 (y : BitVec 64) : (y &&& 63#64).toInt = (y &&& 63#64).toNat ∧ (y &&& 63#64).toNat < 64 := by
  have h : (y &&& 63#64).toNat < 64 := by
    rw [BitVec.toNat_and]; exact Nat.lt_of_le_of_lt Nat.and_le_right (by decide)
  refine ⟨?_, h⟩
  rw [BitVec.toInt_eq_toNat_cond, if_pos (by omega)]
theorem b_shl : (binOp .shl t (I x) (I (y &&& 63#64))).run P w = .ok (I (x <<< (y &&& 63#64).toNat)) w := by
  obtain ⟨h1, h2⟩ := and63 y
  have h3 : ¬ ((y &&& 63#64).toNat : Int) < 0 := by omega
  have h4 : min (y &&& 63#64).toNat 64 = (y &&& 63#64).toNat := by omega
  simp only [binOp, I, Op.shift, h1, h3, if_false, Int.toNat_natCast, IntKind.bits, h4, wrap_i64_bmod, BitVec.toInt_shiftLeft]
  rw [BitVec.toInt_eq_toNat_bmod]
  simp [Nat.shiftLeft_eq]
theorem b_shr : (binOp .shr t (I x) (I (y &&& 63#64))).run P w = .ok (I (x.sshiftRight (y &&& 63#64).toNat)) w := by
  obtain ⟨h1, h2⟩ := and63 y
  have h3 : ¬ ((y &&& 63#64).toNat : Int) < 0 := by omega
  have h4 : min (y &&& 63#64).toNat 64 = (y &&& 63#64).toNat := by omega
  simp only [binOp, I, Op.shift, h1, h3, if_false, Int.toNat_natCast, IntKind.bits, h4, BitVec.toInt_sshiftRight, Int.shiftRight_eq_div_pow]
  rw [Int.fdiv_eq_ediv_of_nonneg _ (by exact_mod_cast Nat.zero_le _)]
  simp
theorem eqg (op : BinOp) (p q : Operand) : (eqGuard op t p q (I x) (I y)).run P w = .ok () w := by
  cases op <;> simp [eqGuard, I]
theorem eqg0 (op : BinOp) (p q : Operand) (n : Int) : (eqGuard op t p q (I x) (.int .i64 n)).run P w = .ok () w := by
  cases op <;> simp [eqGuard, I]
theorem eqgU (op : BinOp) (p q : Operand) : (eqGuard op t p q (U x) (U y)).run P w = .ok () w := by
  cases op <;> simp [eqGuard, U]
theorem eqgU0 (op : BinOp) (p q : Operand) (n : Int) : (eqGuard op t p q (U x) (.int .u64 n)).run P w = .ok () w := by
  cases op <;> simp [eqGuard, U]
theorem eqgF (op : BinOp) (p q : Operand) (f : FuncId) : (eqGuard op t p q (.func (.func f) #[] #[]) .nilFunc).run P w = .ok () w := by
  cases op <;> simp [eqGuard]
theorem eqgN (op : BinOp) (p q : Operand) : (eqGuard op t p q .nilFunc .nilFunc).run P w = .ok () w := by
  cases op <;> simp [eqGuard]
end
theorem nil_eq1 (f : FuncId) (w : World) : (binOp .eql 37 (.func (.func f) #[] #[]) .nilFunc).run Tryd.prog w = .ok (.bool false) w := by
  kernel_rfl
theorem nil_eq2 (w : World) : (binOp .eql 37 .nilFunc .nilFunc).run Tryd.prog w = .ok (.bool true) w := by
  kernel_rfl
end Go.Proofs.YtbebgjodgebgkaaDoor
