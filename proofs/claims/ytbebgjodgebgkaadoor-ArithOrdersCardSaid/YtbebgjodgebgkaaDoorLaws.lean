/- The laws ArithOrders and ArithNames walked over their contracts, where the table of names holds its thirteen names. -/
import Derived.Test.YtbebgjodgebgkaaDoorNames
namespace Go.Proofs.YtbebgjodgebgkaaDoor
open Go.RowKit
attribute [local go_sem] b_add b_sub b_mul b_quo b_rem b_and b_or b_xor b_eql b_neq b_lss b_gtr b_and63 b_shl b_shr eqg eqg0 eqgU eqgU0 eqgF eqgN nil_eq1 nil_eq2 b_eql0
theorem b_eql1 {P : Program} {w : World} (t : TypeId) (x : BitVec 64) : (binOp .eql t (I x) (.int .i64 1)).run P w = .ok (.bool (x == 1#64)) w := b_eql t x 1#64
attribute [local go_sem] b_eql1

theorem cell_al {w : World} {o : Obj} {i : Nat} {v : Value} (h : w.cell? ⟨0, i, none⟩ = some v) : (w.alloc o).cell? ⟨0, i, none⟩ = some v := by
  rw [World.cell?_alloc_lt w o _ (World.block_lt_of_cell? w _ h)]; exact h
theorem refname12 (w : World) : Calls Tryd.prog 6 #[.int .u8 12] w fun e w' => e = .returned (.string (nm 12)) ∧ w.alloc nmObj = w' := refname_yes 11 (by decide) w
theorem name12 (w : World) (hc : w.cell? ⟨0, 12, none⟩ = some (.string (nm 12))) : Calls Tryd.prog 7 #[.int .u8 12] w fun e w' => e = .returned (.string (nm 12)) ∧ w = w' := name_yes 12 (by decide) w hc
theorem grown_nm {a b : World} (h : Grown a b) : Grown a (b.alloc nmObj) := h.alloc _ _

theorem orders (a b : BitVec 64) (w : World) (hc : w.cell? ⟨0, 12, none⟩ = some (.string (nm 12))) : Calls Tryd.prog 3 #[I a, I b] w fun e w' => e = .returned (.bool true) ∧ Grown w w' := by
  have e11 : doR 11 a b = tr (a == b) := rfl
  have e12 : doR 12 a b = tr (a.slt b) := rfl
  have e21 : doR 12 b a = tr (b.slt a) := rfl
  have hx : (a == b) = decide (a.toInt = b.toInt) := by rw [Bool.eq_iff_iff, beq_iff_eq, decide_eq_true_eq, BitVec.toInt_inj]
  have h1 : (doR 12 a b + doR 11 a b + doR 12 b a == 1#64) = true := by
    rw [e11, e12, e21, hx, BitVec.slt, BitVec.slt]
    rcases Int.lt_trichotomy a.toInt b.toInt with h | h | h
    · rw [decide_eq_true h, decide_eq_false (by omega : ¬ a.toInt = b.toInt), decide_eq_false (by omega : ¬ b.toInt < a.toInt)]; rfl
    · rw [decide_eq_false (by omega : ¬ a.toInt < b.toInt), decide_eq_true h, decide_eq_false (by omega : ¬ b.toInt < a.toInt)]; rfl
    · rw [decide_eq_false (by omega : ¬ a.toInt < b.toInt), decide_eq_false (by omega : ¬ a.toInt = b.toInt), decide_eq_true h]; rfl
  have h2 : ((doR 12 a b == 1#64) == a.slt b) = true := by
    rw [e12]; cases a.slt b <;> rfl
  clear e11 e12 e21 hx
  go_enter Tryd.func3, Tryd.ntmps3
  go_wp2_with (first | (go_at_call 5; refine (d_any _ _ _ _ (by decide) (by decide)).mono ?_; rintro e w' ⟨rfl, rfl⟩) | (go_at_call 6; refine (refname12 _).mono ?_; rintro e w' ⟨rfl, rfl⟩) | (go_at_call 7; refine (name12 _ (by repeat (first | exact hc | apply cell_al))).mono ?_; rintro e w' ⟨rfl, rfl⟩) | (go_at_call 8; refine (aw _).mono ?_; rintro e w' ⟨rfl, hg⟩))
  go_ret
  refine ⟨rfl, grown_trans ?_ hg⟩
  repeat (first | exact Grown.refl _ | apply Grown.drew | apply grown_mp | apply grown_nm)

/-- a contract of the shape that the law needs -/
def Gives (f : FuncId) (args : Array Value) (w : World) (v : Value) : Prop := ∀ W, Grown w W → Calls Tryd.prog f args W fun e W' => e = .returned v ∧ Grown W W'

theorem names_core (s : ByteArray) (op r : Int) (t t4 : Bool) (n : ByteArray) (w : World) (h0 : 0 ≤ op) (h1 : op < 256) (r0 : 0 ≤ r) (r1 : r < 256) (ht : (t == decide (0 < r)) = true)
    (h4 : t4 = (op == 4 || op == 5))
    (hO : Gives 9 #[.string s] w (.tuple #[.int .u8 r, .bool t])) (hR : Gives 10 #[.string s] w (.int .u8 r)) (hN : Gives 7 #[.int .u8 op] w (.string n)) (hM : Gives 6 #[.int .u8 op] w (.string n))
    (hT : Gives 11 #[.int .u8 op] w (.bool t4)) : Calls Tryd.prog 4 #[.string s, .int .u8 op] w fun e w' => e = .returned (.bool true) ∧ Grown w w' := by
  have hc : (op == 4) = true ∧ t4 = true ∨ (op == 4) = false ∧ (op == 5) = true ∧ t4 = true ∨ (op == 4) = false ∧ (op == 5) = false ∧ t4 = false := by
    cases h : (op == 4) <;> cases h' : (op == 5) <;> simp [h4, h, h']
  clear h4
  rcases hc with ⟨hc, rfl⟩ | ⟨hc, hc', rfl⟩ | ⟨hc, hc', rfl⟩
  all_goals
    go_enter Tryd.func4, Tryd.ntmps4
    go_wp2_with fail
    refine (hO _ (Grown.refl _)).mono ?_
    rintro e w1 ⟨rfl, g1⟩
    go_wp2_with fail
    refine (hR _ g1).mono ?_
    rintro e w2 ⟨rfl, g2'⟩
    have g2 := grown_trans g1 g2'
    go_wp2_with fail
    refine (hN _ g2).mono ?_
    rintro e w3 ⟨rfl, g3'⟩
    have g3 := grown_trans g2 g3'
    go_wp2_with fail
    refine (hM _ g3).mono ?_
    rintro e w4 ⟨rfl, g4'⟩
    have g4 := grown_trans g3 g4'
    go_wp2_with fail
    refine (hT _ g4).mono ?_
    rintro e w5 ⟨rfl, g5'⟩
    have g5 := grown_trans g4 g5'
    go_wp2_with fail
    refine (aw _).mono ?_
    rintro e w6 ⟨rfl, g6'⟩
    go_wp2_with fail
    go_ret
    exact ⟨rfl, grown_trans g5 g6'⟩

theorem cell_grown {w W : World} {i : Nat} {v : Value} (h : w.cell? ⟨0, i, none⟩ = some v) (g : Grown w W) : W.cell? ⟨0, i, none⟩ = some v := by
  have hb := World.block_lt_of_cell? w _ h
  have hk := g.1.2.2 0 hb
  unfold World.cell? at h ⊢
  cases hw : w.heap[0]? with
  | none => simp [hw] at h
  | some o =>
    cases hW : W.heap[0]? with
    | none => rw [hw, hW] at hk; cases o <;> cases hk
    | some o' =>
      rw [hw, hW] at hk
      cases o <;> cases o' <;> simp_all

theorem first_or (p : Nat → Bool) (n : Nat) : (∀ j, j < n → p j = false) ∨ ∃ r, r < n ∧ p r = true ∧ ∀ j, j < r → p j = false := by
  induction n with
  | zero => left; intro j hj; omega
  | succ n ih =>
    rcases ih with h | ⟨r, hr, h1, h2⟩
    · cases hp : p n with
      | false => left; intro j hj; by_cases e : j = n
                 · rw [e]; exact hp
                 · exact h j (by omega)
      | true => exact .inr ⟨n, by omega, hp, h⟩
    · exact .inr ⟨r, by omega, h1, h2⟩

theorem namesLaw (s : ByteArray) (op : Nat) (w : World) (h1 : op < 256) (hc : ∀ i, i < 13 → w.cell? ⟨0, i, none⟩ = some (.string (nm i))) :
    Calls Tryd.prog 4 #[.string s, .int .u8 op] w fun e w' => e = .returned (.bool true) ∧ Grown w w' := by
  have hc' : ∀ W, Grown w W → ∀ i, i < 13 → W.cell? ⟨0, i, none⟩ = some (.string (nm i)) := fun W g i hi => cell_grown (hc i hi) g
  have hT : Gives 11 #[.int .u8 op] w (.bool ((op : Int) == 4 || (op : Int) == 5)) := fun W _ => (traps_any op W (by omega) (by omega)).mono fun e W' ⟨he, hw⟩ => ⟨he, hw ▸ Grown.refl _⟩
  obtain ⟨n, hN, hM⟩ : ∃ n, Gives 7 #[.int .u8 op] w (.string n) ∧ Gives 6 #[.int .u8 op] w (.string n) := by
    by_cases h : op < 1 ∨ 12 < op
    · refine ⟨⟨#[]⟩, fun W g => ?_, fun W _ => (refname_no op h h1 W).mono fun e W' ⟨he, hw⟩ => ⟨he, hw ▸ Grown.refl _⟩⟩
      rcases h with h | h
      · obtain rfl : op = 0 := by omega
        exact (name_yes 0 (by decide) W (hc' W g 0 (by decide))).mono fun e W' ⟨he, hw⟩ => ⟨he, hw ▸ Grown.refl _⟩
      · exact (name_no op (by omega) h1 W).mono fun e W' ⟨he, hw⟩ => ⟨he, hw ▸ Grown.refl _⟩
    · obtain ⟨j, rfl⟩ : ∃ j, op = j + 1 := ⟨op - 1, by omega⟩
      exact ⟨nm (j + 1), fun W g => (name_yes (j + 1) (by omega) W (hc' W g _ (by omega))).mono fun e W' ⟨he, hw⟩ => ⟨he, hw ▸ Grown.refl _⟩,
        fun W g => (refname_yes j (by omega) W).mono fun e W' ⟨he, hw⟩ => ⟨he, hw ▸ grown_nm (Grown.refl _)⟩⟩
  rcases first_or (fun j => (nm (j + 1)).toList == s.toList) 12 with h | ⟨r, hr, hy, hm⟩
  · refine names_core s op 0 false _ n w (by omega) (by omega) (by decide) (by decide) (by decide) rfl (fun W g => ?_) (fun W g => ?_) hN hM hT
    · refine (op_no s (fun j hj hj' => ?_) W (hc' W g)).mono fun e W' ⟨he, hw⟩ => ⟨he, hw ▸ Grown.refl _⟩
      obtain ⟨i, rfl⟩ : ∃ i, j = i + 1 := ⟨j - 1, by omega⟩
      exact h i (by omega)
    · exact (refop_no s h W).mono fun e W' ⟨he, hw⟩ => ⟨he, hw ▸ grown_nm (Grown.refl _)⟩
  · refine names_core s op (r + 1) true _ n w (by omega) (by omega) (by omega) (by omega) (by simp) rfl (fun W g => ?_) (fun W g => ?_) hN hM hT
    · refine (op_yes s (r + 1) (by omega) (by omega) hy (fun j hj hj' => ?_) W (hc' W g)).mono fun e W' ⟨he, hw⟩ => ⟨he, hw ▸ Grown.refl _⟩
      obtain ⟨i, rfl⟩ : ∃ i, j = i + 1 := ⟨j - 1, by omega⟩
      exact hm i (by omega)
    · exact (refop_yes s r hr hy hm W).mono fun e W' ⟨he, hw⟩ => ⟨he, hw ▸ grown_nm (Grown.refl _)⟩
end Go.Proofs.YtbebgjodgebgkaaDoor
