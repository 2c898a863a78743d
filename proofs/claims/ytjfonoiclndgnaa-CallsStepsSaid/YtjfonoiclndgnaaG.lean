/- Plain laws on graphs: what is reached; sets of nodes as functions to Bool. No program in sight. No condition. -/
namespace Go.Proofs.Ytjfonoiclndgnaa

/-- node a leads to node b -/
def Adj (ll : List (List Int)) (a b : Nat) : Prop := ∃ row, ll[a]? = some row ∧ (b : Int) ∈ row
/-- b is reached from a -/
inductive Reach (ll : List (List Int)) (a : Nat) : Nat → Prop
  | refl : Reach ll a a
  | step {b c : Nat} : Reach ll a b → Adj ll b c → Reach ll a c
theorem Reach.trans {ll : List (List Int)} {a b c : Nat} (h : Reach ll a b) (k : Reach ll b c) : Reach ll a c := by
  induction k with
  | refl => exact h
  | step _ e ih => exact .step ih e
theorem Reach.head {ll : List (List Int)} {a b c : Nat} (e : Adj ll a b) (k : Reach ll b c) : Reach ll a c := Reach.trans (.step .refl e) k
theorem reach_closed {ll : List (List Int)} {a : Nat} {p : Nat → Bool} (ha : p a = true) (hc : ∀ i, p i = true → ∀ j, Adj ll i j → p j = true) : ∀ k, Reach ll a k → p k = true := by
  intro k h
  induction h with
  | refl => exact ha
  | step _ e ih => exact hc _ ih _ e
open Classical in
/-- as a Bool -/
noncomputable def reachB (ll : List (List Int)) (a k : Nat) : Bool := decide (Reach ll a k)
theorem reachB_iff {ll : List (List Int)} {a k : Nat} : reachB ll a k = true ↔ Reach ll a k := by simp [reachB]
theorem reachB_eq {ll : List (List Int)} {a : Nat} {p : Nat → Bool} {k : Nat} (h : p k = true ↔ Reach ll a k) : p k = reachB ll a k := by
  rw [Bool.eq_iff_iff, h, reachB_iff]

/-- a set with one more -/
def upd (p : Nat → Bool) (i : Nat) : Nat → Bool := fun k => if k = i then true else p k
theorem upd_self (p : Nat → Bool) (i : Nat) : upd p i i = true := by simp [upd]
theorem upd_of (p : Nat → Bool) (i k : Nat) (h : p k = true) : upd p i k = true := by unfold upd; split <;> first | rfl | exact h
theorem upd_ne {p : Nat → Bool} {i k : Nat} (h : k ≠ i) : upd p i k = p k := by simp [upd, h]
/-- how many of the first n are not there -/
def unv : Nat → (Nat → Bool) → Nat
  | 0, _ => 0
  | n + 1, p => unv n p + if p n then 0 else 1
theorem unv_le {p q : Nat → Bool} : ∀ n, (∀ k, k < n → p k = true → q k = true) → unv n q ≤ unv n p
  | 0, _ => Nat.le_refl _
  | n + 1, h => by
    have h1 := unv_le n (fun k hk => h k (by omega))
    have h2 := h n (by omega)
    unfold unv
    cases hp : p n with
    | true => rw [h2 hp]; simp; exact h1
    | false => cases q n <;> simp <;> omega
theorem unv_upd {p : Nat → Bool} {i : Nat} : ∀ n, i < n → p i = false → unv n (upd p i) < unv n p
  | 0, h, _ => by omega
  | n + 1, h, hp => by
    unfold unv
    by_cases e : i = n
    · subst e
      have h1 := unv_le (p := p) (q := upd p i) i (fun k _ h => upd_of p i k h)
      rw [upd_self, hp]; simp; omega
    · have h1 := unv_upd n (by omega) hp
      rw [upd_ne (fun e' => e e'.symm)]
      omega
theorem unv_bd (p : Nat → Bool) : ∀ n, unv n p ≤ n
  | 0 => Nat.le_refl _
  | n + 1 => by have := unv_bd p n; unfold unv; split <;> omega
end Go.Proofs.Ytjfonoiclndgnaa
