/- Contracts of what calls.Entries asks of a row: whether one of its nodes reaches a node. No condition but that nodes are nodes. -/
import Derived.Test.YtjfonoiclndgnaaJ
import Derived.Deep.QuietTactic
import Derived.BigQuiet
namespace Go.Proofs.Ytjfonoiclndgnaa
open Go.RowKit

theorem been_any (S : Nat → Prop) (ll : List (List Int)) (vb : Value) (xb xi a i : Nat) (w : World) (hbx : Blk w xb 34 #[vb]) (hbi : Blk w xi 3 #[.int .i64 i]) (hv : BRows S w vb (reachM ll)) (ha : a < ll.length) (hi : i < ll.length) (_ : ll.length ≤ 256) :
    Calls Try.prog 27 #[.int .i64 a, .pointer (some ⟨xb, 0, none⟩), .pointer (some ⟨xi, 0, none⟩)] w fun e w' => e = .returned (.bool (reachB ll a i)) ∧ ∃ n, w' = w.drewN n := by
  have hc := hbx.cell 0
  have hci := hbi.cell 0
  have hv' := hv
  obtain ⟨A, cap, rfl, _⟩ := hv
  rw [reachM_len] at hv' hc
  obtain ⟨b1, o1, b2, o2, c2, rfl, _, h1, h1', _, h2⟩ := brow_at hv' ha hi
  simp only [List.getElem?_toArray, List.getElem?_cons_zero] at hc hci
  clear hv' hbx hbi
  generalize reachB ll a i = p at *
  go_enter Try.func27, Try.ntmps27
  go_wp2_with fail
  go_quiet (fail)
  go_wp2
  go_ret
  exact ⟨rfl, _, rfl⟩

/-- where in a row the first node is that reaches i -/
noncomputable def idxOf (ll : List (List Int)) (row : List Int) (i : Nat) : Int := if row.any (fun x => reachB ll x.toNat i) then (row.findIdx (fun x => reachB ll x.toNat i) : Int) else -1
theorem index_any (S T : Nat → Prop) (ll : List (List Int)) (vb v : Value) (row : List Int) (xb xi i : Nat) (w : World) (hbx : Blk w xb 34 #[vb]) (hbi : Blk w xi 3 #[.int .i64 i]) (hv : BRows S w vb (reachM ll)) (hr : Ints T w v row)
    (hrow : ∀ x ∈ row, ∃ n : Nat, x = n ∧ n < ll.length) (hlen : row.length ≤ 256) (hi : i < ll.length) (hl : ll.length ≤ 256) :
    Calls Try.prog 34 #[v, .func (.func 27) #[] #[.pointer (some ⟨xb, 0, none⟩), .pointer (some ⟨xi, 0, none⟩)]] w fun e w' => e = .returned (.int .i64 (idxOf ll row i)) ∧ ∃ n, w' = w.drewN n := by
  have hcall := fun a (ha : a < ll.length) n => been_any S ll vb xb xi a i (w.drewN n) hbx hbi hv ha hi hl
  obtain ⟨a, cap, rfl, h1, h2, _, h⟩ := hr
  have H := Lib.hid (And.intro h (And.intro hrow hcall))
  clear h hrow hcall hbx hbi hv
  go_enter Try.func34, Try.ntmps34
  go_wp2
  go_loopg [8] row.length (fun g x wr => ∃ k n : Nat, k ≤ row.length ∧ g = row.length - k ∧ x = .int .i64 k ∧ wr = w.drewN n ∧ ∀ y ∈ row.take k, reachB ll y.toNat i = false)
  case atStart => exact ⟨0, 0, by omega, by omega, rfl, rfl, by simp⟩
  case round =>
    obtain ⟨k, n, hk, rfl, rfl, rfl, hno⟩ := hrel
    have HN := Lib.hid hno
    clear hno
    by_cases hlt : k < row.length
    · obtain ⟨b, off, c, rfl, hs, hc, rfl, hw⟩ := H.out.1 k row[k] (List.getElem?_eq_getElem hlt)
      obtain ⟨j, hj, hjl⟩ := H.out.2.1 row[k] (List.getElem_mem hlt)
      have hcall := H.out.2.2 j hjl n
      have HJ := Lib.hid hj
      rw [hj] at hc
      clear hj
      cases hp : reachB ll j i with
      | true =>
        rw [hp] at hcall
        have HC := Lib.hid (And.intro hcall hp)
        clear hcall hp
        go_wp2_with (go_at_call 27; refine HC.out.1.mono ?_; rintro e w' ⟨rfl, n', rfl⟩)
        go_ret
        refine ⟨?_, _, rfl⟩
        have hp : reachB ll (row[k]).toNat i = true := by rw [HJ.out]; exact HC.out.2
        have h1 : row.any (fun x => reachB ll x.toNat i) = true := List.any_eq_true.2 ⟨_, List.getElem_mem hlt, hp⟩
        have h2 : row.findIdx (fun x => reachB ll x.toNat i) = k := by
          rw [List.findIdx_eq hlt]
          refine ⟨hp, fun m hm => ?_⟩
          exact HN.out _ (List.mem_take_iff_getElem.2 ⟨m, by omega, rfl⟩)
        unfold idxOf
        rw [if_pos h1, h2]; rfl
      | false =>
        rw [hp] at hcall
        have HC := Lib.hid (And.intro hcall hp)
        clear hcall hp
        go_wp2_with (go_at_call 27; refine HC.out.1.mono ?_; rintro e w' ⟨rfl, n', rfl⟩)
        go_roundg (row.length - (k + 1))
        case measure => omega
        case rel =>
          refine ⟨k + 1, n + n', by omega, rfl, by go_num, rfl, fun y hy => ?_⟩
          rw [List.take_add_one, List.getElem?_eq_getElem hlt, HJ.out] at hy
          rcases List.mem_append.1 hy with hy | hy
          · exact HN.out y hy
          · rw [show y = (j : Int) by simpa using hy]; exact HC.out.2
    · have hkl : k = row.length := by omega
      go_wp2
      go_ret
      refine ⟨?_, _, rfl⟩
      have hno := HN.out
      rw [hkl, List.take_length] at hno
      have h1 : row.any (fun x => reachB ll x.toNat i) = false := List.any_eq_false.2 fun x hx => by rw [hno x hx]; simp
      unfold idxOf
      rw [h1]; rfl

theorem idxOf_nonneg (ll : List (List Int)) (row : List Int) (i : Nat) : decide (0 ≤ idxOf ll row i) = row.any (fun x => reachB ll x.toNat i) := by
  unfold idxOf
  cases row.any (fun x => reachB ll x.toNat i) <;> simp
theorem has_any (S T : Nat → Prop) (ll : List (List Int)) (vb v : Value) (row : List Int) (xb xi i : Nat) (w : World) (hbx : Blk w xb 34 #[vb]) (hbi : Blk w xi 3 #[.int .i64 i]) (hv : BRows S w vb (reachM ll)) (hr : Ints T w v row)
    (hrow : ∀ x ∈ row, ∃ n : Nat, x = n ∧ n < ll.length) (hlen : row.length ≤ 256) (hi : i < ll.length) (hl : ll.length ≤ 256) :
    Calls Try.prog 26 #[v, .func (.func 27) #[] #[.pointer (some ⟨xb, 0, none⟩), .pointer (some ⟨xi, 0, none⟩)]] w fun e w' => e = .returned (.bool (row.any (fun x => reachB ll x.toNat i))) ∧ ∃ n, w' = w.drewN n := by
  have hcall := index_any S T ll vb v row xb xi i w hbx hbi hv hr hrow hlen hi hl
  have hn := idxOf_nonneg ll row i
  have H := Lib.hid hcall
  have HN := Lib.hid hn
  obtain ⟨a, cap, rfl, h1, h2, _, h⟩ := hr
  clear h hrow hcall hbx hbi hv hn
  generalize idxOf ll row i = y at *
  go_enter Try.func26, Try.ntmps26
  go_wp2_with (go_at_call 34; refine H.out.mono ?_; rintro e w' ⟨rfl, n', rfl⟩)
  go_ret
  exact ⟨by rw [← HN.out]; rfl, _, rfl⟩
end Go.Proofs.Ytjfonoiclndgnaa
