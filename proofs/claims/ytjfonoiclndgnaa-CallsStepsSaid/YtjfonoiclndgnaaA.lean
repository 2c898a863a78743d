/- Contracts of small readers: interdictref09.Ints, interdictref11.In. -/
import Derived.Test.YtjfonoiclndgnaaRows
import Derived.Test.YtjfonoiclndgnaaMem
namespace Go.Proofs.Ytjfonoiclndgnaa
open Go.RowKit

theorem in_any (S : Nat → Prop) (va : Value) (la : List Int) (x : Int) (w : World) (ha : Ints S w va la) :
    Calls Try.prog 18 #[va, .int .i64 x] w fun e w' => e = .returned (.bool (decide (x ∈ la))) ∧ w = w' := by
  obtain ⟨a, cap, rfl, h1, h2, _, h⟩ := ha
  unfold maxLen at h2
  have hl : la.length ≤ 9223372036854775807 := by omega
  have H := Lib.hid h
  clear h
  go_enter Try.func18, Try.ntmps18
  go_wp2
  go_loop [5] (fun i => ∃ k : Nat, k ≤ la.length ∧ i = .int .i64 k ∧ x ∉ la.take k) (fun i => la.length - (intOf i).toNat)
  case atStart => exact ⟨0, by omega, rfl, by simp⟩
  case round =>
    obtain ⟨k, hk, rfl, hno⟩ := hrel
    by_cases hlt : k < la.length
    · obtain ⟨b, off, c, rfl, hs, hc, rfl, hw⟩ := H.out k la[k] (List.getElem?_eq_getElem hlt)
      have Hno := Lib.hid hno
      have htk : la.take (k + 1) = la.take k ++ [la[k]] := by rw [List.take_add_one, List.getElem?_eq_getElem hlt]; rfl
      have Htk := Lib.hid htk
      have hmem : la[k] ∈ la := List.getElem_mem hlt
      have Hmem := Lib.hid hmem
      clear hno htk hmem
      generalize la[k] = y at *
      by_cases hy : y = x
      · have hy' : (y == x) = true := by simpa using hy
        have Hy := Lib.hid hy
        clear hy
        go_wp2
        go_ret
        exact ⟨by rw [← Hy.out]; simp [Hmem.out], rfl⟩
      · have hy' : (y == x) = false := by simpa using hy
        have Hy := Lib.hid hy
        clear hy
        go_wp2
        go_round
        case rel => exact ⟨k + 1, by omega, by go_num, by rw [Htk.out]; simp [Hno.out]; exact fun e => Hy.out e.symm⟩
        case measure => simp [intOf]; omega
    · have hkl : k = la.length := by omega
      have Hno := Lib.hid hno
      have Hkl := Lib.hid hkl
      clear hno hkl
      go_wp2
      go_ret
      exact ⟨by have := Hno.out; rw [Hkl.out, List.take_length] at this; simp [this], rfl⟩
theorem ints_any (S T : Nat → Prop) (va vb : Value) (la lb : List Int) (w : World) (ha : Ints S w va la) (hb : Ints T w vb lb) :
    Calls Try.prog 12 #[va, vb] w fun e w' => e = .returned (.bool (decide (la = lb))) ∧ Kept All w w' := by
  obtain ⟨a, cap, rfl, h1, h2, _, h⟩ := ha
  obtain ⟨b, cap', rfl, h3, h4, _, h'⟩ := hb
  unfold maxLen at h2 h4
  have hl : la.length ≤ 9223372036854775807 := by omega
  have hl' : lb.length ≤ 9223372036854775807 := by omega
  have H := Lib.hid h
  have H' := Lib.hid h'
  clear h h' h1 h2 h3 h4
  by_cases hlen : la.length = lb.length
  · have Hlen := Lib.hid hlen
    have hle : la.length ≤ lb.length := by omega
    have hne : (la.length != lb.length) = false := by simpa using hlen
    clear hlen
    go_enter Try.func12, Try.ntmps12
    go_wp2
    go_loopw [5] (fun i wr => ∃ k : Nat, k ≤ la.length ∧ i = .int .i64 k ∧ la.take k = lb.take k ∧ Kept All w wr) (fun i _ => la.length - (intOf i).toNat)
    case atStart => exact ⟨0, by omega, rfl, by simp, Kept.refl _ _⟩
    case round =>
      obtain ⟨k, hk, rfl, htk, hkept⟩ := hrel
      by_cases hlt : k < la.length
      · have hlt' : k < lb.length := by omega
        obtain ⟨b1, o1, c1, rfl, hs1, hc1, rfl, hw1⟩ := H.out k la[k] (List.getElem?_eq_getElem hlt)
        obtain ⟨b2, o2, c2, rfl, hs2, hc2, rfl, hw2⟩ := H'.out k lb[k] (List.getElem?_eq_getElem hlt')
        have hd1 := hkept.cell (p := ⟨b1, o1 + k, none⟩) trivial hc1
        have hd2 := hkept.cell (p := ⟨b2, o2 + k, none⟩) trivial hc2
        have hst := take_same hlt hlt' htk
        have Htk := Lib.hid htk
        have Hst := Lib.hid hst
        have hall : la[k] ≠ lb[k] → la ≠ lb := fun h e => h (by subst e; rfl)
        have Hall := Lib.hid hall
        clear hc1 hc2 htk hst hall
        generalize la[k] = x at *
        generalize lb[k] = y at *
        by_cases hy : x = y
        · have hy' : (x != y) = false := by simpa using hy
          have Hy := Lib.hid hy
          clear hy
          go_wp2
          go_quiet (fail)
          go_wp2
          go_roundw
          case rel => exact ⟨k + 1, by omega, by go_num, Hst.out.2 Hy.out, by repeat (first | assumption | apply Kept.drewN | apply Kept.drew)⟩
          case measure => simp [intOf]; omega
        · have hy' : (x != y) = true := by simpa using hy
          have Hy := Lib.hid hy
          clear hy
          go_wp2
          go_quiet (fail)
          go_wp2
          go_ret
          exact ⟨by rw [decide_eq_false (Hall.out Hy.out)]; rfl, by repeat (first | assumption | apply Kept.drewN | apply Kept.drew)⟩
      · have hkl : k = la.length := by omega
        have Htk := Lib.hid htk
        have Hkl := Lib.hid hkl
        clear htk hkl
        go_wp2
        go_ret
        exact ⟨by have := Htk.out; rw [Hkl.out, List.take_length, Hlen.out, List.take_length] at this; simp [this], hkept⟩
  · have hne : (la.length != lb.length) = true := by simpa using hlen
    have Hlen := Lib.hid hlen
    clear hlen
    go_enter Try.func12, Try.ntmps12
    go_wp2
    go_ret
    exact ⟨by rw [decide_eq_false (fun e => Hlen.out (by rw [e]))]; rfl, Kept.refl _ _⟩
end Go.Proofs.Ytjfonoiclndgnaa
