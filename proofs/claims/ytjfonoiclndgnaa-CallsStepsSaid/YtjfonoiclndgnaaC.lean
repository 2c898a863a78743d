/- What interdictref10.Right and Same answer. No condition. -/
import Derived.Test.YtjfonoiclndgnaaB
namespace Go.Proofs.Ytjfonoiclndgnaa
open Go.RowKit

theorem nodup_len (n : Nat) : ∀ (row : List Int), (∀ k ∈ row, 0 ≤ k ∧ k < n) → row.Nodup → row.length ≤ n := by
  induction n with
  | zero => intro row h _; cases row with
            | nil => simp
            | cons x l => have := h x (by simp); omega
  | succ n ih =>
    intro row h hd
    by_cases hm : (n : Int) ∈ row
    · have h1 := ih (row.erase n) (fun k hk => by
        have h2 := (List.Nodup.mem_erase_iff hd).1 hk
        have := h k h2.2
        have : k ≠ n := h2.1
        omega) (hd.erase _)
      have := List.length_erase_of_mem hm
      omega
    · have := ih row (fun k hk => by
        have h1 := h k hk
        have : k ≠ n := fun e => hm (e ▸ hk)
        omega) hd
      omega
theorem no_dup_long {row : List Int} {n : Nat} (h : RowOk n row) : row.length ≤ n := nodup_len n row h.1 h.2

theorem refright_any (S : Nat → Prop) (v : Value) (ll : List (List Int)) (w : World) (hv : Rows S w v ll) :
    Calls Try.prog 23 #[v] w fun e w' => e = .returned (.bool (decide (RightP ll))) ∧ Kept All w w' := by
  obtain ⟨a, cap, rfl, h1, h2, _, h⟩ := hv
  unfold maxLen at h2
  have H := Lib.hid h
  have hl : ll.length ≤ 9223372036854775807 := by omega
  clear h h1 h2
  by_cases hn1 : ll.length < 1
  · have hR : ¬ RightP ll := fun h => by have := h.1; omega
    rw [decide_eq_false hR]
    go_enter Try.func23, Try.ntmps23
    go_wp2
    go_ret
    exact ⟨rfl, Kept.refl _ _⟩
  by_cases hn2 : 256 < ll.length
  · have hR : ¬ RightP ll := fun h => by have := h.2.1; omega
    rw [decide_eq_false hR]
    go_enter Try.func23, Try.ntmps23
    go_wp2
    go_ret
    exact ⟨rfl, Kept.refl _ _⟩
  have d1 : decide ((ll.length : Int) < 1) = false := by simp; omega
  have d2 : decide ((256 : Int) < (ll.length : Int)) = false := by simp; omega
  have hle : ll.length ≤ 256 := by omega
  go_enter Try.func23, Try.ntmps23
  go_wp2
  go_loopg [3] ll.length (fun g i wr => ∃ k : Nat, k ≤ ll.length ∧ g = ll.length - k ∧ i = .int .i64 k ∧ (∀ row ∈ ll.take k, RowOk ll.length row) ∧ Kept All w wr)
  case atStart => exact ⟨0, by omega, by omega, rfl, by simp, Kept.refl _ _⟩
  case round =>
    obtain ⟨k, hk, rfl, rfl, hok, hkept⟩ := hrel
    by_cases hlt : k < ll.length
    · obtain ⟨b1, o1, c1, rfl, hs1, hc1, he⟩ := H.out k ll[k] (List.getElem?_eq_getElem hlt)
      obtain ⟨ra, rcap, rfl, r1, r2, _, rh⟩ := he
      have hd1 := hkept.cell (p := ⟨b1, o1 + k, none⟩) trivial hc1
      have RH := Lib.hid rh
      have hstep : RowOk ll.length ll[k] → ∀ row ∈ ll.take (k + 1), RowOk ll.length row := fun h => all_step hlt hok h
      have hbad : ¬ RowOk ll.length ll[k] → ¬ RightP ll := fun h h' => h (h'.2.2 _ (List.getElem_mem hlt))
      have Hstep := Lib.hid hstep
      have Hbad := Lib.hid hbad
      unfold maxLen at r2
      have hr : ll[k].length ≤ 9223372036854775807 := by omega
      have Hc1 := Lib.hid hc1
      clear hc1 rh hok hstep hbad r1 r2
      generalize ll[k] = row at *
      by_cases hlong : 256 < row.length
      · have hR : ¬ RowOk ll.length row := fun h => by have := no_dup_long h; omega
        have HR := Lib.hid hR
        clear hR
        go_wp2
        go_ret
        exact ⟨by rw [decide_eq_false (Hbad.out HR.out)]; rfl, hkept⟩
      go_wp2
      obtain ⟨wo, rfl⟩ : ∃ wo : World, wo = wr := ⟨_, rfl⟩
      clear hd1
      go_loopg [4] row.length (fun g i wr => ∃ m : Nat, m ≤ row.length ∧ g = row.length - m ∧ i = .int .i64 m ∧ RowOk ll.length (row.take m) ∧ Kept All w wr)
      case atStart => exact ⟨0, by omega, by omega, rfl, ⟨by simp, by simp⟩, hkept⟩
      case round =>
        obtain ⟨m, hm, rfl, rfl, hrok, hkept2⟩ := hrel
        have hd1 := hkept2.cell (p := ⟨b1, o1 + k, none⟩) trivial Hc1.out
        by_cases hlt2 : m < row.length
        · obtain ⟨b2, o2, c2, rfl, hs2, hc2, rfl, hwf⟩ := RH.out m row[m] (List.getElem?_eq_getElem hlt2)
          have hd2 := hkept2.cell (p := ⟨b2, o2 + m, none⟩) trivial hc2
          have hst := rowOk_step hlt2 hrok
          have hrk : RowOk ll.length row → RowOk ll.length (row.take (m + 1)) := rowOk_take
          have HF := Lib.hid (And.intro hst hrk)
          have Hc2 := Lib.hid hc2
          clear hst hrk hc2
          obtain ⟨y1, y2⟩ := wf_bd hwf
          generalize row[m] = y at *
          have hbad2 : ¬ ((0 ≤ y ∧ y < (ll.length : Int)) ∧ y ∉ row.take m) → ¬ RightP ll := fun h => Hbad.out fun hr => h (HF.out.1.1 (HF.out.2 hr))
          have Hbad2 := Lib.hid hbad2
          have Hrok := Lib.hid hrok
          clear hbad2 hrok
          by_cases hy0 : y < 0
          · go_wp2
            go_ret
            exact ⟨by rw [decide_eq_false (Hbad2.out (by omega))]; rfl, hkept2⟩
          have dy0 : decide (y < 0) = false := by simp; omega
          by_cases hy1 : (ll.length : Int) ≤ y
          · go_wp2
            go_ret
            exact ⟨by rw [decide_eq_false (Hbad2.out (by omega))]; rfl, hkept2⟩
          have dy1 : decide ((ll.length : Int) ≤ y) = false := by simp; omega
          go_wp2
          obtain ⟨wp, rfl⟩ : ∃ wp : World, wp = wr := ⟨_, rfl⟩
          clear hd1 hd2
          go_loopg [5] m (fun g i wr => ∃ j : Nat, j ≤ m ∧ g = m - j ∧ i = .int .i64 j ∧ y ∉ row.take j ∧ Kept All w wr)
          case atStart => exact ⟨0, by omega, by omega, rfl, by simp, hkept2⟩
          case round =>
            obtain ⟨j, hj, rfl, rfl, hno, hkept3⟩ := hrel
            have hd1 := hkept3.cell (p := ⟨b1, o1 + k, none⟩) trivial Hc1.out
            have hd2 := hkept3.cell (p := ⟨b2, o2 + m, none⟩) trivial Hc2.out
            by_cases hlt3 : j < m
            · obtain ⟨b3, o3, c3, hbo, hs3, hc3, rfl, hwf3⟩ := RH.out j row[j] (List.getElem?_eq_getElem (by omega))
              cases hbo
              have hd3 := hkept3.cell (p := ⟨b2, o2 + j, none⟩) trivial hc3
              have htk : row.take (j + 1) = row.take j ++ [row[j]] := by rw [List.take_add_one, List.getElem?_eq_getElem (by omega)]; rfl
              have hmem : row[j] ∈ row.take m := by
                rw [List.mem_take_iff_getElem]; exact ⟨j, by omega, rfl⟩
              have HG := Lib.hid (And.intro htk (And.intro hmem hno))
              clear htk hmem hno hc3
              generalize row[j] = z at *
              by_cases hz : z = y
              · have hz' : (z == y) = true := by simpa using hz
                have Hz := Lib.hid hz
                clear hz
                go_wp2
                go_quiet (fail)
                go_wp2
                go_ret
                exact ⟨by rw [decide_eq_false (Hbad2.out (fun h => h.2 (Hz.out ▸ HG.out.2.1)))]; rfl, by repeat (first | assumption | apply Kept.drewN | apply Kept.drew)⟩
              · have hz' : (z == y) = false := by simpa using hz
                have Hz := Lib.hid hz
                clear hz
                go_wp2
                go_quiet (fail)
                go_wp2
                go_roundg (m - (j + 1))
                case measure => omega
                case rel => exact ⟨j + 1, by omega, rfl, by go_num, by rw [HG.out.1]; simp [HG.out.2.2]; exact fun e => Hz.out e.symm, by repeat (first | assumption | apply Kept.drewN | apply Kept.drew)⟩
            · have hjm : j = m := by omega
              have hnew : RowOk ll.length (row.take (m + 1)) := HF.out.1.2 ⟨by omega, by rw [← hjm]; exact hno⟩
              have Hnew := Lib.hid hnew
              clear hnew hno hjm
              go_wp2
              go_roundg (row.length - (m + 1))
              case measure => omega
              case rel => exact ⟨m + 1, by omega, rfl, by go_num, Hnew.out, hkept3⟩
        · have hml : m = row.length := by omega
          have Hrok := Lib.hid hrok
          have Hml := Lib.hid hml
          clear hrok hml
          go_wp2
          go_roundg (ll.length - (k + 1))
          case measure => omega
          case rel => exact ⟨k + 1, by omega, rfl, by go_num, Hstep.out (by have := Hrok.out; rwa [Hml.out, List.take_length] at this), hkept2⟩
    · have hkl : k = ll.length := by omega
      have hR : RightP ll := ⟨by omega, by omega, by rw [hkl, List.take_length] at hok; exact hok⟩
      have HR := Lib.hid hR
      clear hR hok hkl
      go_wp2
      go_ret
      exact ⟨by rw [decide_eq_true HR.out]; rfl, hkept⟩

theorem same_any (S T : Nat → Prop) (va vb : Value) (la lb : List (List Int)) (w : World) (ha : Rows S w va la) (hb : Rows T w vb lb) :
    Calls Try.prog 7 #[va, vb] w fun e w' => e = .returned (.bool (decide (la = lb))) ∧ Kept All w w' := by
  obtain ⟨a, cap, rfl, h1, h2, _, h⟩ := ha
  obtain ⟨b, cap', rfl, h3, h4, _, h'⟩ := hb
  unfold maxLen at h2 h4
  have hl : la.length ≤ 9223372036854775807 := by omega
  have hl' : lb.length ≤ 9223372036854775807 := by omega
  have H := Lib.hid h
  have H' := Lib.hid h'
  clear h h' h1 h2 h3 h4
  by_cases hlen : la.length = lb.length
  · have Hlen := Lib.hid hlen
    have hle : la.length ≤ lb.length := by omega
    have hne : (la.length != lb.length) = false := by simpa using hlen
    clear hlen
    go_enter Try.func7, Try.ntmps7
    go_wp2
    go_loopg [5] la.length (fun g i wr => ∃ k : Nat, k ≤ la.length ∧ g = la.length - k ∧ i = .int .i64 k ∧ la.take k = lb.take k ∧ Kept All w wr)
    case atStart => exact ⟨0, by omega, by omega, rfl, by simp, Kept.refl _ _⟩
    case round =>
      obtain ⟨k, hk, rfl, rfl, htk, hkept⟩ := hrel
      by_cases hlt : k < la.length
      · have hlt' : k < lb.length := by omega
        obtain ⟨b1, o1, c1, rfl, hs1, hc1, ra, rcap, rfl, r1, r2, _, rh⟩ := H.out k la[k] (List.getElem?_eq_getElem hlt)
        obtain ⟨b2, o2, c2, rfl, hs2, hc2, rb, rcap', rfl, r3, r4, _, rh'⟩ := H'.out k lb[k] (List.getElem?_eq_getElem hlt')
        have hd1 := hkept.cell (p := ⟨b1, o1 + k, none⟩) trivial hc1
        have hd2 := hkept.cell (p := ⟨b2, o2 + k, none⟩) trivial hc2
        have hst := take_same hlt hlt' htk
        have hall : la[k] ≠ lb[k] → la ≠ lb := fun h e => h (by subst e; rfl)
        have HF := Lib.hid (And.intro hst hall)
        have RH := Lib.hid rh
        have RH' := Lib.hid rh'
        have Hc1 := Lib.hid hc1
        have Hc2 := Lib.hid hc2
        unfold maxLen at r2 r4
        have hr : la[k].length ≤ 9223372036854775807 := by omega
        have hr' : lb[k].length ≤ 9223372036854775807 := by omega
        clear hc1 hc2 htk hst hall rh rh' r1 r2 r3 r4
        generalize la[k] = x at *
        generalize lb[k] = y at *
        by_cases hxy : x.length = y.length
        · have Hxy := Lib.hid hxy
          have hxle : x.length ≤ y.length := by omega
          have hxne : ((x.length : Int) != (y.length : Int)) = false := by rw [bne_eq_false_iff_eq]; omega
          clear hxy
          go_wp2
          go_quiet (fail)
          go_wp2
          go_loopg [6] x.length (fun g i wr => ∃ m : Nat, m ≤ x.length ∧ g = x.length - m ∧ i = .int .i64 m ∧ x.take m = y.take m ∧ Kept All w wr)
          case atStart => exact ⟨0, by omega, by omega, rfl, by simp, by repeat (first | assumption | apply Kept.drewN | apply Kept.drew)⟩
          case round =>
            clear hd1 hd2 hkept
            obtain ⟨m, hm, rfl, rfl, htk2, hkept2⟩ := hrel
            have hd1 := hkept2.cell (p := ⟨b1, o1 + k, none⟩) trivial Hc1.out
            have hd2 := hkept2.cell (p := ⟨b2, o2 + k, none⟩) trivial Hc2.out
            by_cases hlt2 : m < x.length
            · have hlt2' : m < y.length := by omega
              obtain ⟨b3, o3, c3, rfl, hs3, hc3, rfl, hw3⟩ := RH.out m x[m] (List.getElem?_eq_getElem hlt2)
              obtain ⟨b4, o4, c4, rfl, hs4, hc4, rfl, hw4⟩ := RH'.out m y[m] (List.getElem?_eq_getElem hlt2')
              have hd3 := hkept2.cell (p := ⟨b3, o3 + m, none⟩) trivial hc3
              have hd4 := hkept2.cell (p := ⟨b4, o4 + m, none⟩) trivial hc4
              have hst2 := take_same hlt2 hlt2' htk2
              have hall2 : x[m] ≠ y[m] → x ≠ y := fun h e => h (by subst e; rfl)
              have HG := Lib.hid (And.intro hst2 hall2)
              clear hc3 hc4 htk2 hst2 hall2
              generalize x[m] = p at *
              generalize y[m] = q at *
              by_cases hpq : p = q
              · have hpq' : (p != q) = false := by simpa using hpq
                have Hpq := Lib.hid hpq
                clear hpq
                go_wp2
                go_quiet (fail)
                go_wp2
                go_roundg (x.length - (m + 1))
                case measure => omega
                case rel => exact ⟨m + 1, by omega, rfl, by go_num, HG.out.1.2 Hpq.out, by repeat (first | assumption | apply Kept.drewN | apply Kept.drew)⟩
              · have hpq' : (p != q) = true := by simpa using hpq
                have Hpq := Lib.hid hpq
                clear hpq
                go_wp2
                go_quiet (fail)
                go_wp2
                go_ret
                exact ⟨by rw [decide_eq_false (HF.out.2 (HG.out.2 Hpq.out))]; rfl, by repeat (first | assumption | apply Kept.drewN | apply Kept.drew)⟩
            · have hml : m = x.length := by omega
              have HG := Lib.hid (And.intro htk2 hml)
              clear htk2 hml
              go_wp2
              go_roundg (la.length - (k + 1))
              case measure => omega
              case rel => exact ⟨k + 1, by omega, rfl, by go_num, HF.out.1.2 (by have := HG.out.1; rwa [HG.out.2, List.take_length, Hxy.out, List.take_length] at this), hkept2⟩
        · have hxne : ((x.length : Int) != (y.length : Int)) = true := by rw [bne_iff_ne]; omega
          have Hxy := Lib.hid hxy
          clear hxy
          go_wp2
          go_quiet (fail)
          go_wp2
          go_ret
          exact ⟨by rw [decide_eq_false (HF.out.2 fun e => Hxy.out (by rw [e]))]; rfl, by repeat (first | assumption | apply Kept.drewN | apply Kept.drew)⟩
      · have hkl : k = la.length := by omega
        have HF := Lib.hid (And.intro htk hkl)
        clear htk hkl
        go_wp2
        go_ret
        exact ⟨by have := HF.out.1; rw [HF.out.2, List.take_length, Hlen.out, List.take_length] at this; simp [this], hkept⟩
  · have hne : (la.length != lb.length) = true := by simpa using hlen
    have Hlen := Lib.hid hlen
    clear hlen
    go_enter Try.func7, Try.ntmps7
    go_wp2
    go_ret
    exact ⟨by rw [decide_eq_false (fun e => Hlen.out (by rw [e]))]; rfl, Kept.refl _ _⟩
end Go.Proofs.Ytjfonoiclndgnaa
