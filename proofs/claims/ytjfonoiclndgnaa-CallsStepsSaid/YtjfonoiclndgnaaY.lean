/- The law CallsOrder walked: true, whatever graph comes in. No condition. -/
import Derived.Test.YtjfonoiclndgnaaX
import Derived.Test.YtjfonoiclndgnaaV
import Derived.Deep.RegionWith
import Derived.Deep.CutRange
namespace Go.Proofs.Ytjfonoiclndgnaa
open Go.RowKit

theorem at_start' {ll : List (List Int)} {f : Nat → Int} (h : ∀ v, v < ll.length → f v = -1) : AtInv ll f 0 0 := fun v j g hv hj hm =>
  ⟨fun h1 => by
    rcases h1 with h1 | ⟨_, h1⟩
    · omega
    · simp at h1, fun _ => h v hv⟩
/-- graph.Reached, and one place of what it answers -/
theorem reached_at (S : Nat → Prop) (v : Value) (ll : List (List Int)) (f b : Nat) (w0 w : World) (hv : Rows S w0 v ll) (hR : RightP ll) (hf : f < ll.length) (hb : b < ll.length) (hk0 : Kept All w0 w) :
    Calls Try.prog 16 #[v, .int .i64 f] w fun e w' => ∃ g o c, e = .returned (.slice (some ⟨g, o, none⟩) ll.length c) ∧ g < w'.heap.size ∧ w'.cell? ⟨g, o + b, none⟩ = some (.bool (reachB ll f b)) ∧
      (∀ x y, x < w.heap.size → w'.cell? ⟨x, y, none⟩ = w.cell? ⟨x, y, none⟩) ∧ Kept All w0 w' := by
  refine (reached_any S v ll f w (goodRows.keep hk0.all hv) hR hf).mono ?_
  rintro e w' ⟨u, rfl, hk, A, cap, rfl, _, _, _, h⟩
  obtain ⟨g, o, c, rfl, hs, hc, rfl⟩ := h b _ (reachL_at hb)
  refine ⟨g, o, cap, by rw [reachL_len], World.block_lt_of_cell? w' _ hc, hc, fun x y hx => ?_, hk0.trans hk⟩
  exact World.cell?_of_block (hk.block x hx trivial)

set_option maxRecDepth 100000 in
set_option maxHeartbeats 2000000 in
theorem law_order (S : Nat → Prop) (v : Value) (ll : List (List Int)) (w : World) (hv : Rows S w v ll) : Calls Try.prog 5 #[v] w fun e w' => e = .returned (.bool true) ∧ Kept All w w' := by
  have hv' := hv
  obtain ⟨A, cap, rfl, h1, h2, hbw, h⟩ := hv
  unfold maxLen at h2
  have HV := Lib.hid hv'
  clear hv' h
  by_cases hlong : 25 < ll.length
  · have hlong' : decide ((25 : Int) < ll.length) = true := by simp; omega
    go_enter Try.func5, Try.ntmps5
    go_wp2_with fail
    refine (awake_any w).mono ?_
    rintro e w1 ⟨rfl, hk⟩
    have HK := Lib.hid hk
    clear hk
    go_wp2_with fail
    go_ret
    exact ⟨rfl, HK.out⟩
  have hlong' : decide ((25 : Int) < ll.length) = false := by simp; omega
  have hright := right_any S _ ll w HV.out
  by_cases hR : ¬ RightP ll
  · rw [decide_eq_false hR] at hright
    have HR := Lib.hid hright
    clear hright
    go_enter Try.func5, Try.ntmps5
    go_wp2_with fail
    refine HR.out.mono ?_
    rintro e w1 ⟨rfl, hk1⟩
    have HK1 := Lib.hid hk1
    clear hk1
    go_wp2_with fail
    refine (awake_any w1).mono ?_
    rintro e w2 ⟨rfl, hk2⟩
    have HK := Lib.hid (HK1.out.trans hk2)
    clear hk2
    go_wp2_with fail
    go_ret
    exact ⟨rfl, HK.out⟩
  replace hR : RightP ll := Decidable.not_not.1 hR
  rw [decide_eq_true hR] at hright
  have hmk := fun w => mk_ints ll.length (by omega) w
  have HR := Lib.hid (And.intro hright hR)
  clear hright hR
  go_enter Try.func5, Try.ntmps5
  go_wp2_with fail
  refine HR.out.1.mono ?_
  rintro e w1 ⟨rfl, hk1⟩
  have HK1 := Lib.hid hk1
  clear hk1
  go_wp2_with fail
  refine (groups_yes _ _ ll w1 (goodRows.keep HK1.out.all HV.out) HR.out.2).mono ?_
  rintro e w2 ⟨u2, rfl, hk2, hr2⟩
  have hall : Rows All w2 u2 (groupsAll ll) := goodRows.wide (fun _ _ => trivial) hr2
  have hsum := groupsAll_sum (ll := ll)
  obtain ⟨A2, c2, rfl, hl2, hm2, -⟩ := hr2
  have hlen : (groupsAll ll).length ≤ 9223372036854775807 := by unfold maxLen at hm2; omega
  obtain ⟨L, hL⟩ : ∃ L, L = groupsAll ll := ⟨_, rfl⟩
  rw [← hL] at hall hsum hlen ⊢
  have H2 := Lib.hid (And.intro (HK1.out.trans hk2) (And.intro hall (And.intro hL hsum)))
  clear hk2 hall hL hsum hl2 hm2
  go_wp2_with fail
  have hN : ll.length ≤ 25 := by omega
  go_loopg [5] ll.length (fun g i wr => ∃ (k : Nat) (f : Nat → Int), k ≤ ll.length ∧ g = ll.length - k ∧ i = .int .i64 k ∧ Kept All w2 wr ∧ Blk wr w2.heap.size 3 (intArr ll.length f) ∧ ∀ v, v < k → f v = -1)
  case atStart => exact ⟨0, _, by omega, by omega, rfl, (Kept.refl _ _).alloc _, Blk.new _ _ _, fun v hv => by omega⟩
  case round =>
    obtain ⟨k, f, hk, rfl, rfl, hkept, hblk, hf⟩ := hrel
    have HF := Lib.hid (And.intro hkept (And.intro hblk hf))
    by_cases hlt : k < ll.length
    · have hcell := hblk.cell k
      rw [intArr_at hlt] at hcell
      have hfree := hblk.free k
      clear hkept hblk hf
      go_wp2_with fail
      go_roundg (ll.length - (k + 1))
      case measure => omega
      case rel =>
        refine ⟨k + 1, setI f k (-1), by omega, rfl, by go_num, HF.out.1.setCell (p := ⟨w2.heap.size, k, none⟩) (.inr (Nat.le_refl _)) _, ?_, fun v hv => ?_⟩
        · rw [← intArr_set]; exact HF.out.2.1.set _ _
        · by_cases e : v = k
          · subst e; exact setI_self _ _ _
          · rw [setI_ne e]; exact HF.out.2.2 v (by omega)
    · obtain rfl : k = ll.length := by omega
      have hat : AtInv ll f 0 0 := at_start' (fun v hv => hf v (by omega))
      have HA := Lib.hid (And.intro hkept (And.intro hblk hat))
      clear hkept hblk hf hat HF hlt hk
      go_wp2_with fail
      obtain ⟨w3, rfl⟩ : ∃ w3 : World, w3 = wr := ⟨_, rfl⟩
      go_loopg [6, 7] L.length (fun g n i wr => ∃ (k : Nat) (f : Nat → Int), k ≤ L.length ∧ g = L.length - k ∧ i = .int .i64 k ∧ n = .int .i64 ((L.take k).flatten.length : Nat) ∧ Kept All w2 wr ∧ Blk wr w2.heap.size 3 (intArr ll.length f) ∧ AtInv ll f k 0)
      case atStart => exact ⟨0, f, by omega, by omega, rfl, by simp, HA.out.1, HA.out.2.1, HA.out.2.2⟩
      case round =>
        clear HA
        obtain ⟨i, f, hi, rfl, rfl, rfl, hkept, hblk, hat⟩ := hrel
        by_cases hlt : i < L.length
        · have HG := Lib.hid (And.intro hkept (And.intro hblk hat))
          obtain ⟨gg, hgi⟩ : ∃ gg, L[i]? = some gg := ⟨_, List.getElem?_eq_getElem hlt⟩
          have hgG : (groupsAll ll)[i]? = some gg := H2.out.2.2.1 ▸ hgi
          have hnext := sum_next hgi
          have hle := sum_le hgi
          rw [H2.out.2.2.2] at hle
          have hnodes : ∀ x ∈ gg, ∃ n : Nat, x = n ∧ n < ll.length := fun x hx => groups_nodes _ _ gg (List.mem_of_getElem? hgG) x hx
          obtain ⟨A', cc, hv, _, _, _, hrow⟩ := H2.out.2.1
          cases hv
          obtain ⟨b1, o1, c1, rfl, hs1, hc1, he⟩ := hrow i gg hgi
          obtain ⟨A3, c3, rfl, r1, r2, _, rh⟩ := he
          have hc1' := hkept.cell (p := ⟨b1, o1 + i, none⟩) trivial hc1
          have hgl : gg.length ≤ 25 := by omega
          have HROW := Lib.hid (And.intro hnext (And.intro hgG (And.intro hnodes (And.intro rh hc1))))
          clear hnext hnodes rh hc1 hrow hkept hblk hat r1 r2 hgi hgG
          generalize hs : (List.take i L).flatten.length = s at *
          have HS := Lib.hid hs
          clear hs
          go_wp2_with fail
          clear hc1'
          obtain ⟨wo, rfl⟩ : ∃ wo : World, wo = wr := ⟨_, rfl⟩
          go_loopg [6, 8] gg.length (fun g n kk wr => ∃ (k : Nat) (f : Nat → Int), k ≤ gg.length ∧ g = gg.length - k ∧ kk = .int .i64 k ∧ n = .int .i64 ((s + k : Nat) : Int) ∧ Kept All w2 wr ∧ Blk wr w2.heap.size 3 (intArr ll.length f) ∧ AtInv ll f i k)
          case atStart => exact ⟨0, f, by omega, by omega, rfl, rfl, HG.out.1, HG.out.2.1, HG.out.2.2⟩
          case round =>
            clear HG
            obtain ⟨k, f, hk, rfl, rfl, rfl, hkept, hblk, hat⟩ := hrel
            have hc1 := hkept.cell (p := ⟨b1, o1 + i, none⟩) trivial HROW.out.2.2.2.2
            have HG := Lib.hid (And.intro hkept (And.intro hblk hat))
            by_cases hlt2 : k < gg.length
            · obtain ⟨b2, o2, c2, rfl, hs2, hc2, rfl, hwf⟩ := HROW.out.2.2.2.1 k gg[k] (List.getElem?_eq_getElem hlt2)
              have hd2 := hkept.cell (p := ⟨b2, o2 + k, none⟩) trivial hc2
              obtain ⟨q, hq, hql⟩ := HROW.out.2.2.1 gg[k] (List.getElem_mem hlt2)
              have hfree1 := at_free hat HROW.out.2.1 hlt2 hq hql
              have hstep := at_step hat HROW.out.2.1 hlt2 hq
              rw [hq] at hd2
              have hcell := hblk.cell q
              rw [intArr_at hql, hfree1] at hcell
              have hfree := hblk.free q
              have HST := Lib.hid hstep
              clear hstep hfree1 hq hc2 hwf hkept hblk hat
              go_wp2_with fail
              go_roundg (gg.length - (k + 1))
              case measure => omega
              case rel =>
                refine ⟨k + 1, setI f q i, by omega, rfl, by go_num, by go_num, HG.out.1.setCell (p := ⟨w2.heap.size, q, none⟩) (.inr (Nat.le_refl _)) _, ?_, HST.out⟩
                rw [← intArr_set]; exact HG.out.2.1.set _ _
            · obtain rfl : k = gg.length := by omega
              clear hkept hblk hat
              go_wp2_with fail
              go_roundg (L.length - (i + 1))
              case measure => omega
              case rel => exact ⟨i + 1, f, by omega, rfl, by go_num, by rw [HROW.out.1], HG.out.1, HG.out.2.1, at_next HG.out.2.2 HROW.out.2.1⟩
        · obtain rfl : i = L.length := by omega
          have hn : (List.take L.length L).flatten.length = ll.length := by rw [List.take_length]; exact H2.out.2.2.2
          rw [hn]
          have hend := fun a b ha hb => at_end (ll := ll) (at_ := f) (by rw [← H2.out.2.2.1]; exact hat) (a := a) (b := b) ha hb
          have HG := Lib.hid (And.intro hkept (And.intro hblk hend))
          have hne : ((ll.length : Int) != (ll.length : Int)) = false := by simp
          have hwo := hblk.lt
          clear hkept hblk hat hn hend hi
          go_wp2_with fail
          clear hne
          obtain ⟨wo, rfl⟩ : ∃ wo : World, wo = wr := ⟨_, rfl⟩
          go_loopg [10] ll.length (fun g i wr => ∃ a : Nat, a ≤ ll.length ∧ g = ll.length - a ∧ i = .int .i64 a ∧ Kept All wo wr)
          case atStart => exact ⟨0, by omega, by omega, rfl, Kept.refl _ _⟩
          case round =>
            obtain ⟨a, ha, rfl, rfl, hka⟩ := hrel
            have HA := Lib.hid hka
            clear hka
            by_cases hal : a < ll.length
            · go_wp2_with fail
              obtain ⟨wp, rfl⟩ : ∃ wp : World, wp = wr := ⟨_, rfl⟩
              go_loopg [11] ll.length (fun g i wr => ∃ b : Nat, b ≤ ll.length ∧ g = ll.length - b ∧ i = .int .i64 b ∧ Kept All wo wr)
              case atStart => exact ⟨0, by omega, by omega, rfl, HA.out⟩
              case round =>
                obtain ⟨b, hb, rfl, rfl, hkb⟩ := hrel
                by_cases hbl : b < ll.length
                · have hrow := goodRows.keep (((H2.out.1.trans HG.out.1).trans hkb).all) HV.out
                  have hr1 := fun wn (hk : Kept All wr wn) => reached_at S _ ll a b wr wn hrow HR.out.2 hal hbl hk
                  have hr2 := fun wn (hk : Kept All wr wn) => reached_at S _ ll b a wr wn hrow HR.out.2 hbl hal hk
                  have HC := Lib.hid (And.intro hr1 hr2)
                  have HB := Lib.hid hkb
                  clear hrow hr1 hr2 hkb
                  go_wp2_with fail
                  go_cut [12, 13] from 90 to 135 (fun p q wx => p = .bool (reachB ll a b) ∧ q = .bool (reachB ll b a) ∧ Kept All wr wx)
                  case first =>
                    go_region_with (first
                      | (go_at_call_of 16 (Value.int IntKind.i64 (a : Int)); refine (HC.out.1 _ (by repeat (first | exact Kept.refl _ _ | assumption | apply Kept.drew | apply Kept.drewN))).mono ?_; rintro e wq ⟨ga, oa, ca, rfl, hla, hca, hoa, hka⟩)
                      | (go_at_call_of 16 (Value.int IntKind.i64 (b : Int)); refine (HC.out.2 _ (by repeat (first | exact Kept.refl _ _ | assumption | apply Kept.drew | apply Kept.drewN))).mono ?_; rintro e wq ⟨gb, ob, cb, rfl, hlb, hcb, hob, hkb⟩))
                    all_goals
                      go_wp2_with fail
                      go_meet
                      exact ⟨rfl, rfl, by repeat (first | exact Kept.refl _ _ | assumption | apply Kept.drew | apply Kept.drewN)⟩
                  case rest =>
                    obtain ⟨rfl, rfl, hkc⟩ := hcut
                    obtain ⟨e1, e2, e3, e4⟩ := HG.out.2.2 a b hal hbl
                    have hkw := (HB.out.trans hkc)
                    have hbw := HG.out.2.1.kept hkw trivial
                    have c1 := hbw.cell a
                    have c2' := hbw.cell b
                    rw [intArr_at hal] at c1
                    rw [intArr_at hbl] at c2'
                    have HK := Lib.hid hkw
                    clear hbw hkw hkc
                    generalize f a = fa at *
                    generalize f b = fb at *
                    generalize reachB ll a b = p at *
                    generalize reachB ll b a = q at *
                    cases hp : p with
                    | true =>
                      subst hp
                      have hle : decide (fa < fb) = false := by have := e4 rfl; simp; omega
                      have hle2 := e4 rfl
                      clear e4
                      cases hq : q with
                      | true =>
                        subst hq
                        have hbe : (fa == fb) = true := e3.symm
                        clear e3
                        go_wp2_with fail
                        go_quiet (fail)
                        go_wp2_with fail
                        go_roundg (ll.length - (b + 1))
                        case measure => omega
                        case rel => exact ⟨b + 1, by omega, rfl, by go_num, by repeat (first | exact HK.out | apply Kept.drew | apply Kept.drewN)⟩
                      | false =>
                        subst hq
                        have hbe : (fa == fb) = false := e3.symm
                        clear e3
                        go_wp2_with fail
                        go_quiet (fail)
                        go_wp2_with fail
                        go_roundg (ll.length - (b + 1))
                        case measure => omega
                        case rel => exact ⟨b + 1, by omega, rfl, by go_num, by repeat (first | exact HK.out | apply Kept.drew | apply Kept.drewN)⟩
                    | false =>
                      subst hp
                      have hbe : (fa == fb) = false := e3.symm
                      clear e3 e4
                      go_wp2_with fail
                      go_quiet (fail)
                      go_wp2_with fail
                      go_roundg (ll.length - (b + 1))
                      case measure => omega
                      case rel => exact ⟨b + 1, by omega, rfl, by go_num, by repeat (first | exact HK.out | apply Kept.drew | apply Kept.drewN)⟩
                · go_wp2_with fail
                  go_roundg (ll.length - (a + 1))
                  case measure => omega
                  case rel => exact ⟨a + 1, by omega, rfl, by go_num, hkb⟩
            · have HE := Lib.hid ((H2.out.1.trans HG.out.1).trans HA.out)
              go_wp2_with fail
              refine (awake_any wr).mono ?_
              rintro e w5 ⟨rfl, hk5⟩
              have H5 := Lib.hid (HE.out.trans hk5)
              clear hk5
              go_wp2_with fail
              go_ret
              exact ⟨rfl, H5.out⟩
end Go.Proofs.Ytjfonoiclndgnaa
