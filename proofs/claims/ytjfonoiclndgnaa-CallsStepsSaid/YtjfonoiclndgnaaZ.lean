/- The law CallsSteps walked: true, whatever graph and number come in. No condition. -/
import Derived.Test.YtjfonoiclndgnaaBW
import Derived.Test.YtjfonoiclndgnaaY
import Derived.Test.YtjfonoiclndgnaaRR
namespace Go.Proofs.Ytjfonoiclndgnaa
open Go.RowKit

set_option maxRecDepth 100000 in
set_option maxHeartbeats 1000000 in
theorem steps_no (S : Nat → Prop) (v : Value) (ll : List (List Int)) (m : Int) (w : World) (hv : Rows S w v ll) (hno : 30 < ll.length ∨ ¬ (RightP ll ∧ 0 ≤ m ∧ m < ll.length)) : Calls Try.prog 6 #[v, .int .i64 m] w fun e w' => e = .returned (.bool true) ∧ Kept All w w' := by
  have hright := right_any S _ ll w hv
  obtain ⟨A, cap, rfl, h1, h2, hbw, h⟩ := hv
  unfold maxLen at h2
  clear h
  by_cases hlong : 30 < ll.length
  · have hlong' : decide ((30 : Int) < ll.length) = true := by simp; omega
    clear hno hright
    go_enter Try.func6, Try.ntmps6
    go_wp2_with fail
    refine (awake_any w).mono ?_
    rintro e w1 ⟨rfl, hk⟩
    have HK := Lib.hid hk
    clear hk
    go_wp2_with fail
    go_ret
    exact ⟨rfl, HK.out⟩
  have hlong' : decide ((30 : Int) < ll.length) = false := by simp; omega
  replace hno : ¬ (RightP ll ∧ 0 ≤ m ∧ m < ll.length) := hno.resolve_left hlong
  by_cases hR : RightP ll
  · rw [decide_eq_true hR] at hright
    have HR := Lib.hid hright
    clear hright
    by_cases hm : m < 0
    · have hm' : decide (m < 0) = true := by simpa using hm
      clear hno hR
      go_enter Try.func6, Try.ntmps6
      go_wp2_with fail
      refine HR.out.mono ?_
      rintro e w1 ⟨rfl, hk1⟩
      have HK1 := Lib.hid hk1
      clear hk1
      go_wp2_with fail
      refine (awake_any w1).mono ?_
      rintro e w2 ⟨rfl, hk2⟩
      have HK := Lib.hid (HK1.out.trans hk2)
      clear hk2
      go_wp2_with fail
      go_ret
      exact ⟨rfl, HK.out⟩
    · have hm' : decide (m < 0) = false := by simpa using hm
      have hge : (ll.length : Int) ≤ m := Int.not_lt.1 fun h => hno ⟨hR, by omega, h⟩
      have hge' : decide ((ll.length : Int) ≤ m) = true := by simpa using hge
      clear hno hR
      go_enter Try.func6, Try.ntmps6
      go_wp2_with fail
      refine HR.out.mono ?_
      rintro e w1 ⟨rfl, hk1⟩
      have HK1 := Lib.hid hk1
      clear hk1
      go_wp2_with fail
      refine (awake_any w1).mono ?_
      rintro e w2 ⟨rfl, hk2⟩
      have HK := Lib.hid (HK1.out.trans hk2)
      clear hk2
      go_wp2_with fail
      go_ret
      exact ⟨rfl, HK.out⟩
  · rw [decide_eq_false hR] at hright
    have HR := Lib.hid hright
    clear hright hno hR
    go_enter Try.func6, Try.ntmps6
    go_wp2_with fail
    refine HR.out.mono ?_
    rintro e w1 ⟨rfl, hk1⟩
    have HK1 := Lib.hid hk1
    clear hk1
    go_wp2_with fail
    refine (awake_any w1).mono ?_
    rintro e w2 ⟨rfl, hk2⟩
    have HK := Lib.hid (HK1.out.trans hk2)
    clear hk2
    go_wp2_with fail
    go_ret
    exact ⟨rfl, HK.out⟩

theorem entriesL_at {ll : List (List Int)} {s i : Nat} (hi : i < ll.length) : (entriesL ll s)[i]? = some (entry ll s i) := by simp [entriesL, hi]
theorem entriesL_len (ll : List (List Int)) (s : Nat) : (entriesL ll s).length = ll.length := by simp [entriesL]
set_option maxRecDepth 100000 in
set_option maxHeartbeats 2000000 in
theorem steps_yes (S : Nat → Prop) (v : Value) (ll : List (List Int)) (s : Nat) (w : World) (hv : Rows S w v ll) (hlong : ll.length ≤ 30) (hR : RightP ll) (hs : s < ll.length) : Calls Try.prog 6 #[v, .int .i64 s] w fun e w' => e = .returned (.bool true) ∧ Kept All w w' := by
  have hv' := hv
  have hright := right_any S _ ll w hv
  rw [decide_eq_true hR] at hright
  obtain ⟨A, cap, rfl, h1, h2, hbw, h⟩ := hv
  unfold maxLen at h2
  have HV := Lib.hid (And.intro hv' (And.intro hright hR))
  have hlong' : decide ((30 : Int) < ll.length) = false := by simp; omega
  have hm1 : decide ((s : Int) < 0) = false := by simp
  have hm2 : decide ((ll.length : Int) ≤ s) = false := by simp; omega
  clear hv' h hright hR
  go_enter Try.func6, Try.ntmps6
  go_wp2_with fail
  refine HV.out.2.1.mono ?_
  rintro e w1 ⟨rfl, hk1⟩
  have HK1 := Lib.hid hk1
  clear hk1
  go_wp2_with fail
  refine (entries_yes _ _ ll s w1 (goodRows.keep HK1.out.all HV.out.1) HV.out.2.2 hs).mono ?_
  rintro e w2 ⟨u2, rfl, hk2, hr2⟩
  obtain ⟨A2, c2, rfl, hl2, hm2', _, hcl⟩ := hr2
  have H2 := Lib.hid (And.intro (HK1.out.trans hk2) hcl)
  rw [entriesL_len] at hl2 ⊢
  unfold maxLen at hm2'
  clear hk2 hcl
  go_wp2_with fail
  refine (back_any _ _ ll w2 (goodRows.keep H2.out.1.all HV.out.1) HV.out.2.2).mono ?_
  rintro e w3 ⟨u3, rfl, hk3, hr3⟩
  obtain ⟨A3, c3, rfl, hl3, hm3', _, hcb⟩ := hr3
  have e3 : ((List.range ll.length).map (preds ll ll.length)).length = ll.length := by simp
  rw [e3] at hl3 ⊢
  unfold maxLen at hm3'
  have H3 := Lib.hid (And.intro hk3 hcb)
  clear hk3 hcb e3
  clear hlong' hm1 hm2
  go_wp2_with fail
  go_loopg [7] ll.length (fun g i wr => ∃ k : Nat, k ≤ ll.length ∧ g = ll.length - k ∧ i = .int .i64 k ∧ Kept All w3 wr)
  case atStart => exact ⟨0, by omega, by omega, rfl, Kept.refl _ _⟩
  case round =>
    obtain ⟨i, hi, rfl, rfl, hk4⟩ := hrel
    have HK4 := Lib.hid hk4
    clear hk4
    by_cases hlt : i < ll.length
    · obtain ⟨b1, o1, x1, rfl, hs1, hx1, rfl, hwf⟩ := H2.out.2 i _ (entriesL_at hlt)
      have hcell := (H3.out.1.trans HK4.out).cell (p := ⟨b1, o1 + i, none⟩) trivial hx1
      have hb1 := World.block_lt_of_cell? wr _ hcell
      have hz := entry_zero (ll := ll) (i := i) (right_closed HV.out.2.2) hs
      have hstep := entry_step (ll := ll) (i := i) (right_closed HV.out.2.2) hs hlt
      have hrow := goodRows.keep ((H2.out.1.trans (H3.out.1.trans HK4.out)).all) HV.out.1
      have hreach := fun wn (hk : Kept All wr wn) => reached_at S _ ll s i wr wn hrow HV.out.2.2 hs hlt hk
      have hbd := wf_bd hwf
      have HC := Lib.hid (And.intro hreach (And.intro hstep hx1))
      clear hreach hstep hrow hx1 hwf
      generalize entry ll s i = e at *
      generalize reachB ll s i = r at *
      have hlen : ((ll.length : Int) != (ll.length : Int)) = false := by simp
      go_wp2_with fail
      go_cut [58] from 34 to 108 (fun t wx => t = .bool false ∧ Kept All wr wx)
      case first =>
        have hS : ∀ wn, Kept All wr wn → wn.cell? ⟨b1, o1 + i, none⟩ = some (.int .i64 e) := fun wn hk => hk.cell (p := ⟨b1, o1 + i, none⟩) trivial hcell
        have HS := Lib.hid hS
        clear hS hcell
        refine wp_region_rel (Kept All wr) [53, 55] (fun t v wn => ∃ g o, (t = 53 → ∃ c, v = .slice (some ⟨g, o, none⟩) ll.length c) ∧ (t = 55 → v = .pointer (some ⟨g, o + i, none⟩)) ∧ wn.cell? ⟨g, o + i, none⟩ = some (.bool r))
          (fun k => if k = 13 then some (fun v => ∃ g o c, v = .slice (some ⟨g, o, none⟩) ll.length c) else none) (by kernel_rfl) (by kernel_rfl) (by kernel_rfl) (by kernel_rfl) (Kept.refl _ _).drew ?_
        iterate 13 (refine wpRel_val (by rfl) (by rfl) (by intro d hd; cases hd; decide) (fun wn hk hp => by (have hc := HS.out wn hk); go_simp; with_reducible rfl) ?_; simp only [Act.put, List.setIfInBounds_toArray, List.set_cons_zero, List.set_cons_succ])
        refine wpRel_loose (by rfl) (by rfl) (fun wn hk hp => ?_) ?_
        · go_simp
          simp only [RUpon]
          refine (HC.out.1 wn hk).mono ?_
          rintro e2 wq ⟨g, o, c, rfl, hg, hc, hold, hkq⟩
          refine ⟨_, rfl, ⟨g, o, c, rfl⟩, hkq, ?_, ?_⟩
          · rintro t _ v ⟨g', o', h1, h2, h3⟩
            exact ⟨g', o', h1, h2, by rw [hold _ _ (World.block_lt_of_cell? wn _ h3)]; exact h3⟩
          · rintro d hd _
            cases hd
            exact ⟨g, o, fun _ => ⟨c, rfl⟩, fun h => absurd h (by decide), hc⟩
        rintro v ⟨g, o, c, rfl⟩
        simp only [Act.put, List.setIfInBounds_toArray, List.set_cons_zero, List.set_cons_succ]
        refine wpRel_val (by rfl) (by rfl) (by intro d hd; cases hd; decide) (fun wn hk hp => by go_simp; with_reducible rfl) ?_
        simp only [Act.put, List.setIfInBounds_toArray, List.set_cons_zero, List.set_cons_succ]
        refine wpRel_mark (by rfl) (by rfl) (fun wn hk hp => ⟨by go_simp; with_reducible rfl, ?_⟩) ?_
        · rintro d hd _
          cases hd
          obtain ⟨g', o', h1, _, h3⟩ := hp 53 (by decide) (by decide) _ rfl
          obtain ⟨c', e⟩ := h1 rfl
          cases e
          exact ⟨g, o, fun h => absurd h (by decide), fun _ => rfl, h3⟩
        simp only [Act.put, List.setIfInBounds_toArray, List.set_cons_zero, List.set_cons_succ]
        refine wpRel_val (v := .bool r) (by rfl) (by rfl) (by intro d hd; cases hd; decide) (fun wn hk hp => ?_) ?_
        · obtain ⟨g', o', _, h2, h3⟩ := hp 55 (by decide) (by decide) _ rfl
          have e5 := h2 rfl
          injection e5 with e5
          injection e5 with e5
          rw [← e5] at h3
          clear e5 h2 hp
          go_simp
        simp only [Act.put, List.setIfInBounds_toArray, List.set_cons_zero, List.set_cons_succ]
        iterate 2 (refine wpRel_val (by rfl) (by rfl) (by intro d hd; cases hd; decide) (fun wn hk hp => by go_simp; with_reducible rfl) ?_; simp only [Act.put, List.setIfInBounds_toArray, List.set_cons_zero, List.set_cons_succ])
        refine wpRel_nil fun wn hk _ => ?_
        go_wp2_with fail
        go_meet
        exact ⟨by cases r <;> rfl, hk⟩
      case rest =>
        obtain ⟨rfl, hkc⟩ := hcut
        have hk5 := HK4.out.trans hkc
        have hcell2 := hkc.cell (p := ⟨b1, o1 + i, none⟩) trivial hcell
        have HK5 := Lib.hid hk5
        clear hkc hk5 hz hlen hcell hb1
        by_cases h1 : e < 1
        · have h1' : decide (e < 1) = true := by simpa using h1
          go_wp2_with fail
          go_roundg (ll.length - (i + 1))
          case measure => omega
          case rel => exact ⟨i + 1, by omega, rfl, by go_num, HK5.out⟩
        · have h1' : decide (e < 1) = false := by simpa using h1
          obtain ⟨hmost, hle, hself⟩ := HC.out.2.1 (by omega)
          obtain ⟨b3, o3, x3, rfl, hs3, hx3, A4, c4, rfl, r1, r2, _, rh⟩ := H3.out.2 i (preds ll ll.length i) (by rw [List.getElem?_map, List.getElem?_range hlt]; rfl)
          have hc3 := HK5.out.cell (p := ⟨b3, o3 + i, none⟩) trivial hx3
          unfold maxLen at r2
          have hpl := preds_len (ll := ll) ll.length i
          have HM := Lib.hid (And.intro hmost (And.intro hself rh))
          clear hmost hself rh hx3
          go_wp2_with fail
          obtain ⟨wo, rfl⟩ : ∃ wo : World, wo = wc := ⟨_, rfl⟩
          go_loopg [8, 9] (preds ll ll.length i).length (fun g mo kk wr => ∃ k : Nat, k ≤ (preds ll ll.length i).length ∧ g = (preds ll ll.length i).length - k ∧ kk = .int .i64 k ∧ mo = .int .i64 (mostE ll s ((preds ll ll.length i).take k)) ∧ wo = wr)
          case atStart => exact ⟨0, by omega, by omega, rfl, rfl, rfl⟩
          case round =>
            obtain ⟨k, hk, rfl, rfl, rfl, rfl⟩ := hrel
            by_cases hlt2 : k < (preds ll ll.length i).length
            · obtain ⟨pk, hpk⟩ : ∃ pk, (preds ll ll.length i)[k]? = some pk := ⟨_, List.getElem?_eq_getElem hlt2⟩
              obtain ⟨q, rfl, hql, _⟩ := preds_mem.1 (List.mem_of_getElem? hpk)
              obtain ⟨b4, o4, x4, rfl, hs4, hx4, rfl, hwf4⟩ := HM.out.2.2 k _ hpk
              have hd4 := HK5.out.cell (p := ⟨b4, o4 + k, none⟩) trivial hx4
              obtain ⟨b5, o5, x5, he5, hs5, hx5, rfl, hwf5⟩ := H2.out.2 q _ (entriesL_at hql)
              cases he5
              have hd5 := (H3.out.1.trans HK5.out).cell (p := ⟨b1, o1 + q, none⟩) trivial hx5
              have htk : (preds ll ll.length i).take (k + 1) = (preds ll ll.length i).take k ++ [(q : Int)] := by rw [List.take_add_one, hpk]; rfl
              have hsn := most_snoc (ll := ll) s ((preds ll ll.length i).take k) q
              rw [← htk] at hsn
              have HN := Lib.hid hsn
              clear hsn htk hpk hx4 hx5 hwf4 hwf5
              generalize mostE ll s ((preds ll ll.length i).take k) = mo at *
              generalize entry ll s q = ev at *
              go_wp2_with fail
              all_goals
                go_roundg ((preds ll ll.length i).length - (k + 1))
                case measure => omega
                case rel => exact ⟨k + 1, by omega, rfl, by go_num, by rw [HN.out]; congr 1; split <;> omega, rfl⟩
            · obtain rfl : k = (preds ll ll.length i).length := by omega
              rw [List.take_length]
              obtain ⟨row, hrow⟩ : ∃ row, ll[i]? = some row := ⟨_, List.getElem?_eq_getElem hlt⟩
              obtain ⟨A', cc, hvv, _, _, _, hcells⟩ := goodRows.keep ((H2.out.1.trans (H3.out.1.trans HK5.out)).all) HV.out.1
              cases hvv
              obtain ⟨b6, o6, x6, rfl, hs6, hx6, hE6⟩ := hcells i row hrow
              have hin := in_any _ x6 row i wo hE6
              have hnot : decide ((i : Int) ∈ row) = false := by
                rw [decide_eq_false_iff_not]
                exact fun h => HM.out.2.1 ⟨row, hrow, h⟩
              rw [hnot] at hin
              obtain ⟨A6, c6, rfl, _⟩ := hE6
              have hm0 := (most_ge (ll := ll) s (preds ll ll.length i)).1
              have hmost := HM.out.1
              have hne : (e != mostE ll s (preds ll ll.length i) + 1) = false := by rw [bne_eq_false_iff_eq]; exact hmost
              have hbd2 : mostE ll s (preds ll ll.length i) ≤ ll.length := by omega
              have hgt : decide ((ll.length : Int) < e) = false := by simp; omega
              have HI := Lib.hid hin
              clear hmost hin hnot hcells hrow
              generalize mostE ll s (preds ll ll.length i) = mo at *
              go_wp2_with (go_at_call 18; refine HI.out.mono ?_; rintro e w' ⟨rfl, rfl⟩)
              go_roundg (ll.length - (i + 1))
              case measure => omega
              case rel => exact ⟨i + 1, by omega, rfl, by go_num, HK5.out⟩
    · have HE := Lib.hid ((H2.out.1.trans H3.out.1).trans HK4.out)
      go_wp2_with fail
      refine (awake_any wr).mono ?_
      rintro e w5 ⟨rfl, hk5⟩
      have H5 := Lib.hid (HE.out.trans hk5)
      clear hk5
      go_wp2_with fail
      go_ret
      exact ⟨rfl, H5.out⟩
theorem law_steps (S : Nat → Prop) (v : Value) (ll : List (List Int)) (m : Int) (w : World) (hv : Rows S w v ll) : Calls Try.prog 6 #[v, .int .i64 m] w fun e w' => e = .returned (.bool true) ∧ Kept All w w' := by
  by_cases h : 30 < ll.length ∨ ¬ (RightP ll ∧ 0 ≤ m ∧ m < ll.length)
  · exact steps_no S v ll m w hv h
  · have h1 : ¬ 30 < ll.length := fun x => h (.inl x)
    have h2 : RightP ll ∧ 0 ≤ m ∧ m < ll.length := Decidable.not_not.1 fun x => h (.inr x)
    obtain ⟨s, rfl⟩ : ∃ s : Nat, m = s := ⟨m.toNat, by omega⟩
    exact steps_yes S v ll s w hv (by omega) h2.1 (by omega)
end Go.Proofs.Ytjfonoiclndgnaa
