/- The laws CallsGroups and CallsEntries walked: true, whatever graph comes in. No condition. -/
import Derived.Test.YtjfonoiclndgnaaU
import Derived.Test.YtjfonoiclndgnaaK
namespace Go.Proofs.Ytjfonoiclndgnaa
open Go.RowKit

theorem law_groups (S : Nat → Prop) (v : Value) (ll : List (List Int)) (w : World) (hv : Rows S w v ll) : Calls Try.prog 3 #[v] w fun e w' => e = .returned (.bool true) ∧ Kept All w w' := by
  have hv' := hv
  obtain ⟨A, cap, rfl, h1, h2, hbw, h⟩ := hv
  unfold maxLen at h2
  have HV := Lib.hid hv'
  clear hv' h
  by_cases hlong : 30 < ll.length
  · have hlong' : decide ((30 : Int) < ll.length) = true := by simp; omega
    go_enter Try.func3, Try.ntmps3
    go_wp2_with fail
    go_ret
    exact ⟨rfl, Kept.refl _ _⟩
  · have hlong' : decide ((30 : Int) < ll.length) = false := by simp; omega
    go_enter Try.func3, Try.ntmps3
    go_wp2_with fail
    refine (copy_any _ _ ll w HV.out).mono ?_
    rintro e w1 ⟨u1, rfl, hk1, hr1⟩
    have hr1' := hr1
    obtain ⟨A1, c1, rfl, _⟩ := hr1'
    have H1 := Lib.hid (And.intro hk1 hr1)
    clear hk1 hr1
    go_wp2_with fail
    by_cases hR : RightP ll
    · refine (groups_yes _ _ ll w1 H1.out.2 hR).mono ?_
      rintro e w2 ⟨u2, rfl, hk2, hr2⟩
      have hr2' := hr2
      obtain ⟨A2, c2, rfl, _⟩ := hr2'
      have H2 := Lib.hid (And.intro (H1.out.1.trans hk2) hr2)
      clear hk2 hr2
      go_wp2_with fail
      refine (refgroups_yes _ _ ll w2 (goodRows.keep H2.out.1.all HV.out) hR).mono ?_
      rintro e w3 ⟨u3, rfl, hk3, hr3⟩
      have hr3' := hr3
      obtain ⟨A3, c3, rfl, _⟩ := hr3'
      have H3 := Lib.hid (And.intro (H2.out.1.trans hk3) (And.intro hr3 (goodRows.keep hk3.all H2.out.2)))
      clear hk3 hr3
      go_wp2_with fail
      refine (same_any _ _ _ _ _ _ w3 H3.out.2.2 H3.out.2.1).mono ?_
      rintro e w4 ⟨rfl, hk4⟩
      rw [decide_eq_true (rfl : groupsAll ll = groupsAll ll)]
      have H4 := Lib.hid (H3.out.1.trans hk4)
      clear hk4
      go_wp2_with fail
      refine (awake_any w4).mono ?_
      rintro e w5 ⟨rfl, hk5⟩
      have H5 := Lib.hid (H4.out.trans hk5)
      clear hk5
      go_wp2_with fail
      go_ret
      exact ⟨rfl, H5.out⟩
    · refine (groups_no _ _ ll w1 H1.out.2 hR).mono ?_
      rintro e w2 ⟨rfl, hk2⟩
      have H2 := Lib.hid (H1.out.1.trans hk2)
      clear hk2
      go_wp2_with fail
      refine (refgroups_no _ _ ll w2 (goodRows.keep H2.out.all HV.out) hR).mono ?_
      rintro e w3 ⟨rfl, hk3⟩
      have H3 := Lib.hid (H2.out.trans hk3)
      clear hk3
      go_wp2_with fail
      refine (same_any All All _ _ [] [] w3 Sl.nil Sl.nil).mono ?_
      rintro e w4 ⟨rfl, hk4⟩
      rw [decide_eq_true (rfl : ([] : List (List Int)) = [])]
      have H4 := Lib.hid (H3.out.trans hk4)
      clear hk4
      go_wp2_with fail
      refine (awake_any w4).mono ?_
      rintro e w5 ⟨rfl, hk5⟩
      have H5 := Lib.hid (H4.out.trans hk5)
      clear hk5
      go_wp2_with fail
      go_ret
      exact ⟨rfl, H5.out⟩

theorem law_entries (S : Nat → Prop) (v : Value) (ll : List (List Int)) (m : Int) (w : World) (hv : Rows S w v ll) : Calls Try.prog 4 #[v, .int .i64 m] w fun e w' => e = .returned (.bool true) ∧ Kept All w w' := by
  have hv' := hv
  obtain ⟨A, cap, rfl, h1, h2, hbw, h⟩ := hv
  unfold maxLen at h2
  have HV := Lib.hid hv'
  clear hv' h
  by_cases hlong : 30 < ll.length
  · have hlong' : decide ((30 : Int) < ll.length) = true := by simp; omega
    go_enter Try.func4, Try.ntmps4
    go_wp2_with fail
    go_ret
    exact ⟨rfl, Kept.refl _ _⟩
  · have hlong' : decide ((30 : Int) < ll.length) = false := by simp; omega
    go_enter Try.func4, Try.ntmps4
    go_wp2_with fail
    refine (copy_any _ _ ll w HV.out).mono ?_
    rintro e w1 ⟨u1, rfl, hk1, hr1⟩
    have hr1' := hr1
    obtain ⟨A1, c1, rfl, _⟩ := hr1'
    have H1 := Lib.hid (And.intro hk1 hr1)
    clear hk1 hr1
    go_wp2_with fail
    by_cases hR : RightP ll ∧ 0 ≤ m ∧ m < ll.length
    · obtain ⟨hR, hm0, hml⟩ := hR
      obtain ⟨s, rfl⟩ : ∃ s : Nat, m = s := ⟨m.toNat, by omega⟩
      refine (entries_yes _ _ ll s w1 H1.out.2 hR (by omega)).mono ?_
      rintro e w2 ⟨u2, rfl, hk2, hr2⟩
      have hr2' := hr2
      obtain ⟨A2, c2, rfl, _⟩ := hr2'
      have H2 := Lib.hid (And.intro (H1.out.1.trans hk2) hr2)
      clear hk2 hr2
      go_wp2_with fail
      refine (refentries_yes _ _ ll s w2 (goodRows.keep H2.out.1.all HV.out) hR (by omega)).mono ?_
      rintro e w3 ⟨u3, rfl, hk3, hr3⟩
      have hr3' := hr3
      obtain ⟨A3, c3, rfl, _⟩ := hr3'
      have H3 := Lib.hid (And.intro (H2.out.1.trans hk3) (And.intro hr3 (goodInts.keep hk3.all H2.out.2)))
      clear hk3 hr3
      go_wp2_with fail
      refine (ints_any _ _ _ _ _ _ w3 H3.out.2.2 H3.out.2.1).mono ?_
      rintro e w4 ⟨rfl, hk4⟩
      rw [decide_eq_true (rfl : entriesL ll s = entriesL ll s)]
      have H4 := Lib.hid (H3.out.1.trans hk4)
      clear hk4
      go_wp2_with fail
      refine (awake_any w4).mono ?_
      rintro e w5 ⟨rfl, hk5⟩
      have H5 := Lib.hid (H4.out.trans hk5)
      clear hk5
      go_wp2_with fail
      go_ret
      exact ⟨rfl, H5.out⟩
    · refine (entries_no _ _ ll m w1 H1.out.2 hR).mono ?_
      rintro e w2 ⟨rfl, hk2⟩
      have H2 := Lib.hid (H1.out.1.trans hk2)
      clear hk2
      go_wp2_with fail
      refine (refentries_no _ _ ll m w2 (goodRows.keep H2.out.all HV.out) hR).mono ?_
      rintro e w3 ⟨rfl, hk3⟩
      have H3 := Lib.hid (H2.out.trans hk3)
      clear hk3
      go_wp2_with fail
      refine (ints_any All All _ _ [] [] w3 Sl.nil Sl.nil).mono ?_
      rintro e w4 ⟨rfl, hk4⟩
      rw [decide_eq_true (rfl : ([] : List Int) = [])]
      have H4 := Lib.hid (H3.out.trans hk4)
      clear hk4
      go_wp2_with fail
      refine (awake_any w4).mono ?_
      rintro e w5 ⟨rfl, hk5⟩
      have H5 := Lib.hid (H4.out.trans hk5)
      clear hk5
      go_wp2_with fail
      go_ret
      exact ⟨rfl, H5.out⟩
end Go.Proofs.Ytjfonoiclndgnaa
