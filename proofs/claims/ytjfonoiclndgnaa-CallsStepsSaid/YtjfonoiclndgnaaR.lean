/- What interdictref18.Entries answers: of each node its entry. No condition but that the graph may be and the node is one. -/
import Derived.Test.YtjfonoiclndgnaaQ
import Derived.Deep.Cut
import Derived.Deep.CutRange
namespace Go.Proofs.Ytjfonoiclndgnaa
open Go.RowKit

theorem badK_ref {ll : List (List Int)} {s i k : Nat} (hk : k < ll.length) (b : Bool) (hb : b = (ll[k]).any fun x => reachB ll x.toNat k) : badK ll s i (k + 1) = (badK ll s i k || (reachB ll s k && reachB ll k i && b)) := by
  rw [badK_succ]
  unfold circB
  rw [List.getElem?_eq_getElem hk, hb]
  congr 1
  show (reachB ll s k && _ && reachB ll k i) = _
  rw [Bool.and_assoc, Bool.and_comm (List.any _ _), ← Bool.and_assoc]
  rfl
theorem entry_not {ll : List (List Int)} {s i : Nat} (h : reachB ll s i = false) : entry ll s i = 0 := by
  have hr : ¬ Reach ll s i := fun x => by rw [reachB_iff.2 x] at h; cases h
  exact entry_eq ⟨fun x => absurd x.reach hr, fun _ => rfl, fun x => absurd x hr⟩
theorem entry_bad {ll : List (List Int)} {s i : Nat} (h : Bad ll s i) : entry ll s i = -1 :=
  entry_eq ⟨fun _ => rfl, fun x => absurd h.reach x, fun _ x => absurd h x⟩
theorem entry_wf {ll : List (List Int)} (hR : RightP ll) {s i : Nat} (hs : s < ll.length) : (Lit.int .i64 (entry ll s i)).wf = true := by
  have h := entry_is (entry_ex (right_closed hR) hs i)
  have hl := hR.2.1
  apply WalkArith.wf_i64
  by_cases hb : Bad ll s i
  · rw [h.1 hb]; decide
  · by_cases hr : Reach ll s i
    · obtain ⟨m, he, hm, _⟩ := h.2.2 hr hb
      have := way_le (right_closed hR) hs hm hb
      omega
    · rw [h.2.1 hr]; decide
theorem entries_succ (ll : List (List Int)) (s i : Nat) : (List.range (i + 1)).map (entry ll s) = (List.range i).map (entry ll s) ++ [entry ll s i] := by
  rw [List.range_succ, List.map_append]; rfl

set_option maxRecDepth 100000 in
set_option maxHeartbeats 4000000 in
theorem refentries_yes (S : Nat → Prop) (v : Value) (ll : List (List Int)) (s : Nat) (w : World) (hv : Rows S w v ll) (hR : RightP ll) (hs : s < ll.length) :
    Calls Try.prog 14 #[v, .int .i64 s] w fun e w' => ∃ u, e = .returned u ∧ Kept All w w' ∧ Ints (fun b => w.heap.size ≤ b) w' u (entriesL ll s) := by
  have hl : ll.length ≤ 256 := hR.2.1
  have hright := fun w1 (hk : Kept All w w1) => refright_any S v ll w1 (goodRows.keep hk.all hv)
  rw [decide_eq_true hR] at hright
  have hreach := fun w1 (hk : Kept All w w1) => refreaches_any S v ll w1 (goodRows.keep hk.all hv) hR
  have hv' := rows_lt hv
  obtain ⟨A, cap, rfl, h1, h2, hbw, h⟩ := hv
  obtain ⟨i3, hi3, hz3, hs3, hb3⟩ := info_parts info3
  have I3 := Lib.hid (And.intro hi3 (And.intro hz3 (And.intro hs3 hb3)))
  have HR := Lib.hid (And.intro hright (And.intro hreach (And.intro hR hv')))
  clear h h1 h2 hbw hright hreach hR hv' hi3 hz3 hs3 hb3
  have hs1 : decide ((s : Int) < 0) = false := by simp
  have hs2 : decide ((ll.length : Int) ≤ s) = false := by simp; omega
  go_enter Try.func14, Try.ntmps14
  go_wp2_with fail
  refine (HR.out.1 _ (Kept.refl _ _)).mono ?_
  rintro e w1 ⟨rfl, hk1⟩
  have HK := Lib.hid hk1
  clear hk1
  go_wp2_with fail
  refine (HR.out.2.1 _ HK.out).mono ?_
  rintro e w2 ⟨vb, rfl, hk2, hb2⟩
  have hrows2 := goodRows.keep (HK.out.trans hk2).all HR.out.2.2.2
  have hw2 := (HK.out.trans hk2).size
  have hkw2 := HK.out.trans hk2
  have hb2' := hb2
  obtain ⟨Ab, cb, rfl, _⟩ := hb2
  rw [reachM_len] at hb2' ⊢
  have HB := Lib.hid (And.intro hkw2 (And.intro hrows2 (brows_lt hb2')))
  clear hk2 hb2' hkw2 hrows2
  go_wp2_with fail
  go_loopg [6, 7] ll.length (fun gg o x wr => ∃ i : Nat, i ≤ ll.length ∧ gg = ll.length - i ∧ x = .int .i64 i ∧ Kept All w2 wr ∧ wr.ownsRow w2.heap.size 3 1 o i (intCells ((List.range i).map (entry ll s))))
  case atStart => exact ⟨0, by omega, by omega, rfl, Kept.refl _ _, by simp [intCells], .inl ⟨rfl, rfl⟩⟩
  case round =>
    obtain ⟨i, hi, rfl, rfl, hkept, hown⟩ := hrel
    have hrows := goodRows.keep hkept.all HB.out.2.1
    have htab := goodBRows.keep hkept.all (goodBRows.wide (fun _ _ => trivial) HB.out.2.2)
    by_cases hlt : i < ll.length
    · obtain ⟨b4, o4, b5, o5, c5, rfl, _, h4, h4', _, h5⟩ := brow_at htab hs hlt
      have HQ := Lib.hid (And.intro hkept (And.intro hown (And.intro hrows htab)))
      clear hkept hown hrows htab
      obtain ⟨wo, rfl⟩ : ∃ wo : World, wo = wr := ⟨_, rfl⟩
      go_upto_if 37 with fail
      go_cut [8, 9] from 37 to 72 (fun n kk wx => n = .int .i64 (entry ll s i) ∧ Kept All wo wx)
      case first =>
        cases hp : reachB ll s i with
        | false =>
          rw [hp] at h5
          have HP := Lib.hid hp
          clear hp
          go_wp2_with fail
          go_meet
          exact ⟨by rw [entry_not HP.out], Kept.refl _ _⟩
        | true =>
          rw [hp] at h5
          have HP := Lib.hid hp
          clear hp
          go_wp2_with fail
          go_loopg [8, 9] ll.length (fun gg n x wr => ∃ k : Nat, k ≤ ll.length ∧ gg = ll.length - k ∧ x = .int .i64 k ∧ n = .int .i64 (if badK ll s i k then -1 else 0) ∧ wo = wr)
          case atStart => exact ⟨0, by omega, by omega, rfl, rfl, rfl⟩
          case round =>
            obtain ⟨k, hk, rfl, rfl, rfl, rfl⟩ := hrel
            by_cases hlk : k < ll.length
            · obtain ⟨b4', o4', b6, o6, c6, he1, _, h6, h6', _, h7⟩ := brow_at HQ.out.2.2.2 hs hlk
              cases he1
              rw [h4] at h6
              cases h6
              obtain ⟨b4', o4', b8, o8, c8, he1, _, h8, h8', _, h9⟩ := brow_at HQ.out.2.2.2 hlk hlt
              cases he1
              have hcirc := circle_any _ _ ll _ _ k wo HQ.out.2.2.1 HQ.out.2.2.2 HR.out.2.2.1 hlk
              have hbk := badK_ref (s := s) (i := i) hlk _ rfl
              generalize (ll[k]).any (fun x => reachB ll x.toNat k) = q at *
              have HC := Lib.hid (And.intro hcirc hbk)
              clear hcirc hbk
              generalize reachB ll s k = p1 at *
              generalize reachB ll k i = p2 at *
              obtain ⟨z, hz⟩ : ∃ z, z = if badK ll s i k then (-1 : Int) else 0 := ⟨_, rfl⟩
              rw [← hz]
              have HZ := Lib.hid hz
              clear hz
              cases p1 with
              | false =>
                go_wp2_with fail
                go_roundg (ll.length - (k + 1))
                case measure => omega
                case rel => exact ⟨k + 1, by omega, rfl, by go_num, by rw [HC.out.2, HZ.out]; simp, rfl⟩
              | true =>
                cases p2 with
                | false =>
                  go_wp2_with fail
                  go_roundg (ll.length - (k + 1))
                  case measure => omega
                  case rel => exact ⟨k + 1, by omega, rfl, by go_num, by rw [HC.out.2, HZ.out]; simp, rfl⟩
                | true =>
                  cases q with
                  | false =>
                    go_wp2_with (go_at_call 29; refine HC.out.1.mono ?_; rintro e w' ⟨rfl, rfl⟩)
                    go_roundg (ll.length - (k + 1))
                    case measure => omega
                    case rel => exact ⟨k + 1, by omega, rfl, by go_num, by rw [HC.out.2, HZ.out]; simp, rfl⟩
                  | true =>
                    go_wp2_with (go_at_call 29; refine HC.out.1.mono ?_; rintro e w' ⟨rfl, rfl⟩)
                    go_roundg (ll.length - (k + 1))
                    case measure => omega
                    case rel => exact ⟨k + 1, by omega, rfl, by go_num, by rw [HC.out.2]; simp, rfl⟩
            · have hkl : k = ll.length := by omega
              subst hkl
              have hbi := badK_iff (s := s) (i := i) (right_all HR.out.2.2.1)
              cases hb : badK ll s i ll.length with
              | true =>
                have HE := Lib.hid (entry_bad (hbi.1 hb))
                clear hbi hb
                go_wp2_with fail
                go_meet
                exact ⟨by rw [HE.out], Kept.refl _ _⟩
              | false =>
                have hnb : ¬ Bad ll s i := fun h => by rw [hbi.2 h] at hb; cases hb
                have hlong := long_any _ _ ll _ _ s i wo HQ.out.2.2.1 HQ.out.2.2.2 HR.out.2.2.1 hs (reachB_iff.1 HP.out) hnb
                have HE := Lib.hid hlong
                clear hbi hb hnb hlong
                go_wp2_with (go_at_call 30; refine HE.out.mono ?_; rintro e w' ⟨rfl, hkk⟩)
                go_meet
                exact ⟨rfl, hkk⟩
      case rest =>
        obtain ⟨rfl, hkc⟩ := hcut
        have hkept := HQ.out.1.trans hkc
        have hB := hkept.size
        have hown := own_kept HQ.out.2.1 hkc (fun _ _ => trivial)
        have hown1 : (wc.alloc (.cells #[.int .i64 (entry ll s i)] 3)).ownsRow w2.heap.size 3 1 u6 i (intCells ((List.range i).map (entry ll s))) := own_kept hown ((Kept.refl All wc).alloc _) (fun _ _ => trivial)
        have HT := Lib.hid (And.intro hkept hown)
        clear hkept hown
        go_wp2_with (at_builtin
                     refine wpList_app _ rfl (.tmp 73) (.tmp 75) 28 rfl w2.heap.size 3 i3 _ 1 8 Try.underlying28 I3.out.1 I3.out.2.1 I3.out.2.2.1 I3.out.2.2.2 rfl (by decide) _ _ _ rfl hown1 (some ⟨wc.heap.size, 0, none⟩) 1 1 [.int .i64 (entry ll s i)] rfl rfl ?_ ?_ (by unfold maxLen; omega) (by omega) (by simp; omega) ?_
                     · intro _
                       exact ⟨_, _, rfl, fun j u hu => by
                         rw [Nat.zero_add, Blk.cell (Blk.new _ _ _)]; simpa using hu⟩
                     · intro u hu
                       rw [List.mem_singleton.1 hu]; rfl
                     intro v2 w4 hown4 hg2 hat2)
        go_roundg (ll.length - (i + 1))
        case measure => omega
        case rel =>
          refine ⟨i + 1, by omega, rfl, by go_num, (HT.out.1.alloc _).grown hg2 fun g hg => .inr (own_lt HT.out.2 hg).1, ?_⟩
          rw [entries_succ]
          simpa [intCells] using hown4
    · have hil : i = ll.length := by omega
      subst hil
      have HQ := Lib.hid (And.intro hkept hown)
      clear hkept hown hrows htab
      go_wp2_with fail
      go_ret
      exact ⟨_, rfl, HB.out.1.trans HQ.out.1, ints_own (l := (List.range ll.length).map (entry ll s)) HQ.out.2 (by simp) (by simp; omega) (fun g hg => by have := (own_lt HQ.out.2 hg).1; show w.heap.size ≤ g; omega) (fun x hx => by
        obtain ⟨j, _, rfl⟩ := List.mem_map.1 hx
        exact entry_wf HR.out.2.2.1 hs)⟩
end Go.Proofs.Ytjfonoiclndgnaa
