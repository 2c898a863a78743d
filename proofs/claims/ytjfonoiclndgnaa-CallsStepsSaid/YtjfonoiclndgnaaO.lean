/- What calls.Entries answers: of each node its entry. No condition. -/
import Derived.Test.YtjfonoiclndgnaaN
import Derived.Deep.Cut
import Derived.Deep.CutRange
import Derived.BigRegion
import Derived.Deep.RegionHeld3
namespace Go.Proofs.Ytjfonoiclndgnaa
open Go.RowKit

theorem right_nodes {ll : List (List Int)} (h : RightP ll) {k : Nat} (hk : k < ll.length) : ∀ x ∈ ll[k], ∃ n : Nat, x = n ∧ n < ll.length := by
  intro x hx
  obtain ⟨h1, h2⟩ := right_row h hk x hx
  exact ⟨x.toNat, by omega, by omega⟩
theorem right_all {ll : List (List Int)} (h : RightP ll) (j : Nat) : ∀ x ∈ ll[j]?.getD [], ∃ n : Nat, x = n ∧ n < ll.length := by
  intro x hx
  rcases Nat.lt_or_ge j ll.length with hj | hj
  · rw [List.getElem?_eq_getElem hj] at hx; exact right_nodes h hj x hx
  · rw [List.getElem?_eq_none hj] at hx; simp at hx
theorem right_closed {ll : List (List Int)} (h : RightP ll) : Closed ll := by
  rintro a b ha ⟨row, hr, hb⟩
  obtain ⟨n, hn, hl⟩ := right_all h a b (by rw [hr]; exact hb)
  omega
/-- what Entries answers -/
noncomputable def entriesL (ll : List (List Int)) (s : Nat) : List Int := (List.range ll.length).map (entry ll s)

/-- what calls.Entries' first loop has told -/
noncomputable def circK (ll : List (List Int)) (s k : Nat) : Nat → Bool := fun j => decide (j < k) && circB ll s j
theorem circK_next {ll : List (List Int)} {s k : Nat} {b : Bool} (h : b = circB ll s k) : (boolArr ll.length (circK ll s k)).setIfInBounds k (.bool b) = boolArr ll.length (circK ll s (k + 1)) := by
  refine boolArr_set (by simp [circK, h]) (fun j _ hj => ?_)
  unfold circK
  have : (j < k + 1) ↔ (j < k) := by omega
  simp [this]

theorem Kept.low {w w' : World} (h : Kept (fun b => b < w.heap.size) w w') : Kept All w w' := ⟨h.os, h.output, h.size, fun b hb _ => h.block b hb hb⟩
theorem entries_list {ll : List (List Int)} {s : Nat} {f : Nat → Int} (h : EInv ll s (doneR ll (groupsAll ll).length) f) : (List.range ll.length).map f = entriesL ll s := by
  unfold entriesL
  refine List.map_congr_left fun i hi => ?_
  exact (entry_eq (einv_end (done_end h) (List.mem_range.1 hi))).symm
/-- what calls.Entries has captured, and its table -/
structure EEnv (ll : List (List Int)) (A : Option Addr) (cap : Nat) (Ab : Option Addr) (cb xb : Nat) (wr : World) : Prop where
  been : Blk wr xb 34 #[.slice Ab ll.length cb]
  rows : Rows (fun b => b < xb) wr (.slice A ll.length cap) ll
  tab : BRows (fun b => b < xb) wr (.slice Ab ll.length cb) (reachM ll)
theorem EEnv.keep {ll : List (List Int)} {A : Option Addr} {cap : Nat} {Ab : Option Addr} {cb xb : Nat} {wr w' : World} (h : EEnv ll A cap Ab cb xb wr) (k : Kept (fun b => b ≤ xb) wr w') : EEnv ll A cap Ab cb xb w' :=
  ⟨h.been.kept k (Nat.le_refl _), goodRows.keep (k.mono fun _ hb => Nat.le_of_lt hb) h.rows, goodBRows.keep (k.mono fun _ hb => Nat.le_of_lt hb) h.tab⟩

set_option maxRecDepth 100000 in
set_option maxHeartbeats 4000000 in
theorem entries_yes (S : Nat → Prop) (v : Value) (ll : List (List Int)) (s : Nat) (w : World) (hv : Rows S w v ll) (hR : RightP ll) (hs : s < ll.length) :
    Calls Try.prog 13 #[v, .int .i64 s] w fun e w' => ∃ u, e = .returned u ∧ Kept All w w' ∧ Ints (fun b => w.heap.size ≤ b) w' u (entriesL ll s) := by
  have hl : ll.length ≤ 256 := hR.2.1
  have hright := fun w1 (hk : Kept All w w1) => right_any S v ll w1 (goodRows.keep hk.all hv)
  rw [decide_eq_true hR] at hright
  have hreach := fun w1 (hk : Kept All w w1) => reaches_any S v ll w1 (goodRows.keep hk.all hv) hR
  have hgroups := fun w1 (hk : Kept All w w1) => groups_own S v ll w1 (goodRows.keep hk.all hv) hR
  have hv' := rows_lt hv
  obtain ⟨A, cap, rfl, h1, h2, hbw, h⟩ := hv
  have HR := Lib.hid (And.intro hright (And.intro hreach (And.intro hgroups (And.intro hR hv'))))
  clear h h1 h2 hbw hright hreach hgroups hR hv'
  have hs1 : decide ((s : Int) < 0) = false := by simp
  have hs2 : decide ((ll.length : Int) ≤ s) = false := by simp; omega
  go_enter Try.func13, Try.ntmps13
  go_wp2_with fail
  refine (HR.out.1 _ (Kept.refl _ _)).mono ?_
  rintro e w1 ⟨rfl, hk1⟩
  have HK := Lib.hid hk1
  clear hk1
  go_wp2_with fail
  refine (HR.out.2.1 _ HK.out).mono ?_
  rintro e w2 ⟨vb, rfl, hk2, hb2⟩
  have hb2' := hb2
  obtain ⟨Ab, cb, rfl, _⟩ := hb2
  rw [reachM_len] at hb2' ⊢
  have HB := Lib.hid (And.intro hk2 hb2')
  clear hk2 hb2'
  have hmk1 := mk_ints ll.length (by omega) (w2.alloc (.cells #[.slice Ab ll.length cb] 34))
  have hmk2 := mk_bools ll.length (by omega) ((w2.alloc (.cells #[.slice Ab ll.length cb] 34)).alloc (.cells (intArr ll.length fun _ => 0) 3))
  go_wp2_with fail
  obtain ⟨xb, hxb⟩ : ∃ xb, xb = w2.heap.size := ⟨_, rfl⟩
  have hob : Blk (((w2.alloc (.cells #[.slice Ab ll.length cb] 34)).alloc (.cells (intArr ll.length fun _ => 0) 3)).alloc (.cells (boolArr ll.length fun _ => false) 4)) (xb + 1) 3 (intArr ll.length (outF ll s 0 0)) := by
    have e : (intArr ll.length fun _ => 0) = intArr ll.length (outF ll s 0 0) := intArr_congr fun i _ => (outF_0 ll s i).symm
    rw [e]; subst hxb; exact (blk_new' (by simp)).alloc _
  have hcb : Blk (((w2.alloc (.cells #[.slice Ab ll.length cb] 34)).alloc (.cells (intArr ll.length fun _ => 0) 3)).alloc (.cells (boolArr ll.length fun _ => false) 4)) (xb + 1 + 1) 4 (boolArr ll.length (circK ll s 0)) := by
    have e : (boolArr ll.length fun _ => false) = boolArr ll.length (circK ll s 0) := by congr 1
    rw [e]; subst hxb; exact blk_new' (by simp)
  have hk3 : Kept All w2 (((w2.alloc (.cells #[.slice Ab ll.length cb] 34)).alloc (.cells (intArr ll.length fun _ => 0) 3)).alloc (.cells (boolArr ll.length fun _ => false) 4)) := (((Kept.refl _ _).alloc _).alloc _).alloc _
  have henv : EEnv ll A cap Ab cb xb (((w2.alloc (.cells #[.slice Ab ll.length cb] 34)).alloc (.cells (intArr ll.length fun _ => 0) 3)).alloc (.cells (boolArr ll.length fun _ => false) 4)) := by
    have e1 := HK.out.size
    have e2 := HB.out.1.size
    have hk2 := (HK.out.trans HB.out.1).trans hk3
    refine ⟨((by subst hxb; exact Blk.new _ _ _ : Blk _ xb 34 #[.slice Ab ll.length cb]).alloc _).alloc _, ?_, ?_⟩
    · exact goodRows.wide (fun b hb => by omega) (goodRows.keep hk2.all HR.out.2.2.2.2)
    · exact goodBRows.wide (fun b hb => by omega) (goodBRows.keep hk3.all (brows_lt HB.out.2))
  have hsz : (((w2.alloc (.cells #[.slice Ab ll.length cb] 34)).alloc (.cells (intArr ll.length fun _ => 0) 3)).alloc (.cells (boolArr ll.length fun _ => false) 4)).heap.size = xb + 3 := by subst hxb; simp
  have hkw : Kept All w (((w2.alloc (.cells #[.slice Ab ll.length cb] 34)).alloc (.cells (intArr ll.length fun _ => 0) 3)).alloc (.cells (boolArr ll.length fun _ => false) 4)) := (HK.out.trans HB.out.1).trans hk3
  rw [← hxb]
  generalize (((w2.alloc (.cells #[.slice Ab ll.length cb] 34)).alloc (.cells (intArr ll.length fun _ => 0) 3)).alloc (.cells (boolArr ll.length fun _ => false) 4)) = w3 at *
  have hxw : w.heap.size ≤ xb := by rw [hxb]; exact (HK.out.trans HB.out.1).size
  have H3 := Lib.hid (And.intro hob (And.intro hcb (And.intro henv (And.intro hkw hsz))))
  clear hob hcb henv hkw hsz hk3 hmk1 hmk2 hxb
  go_loopg [42] ll.length (fun gg x wr => ∃ k : Nat, k ≤ ll.length ∧ gg = ll.length - k ∧ x = .int .i64 k ∧ Kept (fun b => b ≤ xb + 1) w3 wr ∧ Blk wr (xb + 1 + 1) 4 (boolArr ll.length (circK ll s k)))
  case atStart => exact ⟨0, by omega, by omega, rfl, Kept.refl _ _, H3.out.2.1⟩
  case round =>
    obtain ⟨k, hk, rfl, rfl, hkept, hblk⟩ := hrel
    by_cases hlt : k < ll.length
    · have hnodes := right_nodes HR.out.2.2.2.1 hlt
      have hrlen : ll[k].length ≤ 256 := by have := no_dup_long (HR.out.2.2.2.1.2.2 _ (List.getElem_mem hlt)); omega
      have env := H3.out.2.2.1.keep (hkept.mono fun b hb => by omega)
      have hs3 := hkept.size
      rw [H3.out.2.2.2.2] at hs3
      obtain ⟨a1, cap1, hv1, _, _, _, hr1⟩ := env.rows
      injection hv1 with ea1 _ ec1
      subst ea1; subst ec1
      obtain ⟨b1, o1, c1, rfl, hb1, hc1, hrow⟩ := hr1 k ll[k] (List.getElem?_eq_getElem hlt)
      have hrow' := hrow
      obtain ⟨Ar, cr, rfl, _⟩ := hrow'
      have hcirc : circB ll s k = (reachB ll s k && (ll[k]).any fun x => reachB ll x.toNat k) := by unfold circB; rw [List.getElem?_eq_getElem hlt]; rfl
      obtain ⟨b2, o2, b3, o3, c3, hAb, hsb2, h2, h2', hsb3, h3⟩ := brow_at env.tab hs hlt
      have hEc := Lib.hid (And.intro hcirc (And.intro env (And.intro hblk (And.intro hrow (And.intro hnodes hkept)))))
      have hcx := env.been.cell 0
      have hck := hblk.cell k
      have hfk := hblk.free k
      rw [boolArr_at hlt] at hck
      simp only [List.getElem?_toArray, List.getElem?_cons_zero] at hcx
      clear hcirc env hblk hrow hnodes hkept hr1
      subst hAb
      generalize ll[k] = row at *
      go_upto_region 9 with fail
      obtain ⟨wq, hwq⟩ : ∃ wq, wq = wr.alloc (.cells #[.int .i64 k] 3) := ⟨_, rfl⟩
      have hkq : Kept All wr wq := hwq ▸ (Kept.refl _ wr).alloc _
      have hbi : Blk wq wr.heap.size 3 #[.int .i64 k] := hwq ▸ Blk.new _ _ _
      have q1 := hkq.cell (p := ⟨xb, 0, none⟩) trivial hcx
      have q2 := hkq.cell (p := ⟨b2, o2 + s, none⟩) trivial h2
      have q3 := hkq.cell (p := ⟨b3, o3 + k, none⟩) trivial h3
      have q4 := hkq.cell (p := ⟨xb + 1 + 1, k, none⟩) trivial hck
      have q5 : wq.frozen? ⟨xb + 1 + 1, k, none⟩ = false := (hEc.out.2.2.1.kept hkq trivial).free k
      have q6 := hbi.cell 0
      simp only [List.getElem?_toArray, List.getElem?_cons_zero] at q6
      have hcall : ∀ wn, Kept All wq wn → Calls Try.prog 26 #[.slice Ar row.length cr, .func (.func 27) #[] #[.pointer (some ⟨xb, 0, none⟩), .pointer (some ⟨wr.heap.size, 0, none⟩)]] wn fun e w' => e = .returned (.bool (row.any fun x => reachB ll x.toNat k)) ∧ ∃ n, w' = wn.drewN n := by
        intro wn hkn
        have hk0 : Kept All wr wn := hkq.trans hkn
        exact has_any _ _ ll _ _ row xb wr.heap.size k wn (hEc.out.2.1.been.kept hk0 trivial) (hbi.kept hkn trivial) (goodBRows.keep hk0.all hEc.out.2.1.tab) (goodInts.keep hk0.all hEc.out.2.2.2.1) hEc.out.2.2.2.2.1 hrlen hlt hl
      have HC := Lib.hid (And.intro hcall (And.intro hwq hkq))
      have hnx := hEc.out.1
      rw [← hwq]
      clear hcall hkq hwq hcx h2 h3 hck hfk hbi hc1
      generalize wr.heap.size = xi at q6 HC hs3 ⊢
      cases hp : reachB ll s k with
      | false =>
        rw [hp, Bool.false_and] at hnx
        rw [hp] at q3
        have HP := Lib.hid hnx
        clear hp hnx
        go_region
        go_wp2
        go_roundg (ll.length - (k + 1))
        case measure => omega
        case rel =>
          obtain ⟨_, _, hblk, _, _, hkept⟩ := hEc.out
          refine ⟨k + 1, by omega, rfl, by go_num, ?_, ?_⟩
          · have hk1 : Kept (fun b => b ≤ xb + 1) w3 wq := hkept.trans HC.out.2.2.all
            exact (hk1.setCell (.inl fun h => by have : xb + 1 + 1 ≤ xb + 1 := h; omega) _).drew
          · rw [← circK_next HP.out.symm]
            exact ((hblk.kept HC.out.2.2 trivial).set k _).drew
      | true =>
        rw [hp, Bool.true_and] at hnx
        rw [hp] at q3
        have HP := Lib.hid hnx
        clear hp hnx
        have hS : ∀ wn, Kept (fun b => b ≠ xb + 1 + 1) wq wn → Kept (fun b => b ≠ xb + 1 + 1) wq wn ∧ wn.cell? ⟨xb, 0, none⟩ = some (.slice (some ⟨b2, o2, none⟩) ll.length cb) ∧ wn.cell? ⟨b2, o2 + s, none⟩ = some (.slice (some ⟨b3, o3, none⟩) ll.length c3) ∧ wn.cell? ⟨b3, o3 + k, none⟩ = some (.bool true) ∧ wn.cell? ⟨xi, 0, none⟩ = some (.int .i64 k) :=
          fun wn hkn => ⟨hkn, hkn.cell (p := ⟨xb, 0, none⟩) (by show xb ≠ _; omega) q1, hkn.cell (p := ⟨b2, o2 + s, none⟩) (by have : b2 < xb := hsb2; show b2 ≠ _; omega) q2, hkn.cell (p := ⟨b3, o3 + k, none⟩) (by have : b3 < xb := hsb3; show b3 ≠ _; omega) q3, hkn.cell (p := ⟨xi, 0, none⟩) (by show xi ≠ _; omega) q6⟩
        go_region_held3 (fun wn => Kept (fun b => b ≠ xb + 1 + 1) wq wn ∧ wn.cell? ⟨xb, 0, none⟩ = some (.slice (some ⟨b2, o2, none⟩) ll.length cb) ∧ wn.cell? ⟨b2, o2 + s, none⟩ = some (.slice (some ⟨b3, o3, none⟩) ll.length c3) ∧ wn.cell? ⟨b3, o3 + k, none⟩ = some (.bool true) ∧ wn.cell? ⟨xi, 0, none⟩ = some (.int .i64 k))
          (exact hS _ (by repeat (first | exact Kept.refl _ _ | apply Kept.drew | apply Kept.drewN | (refine Kept.setCell ?_ (.inl fun h => h rfl) _))))
          (first | (go_at_call 26; refine (HC.out.1 _ ((Kept.refl _ _).drew)).mono ?_; rintro e w' ⟨rfl, n', rfl⟩))
        go_wp2
        go_roundg (ll.length - (k + 1))
        case measure => omega
        case rel =>
          obtain ⟨_, _, hblk, _, _, hkept⟩ := hEc.out
          refine ⟨k + 1, by omega, rfl, by go_num, ?_, ?_⟩
          · have hk1 : Kept (fun b => b ≤ xb + 1) w3 wq := hkept.trans HC.out.2.2.all
            exact (hk1.drewN _).setCell (.inl fun h => by have : xb + 1 + 1 ≤ xb + 1 := h; omega) _
          · rw [← circK_next HP.out.symm]
            exact (hblk.kept (HC.out.2.2.drewN (1 + n')) trivial).set k _
    · have hkl : k = ll.length := by omega
      subst hkl
      have henv5 := H3.out.2.2.1.keep (hkept.mono fun b hb => by omega)
      have hob5 := H3.out.1.kept hkept (Nat.le_refl _)
      have hkw5 : Kept (fun b => b < w.heap.size) w wr := (H3.out.2.2.2.1.mono fun b hb => trivial).trans (hkept.mono fun b hb => by omega)
      have hsz5 := hkept.size
      rw [H3.out.2.2.2.2] at hsz5
      have e5 : circK ll s ll.length = fun j => decide (j < ll.length) && circB ll s j := rfl
      have H5 := Lib.hid (And.intro henv5 (And.intro hob5 (And.intro hkw5 hblk)))
      clear hkept hblk hlt hk henv5 hob5 hkw5 e5
      clear H3
      go_wp2_with fail
      obtain ⟨w5, rfl⟩ : ∃ w5 : World, w5 = wr := ⟨_, rfl⟩
      go_loopg [65] ll.length (fun gg x wr => ∃ i : Nat, i ≤ ll.length ∧ gg = ll.length - i ∧ x = .int .i64 i ∧ Kept (fun b => b ≠ xb + 1) w5 wr ∧ Blk wr (xb + 1) 3 (intArr ll.length (outF ll s i 0)))
      case atStart => exact ⟨0, by omega, by omega, rfl, Kept.refl _ _, H5.out.2.1⟩
      case round =>
        obtain ⟨i, hi, rfl, rfl, hkept, hblk⟩ := hrel
        by_cases hlt : i < ll.length
        · have HQ := Lib.hid (And.intro hkept hblk)
          clear hkept hblk
          go_wp2_with fail
          go_loopg [70] ll.length (fun gg x wr => ∃ k : Nat, k ≤ ll.length ∧ gg = ll.length - k ∧ x = .int .i64 k ∧ Kept (fun b => b ≠ xb + 1) w5 wr ∧ Blk wr (xb + 1) 3 (intArr ll.length (outF ll s i k)))
          case atStart => exact ⟨0, by omega, by omega, rfl, HQ.out.1, HQ.out.2⟩
          case round =>
            clear HQ
            obtain ⟨k, hk, rfl, rfl, hkept, hblk⟩ := hrel
            by_cases hlk : k < ll.length
            · have env := H5.out.1.keep (hkept.mono fun b hb => by omega)
              have hcir := (H5.out.2.2.2.kept hkept (by show xb + 1 + 1 ≠ xb + 1; omega)).cell k
              have ec : circK ll s ll.length k = circB ll s k := by simp [circK, hlk]
              rw [boolArr_at hlk, ec] at hcir
              obtain ⟨b2, o2, b3, o3, c3, rfl, hsb2, h2, h2', hsb3, h3⟩ := brow_at env.tab hlk hlt
              have hcx := env.been.cell 0
              simp only [List.getElem?_toArray, List.getElem?_cons_zero] at hcx
              have hci := hblk.cell i
              have hfi := hblk.free i
              rw [intArr_at hlt] at hci
              have HQ := Lib.hid (And.intro hkept (And.intro hblk (And.intro (@outF_no ll s i k) (@outF_yes ll s i k))))
              clear hkept hblk env ec
              generalize circB ll s k = p at *
              generalize reachB ll k i = q at *
              cases p with
              | false =>
                go_wp2
                go_roundg (ll.length - (k + 1))
                case measure => omega
                case rel => exact ⟨k + 1, by omega, rfl, by go_num, HQ.out.1, by rw [HQ.out.2.2.1 rfl]; exact HQ.out.2.1⟩
              | true =>
                cases q with
                | false =>
                  go_wp2
                  go_roundg (ll.length - (k + 1))
                  case measure => omega
                  case rel => exact ⟨k + 1, by omega, rfl, by go_num, HQ.out.1, by rw [HQ.out.2.2.1 rfl]; exact HQ.out.2.1⟩
                | true =>
                  go_wp2
                  go_roundg (ll.length - (k + 1))
                  case measure => omega
                  case rel =>
                    refine ⟨k + 1, by omega, rfl, by go_num, HQ.out.1.setCell (.inl fun h => h rfl) _, ?_⟩
                    rw [← HQ.out.2.2.2 rfl, ← intArr_set]
                    exact HQ.out.2.1.set i _
            · have hkl : k = ll.length := by omega
              subst hkl
              have HQ := Lib.hid (And.intro hkept hblk)
              clear hkept hblk
              go_wp2_with fail
              go_roundg (ll.length - (i + 1))
              case measure => omega
              case rel => exact ⟨i + 1, by omega, rfl, by go_num, HQ.out.1, by rw [← outF_next]; exact HQ.out.2⟩
        · have hil : i = ll.length := by omega
          subst hil
          have hblk0 : Blk wr (xb + 1) 3 (intArr ll.length (out0 ll s)) := by rw [← intArr_congr fun j hj => outF_end (s := s) hj]; exact hblk
          have hcs := hblk0.cell s
          have hfs := hblk0.free s
          rw [intArr_at hs] at hcs
          have HQ := Lib.hid (And.intro hkept (And.intro hblk0 (einv_start (s := s) (right_all HR.out.2.2.2.1))))
          clear hkept hblk hblk0 hlt hi
          go_upto_if 95 with fail
          go_cut [] from 96 to 98 (fun wx => Kept (fun b => b ≠ xb + 1) w5 wx ∧ Blk wx (xb + 1) 3 (intArr ll.length (if out0 ll s s = 0 then setI (out0 ll s) s 1 else out0 ll s)))
          case first =>
            by_cases h0 : out0 ll s s = 0
            · have h0' : (out0 ll s s == 0) = true := by simp [h0]
              go_wp2
              go_meet
              rw [if_pos h0]
              exact ⟨HQ.out.1.setCell (.inl fun h => h rfl) _, by rw [← intArr_set]; exact HQ.out.2.1.set s _⟩
            · have h0' : (out0 ll s s == 0) = false := by simp [h0]
              go_wp2
              go_meet
              rw [if_neg h0]
              exact ⟨HQ.out.1, HQ.out.2.1⟩
          case rest =>
            have hkc : Kept All w wc := (H5.out.2.2.1.trans (hcut.1.mono fun b hb => by omega)).low
            have hsc := hcut.1.size
            have hes := HQ.out.2.2
            have envc := H5.out.1.keep (hcut.1.mono fun b hb => by omega)
            generalize (if out0 ll s s = 0 then setI (out0 ll s) s 1 else out0 ll s) = f0 at *
            have HD := Lib.hid (And.intro hkc (And.intro hcut.2 (And.intro hes envc)))
            clear hkc hcut hes envc hcs hfs HQ H5
            go_wp2_with fail
            refine (HR.out.2.2.1 _ HD.out.1).mono ?_
            rintro e w6 ⟨u, B, rfl, hk6, hB, ho, hgl⟩
            have hlr : (groupsAll ll).reverse.length = (groupsAll ll).length := List.length_reverse
            have hG1 := groups_some (ll := ll) HR.out.2.2.2.1.1
            have hrev := rev_rows ho hG1 hgl
            obtain ⟨Ag, cg, rfl⟩ : ∃ A c, u = .slice A (groupsAll ll).length c := by
              obtain ⟨vs, hv, _⟩ := ho
              rcases hv.2 with ⟨_, hn⟩ | ⟨g, cap, cur, rfl, _⟩
              · omega
              · exact ⟨_, _, rfl⟩
            have henv6 := HD.out.2.2.2.keep hk6.all
            have hob6 := HD.out.2.1.kept hk6 trivial
            have H6 := Lib.hid (And.intro hk6 (And.intro hrev (And.intro henv6 hob6)))
            clear hk6 hrev henv6 hob6 ho
            go_wp2_with fail
            refine (H6.out.2.1).mono ?_
            rintro e w7 ⟨rfl, hk7, hrows⟩
            generalize hgn : (groupsAll ll).length = n at *
            have HGN := Lib.hid (And.intro hgn hlr)
            clear hgn hlr
            have henv7 := H6.out.2.2.1.keep (hk7.mono fun b hb => by omega)
            have hob7 := H6.out.2.2.2.kept hk7 (by omega)
            have hkw7 : Kept (fun b => b < w.heap.size) w w7 := ((HD.out.1.trans H6.out.1).mono fun _ _ => trivial).trans (hk7.mono fun b hb => by omega)
            have H7 := Lib.hid (And.intro henv7 (And.intro hob7 (And.intro hkw7 hrows)))
            clear henv7 hob7 hkw7 hrows hk7 H6
            go_wp2_with fail
            go_loopg [105] n (fun gg x wr => ∃ (r : Nat) (f : Nat → Int), r ≤ n ∧ gg = n - r ∧ x = .int .i64 r ∧ EInv ll s (doneR ll r) f ∧ Kept (fun b => b ≠ xb + 1) w7 wr ∧ Blk wr (xb + 1) 3 (intArr ll.length f))
            case atStart => exact ⟨0, f0, by omega, by omega, rfl, HD.out.2.2.1, Kept.refl _ _, H7.out.2.1⟩
            case round =>
              obtain ⟨r, f, hr, rfl, rfl, hinv, hkept, hblk⟩ := hrel
              by_cases hlr2 : r < n
              · have hrl : r < (groupsAll ll).reverse.length := by rw [HGN.out.2]; exact hlr2
                have hG := List.getElem?_eq_getElem hrl
                obtain ⟨a1, cap1, hv1, _, _, _, hr1⟩ := HGN.out.2 ▸ goodRows.keep (hkept.mono fun b hb => by omega) H7.out.2.2.2
                injection hv1 with ea1 _ ec1
                subst ea1; subst ec1
                obtain ⟨b1, o1, c1, rfl, hb1, hc1, hrowG⟩ := hr1 r _ hG
                have hrowG' := hrowG
                obtain ⟨Ar, cr, rfl, _, _, hGl, _⟩ := hrowG'
                have hnodes : ∀ x ∈ (groupsAll ll).reverse[r], ∃ n : Nat, x = n ∧ n < ll.length := groups_nodes _ _ _ (List.mem_reverse.1 (List.getElem_mem hrl))
                have HG := Lib.hid (And.intro hG (And.intro hrowG (And.intro hnodes (And.intro hinv (And.intro hkept hblk)))))
                clear hG hrowG hnodes hinv hkept hblk hr1
                generalize (groupsAll ll).reverse[r] = G at *
                go_wp2_with fail
                obtain ⟨wg, rfl⟩ : ∃ wg : World, wg = wr := ⟨_, rfl⟩
                go_loopg [111] G.length (fun gg x wr => ∃ (q : Nat) (f : Nat → Int), q ≤ G.length ∧ gg = G.length - q ∧ x = .int .i64 q ∧ EInv ll s (fun p => doneR ll r p ∨ (p : Int) ∈ G.take q) f ∧ Kept (fun b => b ≠ xb + 1) w7 wr ∧ Kept (fun b => b ≠ xb + 1) wg wr ∧ Blk wr (xb + 1) 3 (intArr ll.length f))
                case atStart => exact ⟨0, f, by omega, by omega, rfl, HG.out.2.2.2.1.less (fun p hp _ => by rcases hp with h | h; exact h; simp at h), HG.out.2.2.2.2.1, Kept.refl _ _, HG.out.2.2.2.2.2⟩
                case round =>
                  obtain ⟨q, f, hq, rfl, rfl, hinv, hkept, hkg, hblk⟩ := hrel
                  have hbdq := fun i hi => hinv.bound (right_closed HR.out.2.2.2.1) hs (i := i) hi
                  by_cases hlq : q < G.length
                  · obtain ⟨i, hii, hil⟩ := HG.out.2.2.1 G[q] (List.getElem_mem hlq)
                    obtain ⟨a2, cap2, hv2, _, _, _, hrG⟩ := goodInts.keep (hkg.mono fun b hb => by omega) HG.out.2.1
                    injection hv2 with ea2 _ ec2
                    subst ea2; subst ec2
                    obtain ⟨b4, o4, c4, rfl, hb4, hc4, rfl, _⟩ := hrG q _ (List.getElem?_eq_getElem hlq)
                    rw [hii] at hc4
                    have hbi := hbdq i hil
                    have hciq := hblk.cell i
                    rw [intArr_at hil] at hciq
                    have hmem : (i : Int) ∈ G := by rw [← hii]; exact List.getElem_mem hlq
                    have hfull : ¬ Bad ll s i → ∀ m, Way ll s m i → (m : Int) ≤ f i := fun hb => einv_full hinv hil hb fun p hp e => .inl (done_adj HG.out.1 hmem hb hil p hp e)
                    have hdone : ∀ p, (doneR ll r p ∨ (p : Int) ∈ G.take (q + 1)) → (doneR ll r p ∨ (p : Int) ∈ G.take q) ∨ p = i := by
                      intro p hp
                      rcases hp with hp | hp
                      · exact .inl (.inl hp)
                      · rw [List.take_add_one, List.getElem?_eq_getElem hlq, hii] at hp
                        rcases List.mem_append.1 hp with hp | hp
                        · exact .inl (.inr hp)
                        · right; have : (p : Int) = i := by simpa using hp
                          omega
                    have HI := Lib.hid (And.intro hinv (And.intro hkept (And.intro hkg (And.intro hblk (And.intro hfull (And.intro hdone (And.intro hmem hii)))))))
                    clear hinv hkept hkg hblk hfull hdone hmem hii hrG hbdq
                    by_cases hlow : f i < 1
                    · have HL := Lib.hid hlow
                      have hlow' : decide (f i < 1) = true := by simpa using hlow
                      clear hlow
                      generalize hvi : f i = v at *
                      have HV := Lib.hid hvi
                      clear hvi
                      go_wp2_with fail
                      go_roundg (G.length - (q + 1))
                      case measure => omega
                      case rel =>
                        refine ⟨q + 1, f, by omega, rfl, by go_num, ?_, HI.out.2.1, HI.out.2.2.1, HI.out.2.2.2.1⟩
                        exact (HI.out.1.node (i := i) (fun hb m hm => by have := HI.out.2.2.2.2.1 hb m hm; have := HV.out; omega) (fun h1 => by have := HL.out; have := HV.out; omega)).less fun p hp _ => HI.out.2.2.2.2.2.1 p hp
                    · have hlow' : decide (f i < 1) = false := by simpa using hlow
                      have h1v : 1 ≤ f i := by omega
                      have hnb := HI.out.1.not_bad hil (by omega)
                      have hfull := HI.out.2.2.2.2.1 hnb
                      have env := H7.out.1.keep (HI.out.2.1.mono fun b hb => by omega)
                      obtain ⟨a5, cap5, hv5, _, _, _, hr5⟩ := env.rows
                      injection hv5 with ea5 _ ec5
                      subst ea5; subst ec5
                      obtain ⟨b6, o6, c6, rfl, hb6, hc6, hrow6⟩ := hr5 i ll[i] (List.getElem?_eq_getElem hil)
                      have hrow6' := hrow6
                      obtain ⟨Ai, ci, rfl, _, _, _, _⟩ := hrow6'
                      have hnodes := right_nodes HR.out.2.2.2.1 hil
                      have hadj : ∀ k : Nat, Adj ll i k ↔ (k : Int) ∈ ll[i] := fun k => adj_row hil
                      have hrlen : ll[i].length ≤ 256 := by have := no_dup_long (HR.out.2.2.2.1.2.2 _ (List.getElem_mem hil)); omega
                      have hnself : ¬ Adj ll i i := fun e => hnb (bad_circ hil (HI.out.1.way hil h1v).reach e .refl)
                      have HJ := Lib.hid (And.intro hnodes (And.intro hadj (And.intro hrow6 (And.intro hnself (And.intro hfull h1v)))))
                      clear hnodes hadj hrow6 hnself hfull hr5 env hnb hlow h1v
                      generalize ll[i] = row at *
                      obtain ⟨v, hv⟩ : ∃ v, v = f i := ⟨_, rfl⟩
                      rw [← hv] at hciq hlow' hbi
                      have HV := Lib.hid hv
                      clear hv
                      go_wp2_with fail
                      obtain ⟨wi, rfl⟩ : ∃ wi : World, wi = wr := ⟨_, rfl⟩
                      clear hciq hc6 hc4 hc1
                      go_loopg [125] row.length (fun gg x wr => ∃ (t : Nat) (f' : Nat → Int), t ≤ row.length ∧ gg = row.length - t ∧ x = .int .i64 t ∧ EInv ll s (fun p => doneR ll r p ∨ (p : Int) ∈ G.take q) f' ∧ f' i = v ∧
                        (∀ y ∈ row.take t, ¬ Bad ll s y.toNat → v + 1 ≤ f' y.toNat) ∧ Kept (fun b => b ≠ xb + 1) wi wr ∧ Blk wr (xb + 1) 3 (intArr ll.length f'))
                      case atStart => exact ⟨0, f, by omega, by omega, rfl, HI.out.1, HV.out.symm, fun y hy => by simp at hy, Kept.refl _ _, HI.out.2.2.2.1⟩
                      case round =>
                        obtain ⟨t, f', ht, rfl, rfl, hinv, hfi, hdn, hkp, hblk⟩ := hrel
                        have hbd := fun i hi => hinv.bound (right_closed HR.out.2.2.2.1) hs (i := i) hi
                        by_cases hlt : t < row.length
                        · obtain ⟨k, hyk, hkl⟩ := HJ.out.1 row[t] (List.getElem_mem hlt)
                          obtain ⟨a7, cap7, hv7, _, _, _, hr7⟩ := goodInts.keep (hkp.mono fun b hb => by omega) HJ.out.2.2.1
                          injection hv7 with ea7 _ ec7
                          subst ea7; subst ec7
                          obtain ⟨b8, o8, c8, rfl, hb8, hc8, rfl, _⟩ := hr7 t _ (List.getElem?_eq_getElem hlt)
                          rw [hyk] at hc8
                          have hka : Adj ll i k := (HJ.out.2.1 k).2 (by rw [← hyk]; exact List.getElem_mem hlt)
                          have hki : k ≠ i := fun e => HJ.out.2.2.2.1 (by rw [e] at hka; exact hka)
                          have c1 := hblk.cell k
                          have c2 := hblk.cell i
                          have g1 := hblk.free k
                          rw [intArr_at hkl] at c1
                          rw [intArr_at hil, hfi] at c2
                          have htk : row.take (t + 1) = row.take t ++ [(k : Int)] := by rw [List.take_add_one, List.getElem?_eq_getElem hlt, hyk]; rfl
                          have hbk := hbd k hkl
                          by_cases hneg : f' k < 0
                          · have hneg' : decide (0 ≤ f' k) = false := by simpa using hneg
                            have hkb : Bad ll s k := by
                              cases Classical.em (Bad ll s k) with
                              | inl h => exact h
                              | inr h => have := ((hinv k hkl).2 h).1; omega
                            have HI2 := Lib.hid (And.intro hinv (And.intro hfi (And.intro hdn (And.intro hkp (And.intro hblk (And.intro htk hkb))))))
                            clear hinv hfi hdn hkp hblk htk hkb hneg hr7 hbd hyk hka
                            generalize f' k = z at *
                            go_wp2_with fail
                            go_roundg (row.length - (t + 1))
                            case measure => omega
                            case rel =>
                              refine ⟨t + 1, f', by omega, rfl, by go_num, HI2.out.1, HI2.out.2.1, fun y hy hb => ?_, HI2.out.2.2.2.1, HI2.out.2.2.2.2.1⟩
                              rw [HI2.out.2.2.2.2.2.1] at hy
                              rcases List.mem_append.1 hy with hy | hy
                              · exact HI2.out.2.2.1 y hy hb
                              · rw [List.mem_singleton.1 hy, Int.toNat_natCast] at hb
                                exact absurd HI2.out.2.2.2.2.2.2 hb
                          · have hneg' : decide (0 ≤ f' k) = true := by simp; omega
                            have hnew := hinv.max hil hkl hka (by rw [hfi]; exact HV.out ▸ HJ.out.2.2.2.2.2) (by omega)
                            rw [hfi] at hnew
                            have HI2 := Lib.hid (And.intro hinv (And.intro hfi (And.intro hdn (And.intro hkp (And.intro hblk (And.intro htk hnew))))))
                            clear hinv hfi hdn hkp hblk htk hnew hneg hr7 hbd hyk hka
                            obtain ⟨z, hz⟩ : ∃ z, z = f' k := ⟨_, rfl⟩
                            rw [← hz] at c1 hbk hneg'
                            have HZ := Lib.hid hz
                            clear hz
                            go_wp2_with fail
                            go_region
                            have hmx0 : (if z < v + 1 then v + 1 else z) = Max.max z (v + 1) := by split <;> omega
                            generalize (if z < v + 1 then v + 1 else z) = mx at *
                            have HM := Lib.hid hmx0
                            clear hmx0
                            go_wp2
                            go_roundg (row.length - (t + 1))
                            case measure => omega
                            case rel =>
                              obtain ⟨hinv, hfi, hdn, hkp, hblk, htk, hnew⟩ := HI2.out
                              have hzz := HZ.out
                              have hmx := HM.out
                              rw [← hzz] at hnew
                              refine ⟨t + 1, setI f' k (Max.max z (v + 1)), by omega, rfl, by go_num, hnew, by rw [setI_ne hki.symm]; exact hfi, fun y hy hb => ?_, (hkp.setCell (.inl fun h => h rfl) _).drew, ?_⟩
                              · rw [htk] at hy
                                by_cases hyk2 : y.toNat = k
                                · rw [hyk2, setI_self]; omega
                                · rw [setI_ne hyk2]
                                  rcases List.mem_append.1 hy with hy | hy
                                  · exact hdn y hy hb
                                  · rw [List.mem_singleton.1 hy, Int.toNat_natCast] at hyk2
                                    exact absurd rfl hyk2
                              · rw [← intArr_set, ← hmx]
                                exact (hblk.set k _).drew
                        · have htt : t = row.length := by omega
                          subst htt
                          have HI2 := Lib.hid (And.intro hinv (And.intro hfi (And.intro hdn (And.intro hkp hblk))))
                          clear hinv hfi hdn hkp hblk hbd hlt
                          go_wp2_with fail
                          go_roundg (G.length - (q + 1))
                          case measure => omega
                          case rel =>
                            obtain ⟨hinv, hfi, hdn, hkp, hblk⟩ := HI2.out
                            refine ⟨q + 1, f', by omega, rfl, by go_num, ?_, HI.out.2.1.trans (hkp.mono fun b hb => hb), HI.out.2.2.1.trans (hkp.mono fun b hb => hb), hblk⟩
                            refine (hinv.node (i := i) (fun hb m hm => by rw [hfi, HV.out]; exact HJ.out.2.2.2.2.1 m hm) (fun _ k e hb => ?_)).less fun p hp _ => HI.out.2.2.2.2.2.1 p hp
                            rw [hfi]
                            have := hdn (k : Int) (by rw [List.take_length]; exact (HJ.out.2.1 k).1 e) (by rw [Int.toNat_natCast]; exact hb)
                            rw [Int.toNat_natCast] at this
                            exact this
                  · have hqq : q = G.length := by omega
                    subst hqq
                    have HI := Lib.hid (And.intro hinv (And.intro hkept hblk))
                    clear hinv hkept hblk hkg hbdq
                    go_wp2_with fail
                    go_roundg (n - (r + 1))
                    case measure => omega
                    case rel =>
                      refine ⟨r + 1, f, by omega, rfl, by go_num, HI.out.1.less fun p hp _ => ?_, HI.out.2.1, HI.out.2.2⟩
                      rw [List.take_length]
                      exact done_next HG.out.1 p hp
              · have hrr : r = n := by omega
                subst hrr
                have hbd := fun i hi => hinv.bound (right_closed HR.out.2.2.2.1) hs (i := i) hi
                have hlist := entries_list (HGN.out.1 ▸ hinv)
                have hk := (H7.out.2.2.1.trans (hkept.mono fun b hb => by omega)).low
                have hE := ints_blk (S := fun b => w.heap.size ≤ b) hblk (by omega) (by omega) (fun i hi => WalkArith.wf_i64 (by have := hbd i hi; omega))
                rw [hlist] at hE
                have HE := Lib.hid (And.intro hk hE)
                clear hbd hlist hk hE hinv hkept hblk
                go_wp2_with fail
                go_ret
                exact ⟨_, rfl, HE.out.1, HE.out.2⟩

theorem entries_no (S : Nat → Prop) (v : Value) (ll : List (List Int)) (m : Int) (w : World) (hv : Rows S w v ll) (hR : ¬ (RightP ll ∧ 0 ≤ m ∧ m < ll.length)) :
    Calls Try.prog 13 #[v, .int .i64 m] w fun e w' => e = .returned (.slice none 0 0) ∧ Kept All w w' := by
  have hright := right_any S v ll w hv
  obtain ⟨A, cap, rfl, h1, h2, hbw, h⟩ := hv
  by_cases hr : RightP ll
  · rw [decide_eq_true hr] at hright
    by_cases hm : m < 0
    · have hm' : decide (m < 0) = true := by simpa using hm
      have HR := Lib.hid hright
      clear hright h hR hr
      go_enter Try.func13, Try.ntmps13
      go_wp2_with fail
      refine HR.out.mono ?_
      rintro e w1 ⟨rfl, hk1⟩
      have HK := Lib.hid hk1
      clear hk1
      go_wp2_with fail
      go_ret
      exact ⟨rfl, HK.out⟩
    · have hm' : decide (m < 0) = false := by simpa using hm
      have hl' : decide ((ll.length : Int) ≤ m) = true := by
        simp only [decide_eq_true_eq]
        rcases Int.lt_or_le m ll.length with h3 | h3
        · exact absurd ⟨hr, by omega, h3⟩ hR
        · exact h3
      have HR := Lib.hid hright
      clear hright h hR hr
      go_enter Try.func13, Try.ntmps13
      go_wp2_with fail
      refine HR.out.mono ?_
      rintro e w1 ⟨rfl, hk1⟩
      have HK := Lib.hid hk1
      clear hk1
      go_wp2_with fail
      go_ret
      exact ⟨rfl, HK.out⟩
  · rw [decide_eq_false hr] at hright
    have HR := Lib.hid hright
    clear hright h hR hr
    go_enter Try.func13, Try.ntmps13
    go_wp2_with fail
    refine HR.out.mono ?_
    rintro e w1 ⟨rfl, hk1⟩
    have HK := Lib.hid hk1
    clear hk1
    go_wp2_with fail
    go_ret
    exact ⟨rfl, HK.out⟩
end Go.Proofs.Ytjfonoiclndgnaa
