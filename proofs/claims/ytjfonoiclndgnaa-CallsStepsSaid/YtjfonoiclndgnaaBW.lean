/- What graph.Back answers: of each node those that lead to it. No condition but that the graph may be. -/
import Derived.Test.YtjfonoiclndgnaaI
import Derived.Test.YtjfonoiclndgnaaJ
import Derived.Test.YtjfonoiclndgnaaBK
namespace Go.Proofs.Ytjfonoiclndgnaa
open Go.RowKit

theorem mk_rows28 (n : Nat) (hn : n ≤ 1048576) (w : World) : (Instr.makeSlice 22 (.int .i64 n) (.int .i64 n)).run Try.prog w = .ok (.slice (some ⟨w.heap.size, 0, none⟩) n n) (w.alloc (.cells (cellArr n fun _ => .slice none 0 0) 28)) := by
  obtain ⟨i28, hi, hz, hs, hb⟩ := info_parts info28
  rw [run_make (P := Try.prog) w 22 28 i28 (.slice none 0 0) Try.underlying22 hi hz .i64 .i64 n n (by omega) (by omega) (by rw [hb]; omega) (by omega)]
  have e : madeCells (Value.slice none 0 0).cells ((n : Int).toNat * i28.size) = cellArr n fun _ => .slice none 0 0 := by
    rw [hs, Int.toNat_natCast, Nat.mul_one]
    apply Array.ext_getElem?
    intro j
    by_cases hj : j < n
    · rw [cellArr_at hj]; simp [madeCells, hj, Value.cells, Nat.mod_one]
    · rw [Array.getElem?_eq_none (by rw [size_madeCells]; omega), Array.getElem?_eq_none (by rw [cellArr_size]; omega)]
  rw [e, Int.toNat_natCast]

/-- a table whose rows are all of the call's own, no two in one block -/
structure OwnTab (N B g : Nat) (w : World) (F : Nat → Value) (R : Nat → List Int) : Prop where
  tab : Blk w g 28 (cellArr N F)
  low : g < B
  own : ∀ k, k < N → w.ownsRow B 3 1 (F k) (R k).length (intCells (R k))
  apart : ∀ k k' b, k < N → k' < N → k ≠ k' → (F k).ownBlock = some b → (F k').ownBlock ≠ some b
theorem OwnTab.step {N B g k : Nat} {w w2 : World} {F : Nat → Value} {R R' : Nat → List Int} {v2 : Value} {o : Obj} {x : Int} (h : OwnTab N B g w F R) (hk : k < N) (hown : w2.ownsRow B 3 1 v2 ((R k).length + 1) (intCells (R k) ++ [.int .i64 x]))
    (hg : (w.alloc o).grownBy w2 (F k).ownBlock) (hat : v2.ownBlock = (F k).ownBlock ∨ v2.ownBlock = some (w.alloc o).heap.size) (hR : R' k = R k ++ [x]) (hR' : ∀ j, j ≠ k → R' j = R j) :
    OwnTab N B g (w2.setCell ⟨g, k, none⟩ v2) (updV F k v2) R' := by
  have hlow := h.low
  have hk1 : Kept (fun b => (F k).ownBlock ≠ some b) w w2 := ((Kept.refl _ w).alloc o).grown hg fun b hb => .inl fun h => h hb
  have hset : Kept (fun b => b ≠ g) w2 (w2.setCell ⟨g, k, none⟩ v2) := (Kept.refl _ w2).setCell (p := ⟨g, k, none⟩) (.inl fun h => h rfl) _
  refine ⟨?_, hlow, fun j hj => ?_, fun j j' b hj hj' hne hb => ?_⟩
  · rw [← cellArr_set]
    exact (h.tab.kept hk1 (fun e => by have := (own_lt (h.own k hk) e).1; omega)).set _ _
  · by_cases e : j = k
    · subst e
      rw [updV_self, hR]
      have := own_kept hown hset fun b hb => by have := (own_lt hown hb).1; show b ≠ g; omega
      simpa [intCells] using this
    · rw [updV_ne e, hR' j e]
      have h1 := h.own j hj
      refine own_kept (own_kept h1 hk1 fun b hb => h.apart j k b hj hk e hb) hset fun b hb => ?_
      have := (own_lt h1 hb).1
      show b ≠ g; omega
  · by_cases e : j = k
    · subst e
      rw [updV_self] at hb
      rw [updV_ne (fun x => hne x.symm)]
      rcases hat with h1 | h1
      · rw [h1] at hb; exact h.apart j j' b hj hj' hne hb
      · rw [h1] at hb
        intro h2
        have := (own_lt (h.own j' hj') h2).2
        simp at hb; omega
    · rw [updV_ne e] at hb
      by_cases e' : j' = k
      · subst e'
        rw [updV_self]
        rcases hat with h1 | h1
        · rw [h1]; exact h.apart j j' b hj hj' hne hb
        · rw [h1]
          intro h2
          have := (own_lt (h.own j hj) hb).2
          simp at h2; omega
      · rw [updV_ne e']; exact h.apart j j' b hj hj' hne hb

set_option maxHeartbeats 1000000 in
theorem back_any (S : Nat → Prop) (v : Value) (ll : List (List Int)) (w : World) (hv : Rows S w v ll) (hR : RightP ll) :
    Calls Try.prog 17 #[v] w fun e w' => ∃ u, e = .returned u ∧ Kept All w w' ∧ Rows (fun b => w.heap.size ≤ b) w' u ((List.range ll.length).map (preds ll ll.length)) := by
  have hright := right_any S v ll w hv
  rw [decide_eq_true hR] at hright
  have hl : ll.length ≤ 256 := hR.2.1
  have hv' := hv
  obtain ⟨A, cap, rfl, h1, h2, hbw, h⟩ := hv
  obtain ⟨i3, hi3, hz3, hs3, hb3⟩ := info_parts info3
  have I3 := Lib.hid (And.intro hi3 (And.intro hz3 (And.intro hs3 hb3)))
  have HR := Lib.hid (And.intro hright (And.intro hR hv'))
  clear hright hR hv' h h1 h2 hbw hi3 hz3 hs3 hb3
  have hmk := fun w => mk_rows28 ll.length (by omega) w
  go_enter Try.func17, Try.ntmps17
  go_wp2_with fail
  refine HR.out.1.mono ?_
  rintro e w1 ⟨rfl, hk1⟩
  have HK := Lib.hid hk1
  clear hk1
  go_wp2_with fail
  go_loopg [17] ll.length (fun g i wr => ∃ (i' : Nat) (F : Nat → Value), i' ≤ ll.length ∧ g = ll.length - i' ∧ i = .int .i64 i' ∧ Kept All w1 wr ∧ w1.heap.size < wr.heap.size ∧ OwnTab ll.length (w1.heap.size + 1) w1.heap.size wr F (fun k => preds ll i' k))
  case atStart =>
    refine ⟨0, fun _ => .slice none 0 0, by omega, by omega, rfl, (Kept.refl _ _).alloc _, by simp, Blk.new _ _ _, by omega, fun k hk => ⟨rfl, .inl ⟨rfl, rfl⟩⟩, fun k k' b _ _ _ h => by cases h⟩
  case round =>
    obtain ⟨i, F, hi, rfl, rfl, hkept, hsz, htab⟩ := hrel
    have HT := Lib.hid (And.intro hkept htab)
    clear hkept htab
    by_cases hlt : i < ll.length
    · obtain ⟨row, hgi⟩ : ∃ row, ll[i]? = some row := ⟨_, List.getElem?_eq_getElem hlt⟩
      have hrow : RowOk ll.length row := HR.out.2.1.2.2 row (List.mem_of_getElem? hgi)
      have hrl := no_dup_long hrow
      obtain ⟨A', cc, hvv, _, _, _, hcells⟩ := HR.out.2.2
      cases hvv
      obtain ⟨b1, o1, c1, rfl, hs1, hc1, A3, c3, rfl, r1, r2, _, rh⟩ := hcells i row hgi
      have hc1' := (HK.out.trans HT.out.1).cell (p := ⟨b1, o1 + i, none⟩) trivial hc1
      have HROW := Lib.hid (And.intro hgi (And.intro hrow rh))
      clear hgi hrow rh hc1 hcells r1 r2
      go_wp2_with fail
      clear hc1'
      obtain ⟨wo, rfl⟩ : ∃ wo : World, wo = wr := ⟨_, rfl⟩
      go_loopg [24] row.length (fun g m wr => ∃ (m' : Nat) (F : Nat → Value), m' ≤ row.length ∧ g = row.length - m' ∧ m = .int .i64 m' ∧ Kept All w1 wr ∧ w1.heap.size < wr.heap.size ∧ OwnTab ll.length (w1.heap.size + 1) w1.heap.size wr F (fun k => predsK ll row i m' k))
      case atStart => exact ⟨0, F, by omega, by omega, rfl, HT.out.1, hsz, by simpa only [predsK_0] using HT.out.2⟩
      case round =>
        clear HT hsz
        obtain ⟨m, F, hm, rfl, rfl, hkept, hsz, htab⟩ := hrel
        by_cases hlt2 : m < row.length
        · obtain ⟨b2, o2, c2, rfl, hs2, hc2, rfl, hwf⟩ := HROW.out.2.2 m row[m] (List.getElem?_eq_getElem hlt2)
          have hd2 := (HK.out.trans hkept).cell (p := ⟨b2, o2 + m, none⟩) trivial hc2
          obtain ⟨y0, y1⟩ := HROW.out.2.1.1 row[m] (List.getElem_mem hlt2)
          obtain ⟨q, hq⟩ : ∃ q : Nat, row[m] = q := ⟨row[m].toNat, by omega⟩
          have hql : q < ll.length := by omega
          have hyes := predsK_yes (ll := ll) (i := i) hlt2 HROW.out.2.1.2 hq
          have hno := fun j hj => predsK_no (ll := ll) (i := i) (j := j) hlt2 hq hj
          rw [hq] at hd2
          have hcell := htab.tab.cell q
          rw [cellArr_at hql] at hcell
          have hown := htab.own q hql
          have hlen := predsK_len (ll := ll) row i m q
          have hown1 : (wr.alloc (.cells #[.int .i64 i] 3)).ownsRow (w1.heap.size + 1) 3 1 (F q) (predsK ll row i m q).length (intCells (predsK ll row i m q)) := own_kept hown ((Kept.refl All wr).alloc _) (fun _ _ => trivial)
          have HT := Lib.hid (And.intro hkept (And.intro htab (And.intro hyes hno)))
          clear hkept htab hyes hno hq y0 y1 hc2 hwf hown
          go_wp2_with (at_builtin
                       refine wpList_app _ rfl (.tmp 33) (.tmp 35) 28 rfl (w1.heap.size + 1) 3 i3 _ 1 8 Try.underlying28 I3.out.1 I3.out.2.1 I3.out.2.2.1 I3.out.2.2.2 rfl (by decide) _ _ _ rfl hown1 (some ⟨wr.heap.size, 0, none⟩) 1 1 [.int .i64 i] rfl rfl ?_ ?_ (by unfold maxLen; omega) (by omega) (by simp; omega) ?_
                       · intro _
                         exact ⟨_, _, rfl, fun j u hu => by
                           rw [Nat.zero_add, Blk.cell (Blk.new _ _ _)]; simpa using hu⟩
                       · intro u hu
                         rw [List.mem_singleton.1 hu]; rfl
                       intro v2 w2 hown4 hg2 hat2
                       obtain ⟨A2, c2, rfl⟩ := own_form hown4
                       have hk2 : Kept (fun b => (F q).ownBlock ≠ some b) wr w2 := ((Kept.refl _ wr).alloc _).grown hg2 fun g hg => .inl fun h => h hg
                       have htab2 := HT.out.2.1.tab.kept hk2 (fun e => by have := (own_lt (HT.out.2.1.own q hql) e).1; omega)
                       have hcell := htab2.cell q
                       rw [cellArr_at hql] at hcell
                       have hfree := htab2.free q
                       have hsz2 := hk2.size
                       have hstep := HT.out.2.1.step hql hown4 hg2 hat2 HT.out.2.2.1 HT.out.2.2.2
                       have hkk : Kept All w1 w2 := (HT.out.1.alloc _).grown hg2 fun g hg => .inr (by have := (own_lt hown1 hg).1; omega)
                       have HS := Lib.hid (And.intro hstep hkk)
                       clear hown4 hg2 hat2 hk2 htab2 hstep hkk hown1)
          go_roundg (row.length - (m + 1))
          case measure => omega
          case rel => exact ⟨m + 1, updV F q _, by omega, rfl, by go_num, HS.out.2.setCell (p := ⟨w1.heap.size, q, none⟩) (.inr (Nat.le_refl _)) _, by simp; omega, HS.out.1⟩
        · obtain rfl : m = row.length := by omega
          have HT := Lib.hid (And.intro hkept htab)
          clear hkept htab
          go_wp2_with fail
          go_roundg (ll.length - (i + 1))
          case measure => omega
          case rel => exact ⟨i + 1, F, by omega, rfl, by go_num, HT.out.1, hsz, by simpa only [predsK_next HROW.out.1] using HT.out.2⟩
    · obtain rfl : i = ll.length := by omega
      have hints : ∀ k, k < ll.length → Ints (fun b => w1.heap.size < b) wr (F k) (preds ll ll.length k) := fun k hk => by
        have h := HT.out.2.own k hk
        have hlen := preds_len (ll := ll) ll.length k
        exact ints_own h rfl (by omega) (fun g hg => (own_lt h hg).1) fun x hx => by
          obtain ⟨a, rfl, ha, _⟩ := preds_mem.1 hx
          exact WalkArith.wf_i64 (by omega)
      have HI := Lib.hid (And.intro HT.out.1 (And.intro HT.out.2.tab hints))
      clear HT hints
      go_wp2_with fail
      obtain ⟨wo, rfl⟩ : ∃ wo : World, wo = wr := ⟨_, rfl⟩
      go_loopg [42] ll.length (fun g i wr => ∃ (j : Nat) (F : Nat → Value), j ≤ ll.length ∧ g = ll.length - j ∧ i = .int .i64 j ∧ Kept All w1 wr ∧ Blk wr w1.heap.size 28 (cellArr ll.length F) ∧ ∀ k, k < ll.length → Ints (fun b => w1.heap.size < b) wr (F k) (preds ll ll.length k))
      case atStart => exact ⟨0, F, by omega, by omega, rfl, HI.out⟩
      case round =>
        clear HI
        obtain ⟨j, F, hj, rfl, rfl, hkept, hblk, hints⟩ := hrel
        have HI := Lib.hid (And.intro hkept (And.intro hblk hints))
        by_cases hlt2 : j < ll.length
        · have hcell := hblk.cell j
          rw [cellArr_at hlt2] at hcell
          have hfree := hblk.free j
          have hint := hints j hlt2
          obtain ⟨A2, cap2, hF, r1, r2, r3, r4⟩ := hint
          rw [hF] at hcell
          have hclip := clip_any A2 (preds ll ll.length j).length cap2 wr r1 (by unfold maxLen at r2; omega)
          have hnew : Ints (fun b => w1.heap.size < b) wr (.slice A2 (preds ll ll.length j).length (preds ll ll.length j).length) (preds ll ll.length j) := ⟨A2, _, rfl, Nat.le_refl _, Nat.le_trans r1 r2, r3, r4⟩
          have HC := Lib.hid (And.intro hclip hnew)
          clear hkept hblk hints hF hclip hnew r1 r2 r3 r4
          go_wp2_with (go_at_call 22; refine HC.out.1.mono ?_; rintro e w' ⟨rfl, rfl⟩)
          go_roundg (ll.length - (j + 1))
          case measure => omega
          case rel =>
            have hset : Kept (fun b => w1.heap.size < b) wr (wr.setCell ⟨w1.heap.size, j, none⟩ (.slice A2 (preds ll ll.length j).length (preds ll ll.length j).length)) := (Kept.refl _ wr).setCell (p := ⟨w1.heap.size, j, none⟩) (.inl (Nat.lt_irrefl _)) _
            refine ⟨j + 1, updV F j (.slice A2 (preds ll ll.length j).length (preds ll ll.length j).length), by omega, rfl, by go_num, HI.out.1.setCell (p := ⟨w1.heap.size, j, none⟩) (.inr (Nat.le_refl _)) _, ?_, fun k hk => ?_⟩
            · rw [← cellArr_set]; exact HI.out.2.1.set _ _
            · by_cases e : k = j
              · subst e; rw [updV_self]; exact goodInts.keep hset HC.out.2
              · rw [updV_ne e]; exact goodInts.keep hset (HI.out.2.2 k hk)
        · obtain rfl : j = ll.length := by omega
          clear hkept hblk hints
          go_wp2_with fail
          go_ret
          refine ⟨_, rfl, HK.out.trans HI.out.1, ?_⟩
          have hsz1 := HK.out.size
          have e3 : ((List.range ll.length).map (preds ll ll.length)).length = ll.length := by simp
          have := Sl.of_blk (bw := 24) (E := Sl 8 IntE) (S := fun b => w.heap.size ≤ b) (l := (List.range ll.length).map (preds ll ll.length)) (cap := ll.length) HI.out.2.1 hsz1 (by rw [e3]; omega) (by unfold maxLen; omega) (by rw [e3]; omega) (fun i x hx => by
            have hi : i < ll.length := by
              rcases Nat.lt_or_ge i ll.length with h | h
              · exact h
              · rw [List.getElem?_eq_none (by rw [e3]; omega)] at hx; cases hx
            rw [List.getElem?_map, List.getElem?_range hi] at hx
            cases hx
            exact ⟨F i, cellArr_at hi, goodInts.wide (fun b hb => by omega) (HI.out.2.2 i hi)⟩)
          rwa [e3] at this
end Go.Proofs.Ytjfonoiclndgnaa
