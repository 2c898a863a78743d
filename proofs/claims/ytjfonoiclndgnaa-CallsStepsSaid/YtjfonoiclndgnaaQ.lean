/- interdictref18.Circle and interdictref18.long walked. No condition but that the graph may be, and (long) that no circle leads to the node. -/
import Derived.Test.YtjfonoiclndgnaaP
import Derived.Test.YtjfonoiclndgnaaO
import Derived.Deep.QuietTactic
import Derived.BigQuiet
namespace Go.Proofs.Ytjfonoiclndgnaa
open Go.RowKit

/-- a row of a graph, and a cell of it -/
theorem row_at {S : Nat → Prop} {w : World} {A : Option Addr} {n c : Nat} {ll : List (List Int)} (h : Rows S w (.slice A n c) ll) {i : Nat} (hi : i < ll.length) :
    ∃ b o A2 c2, A = some ⟨b, o, none⟩ ∧ S b ∧ w.cell? ⟨b, o + i, none⟩ = some (.slice A2 (ll[i]).length c2) ∧ Ints S w (.slice A2 (ll[i]).length c2) ll[i] ∧ (ll[i]).length ≤ c2 ∧ c2 ≤ maxLen := by
  obtain ⟨a, cap, hv, _, _, _, h⟩ := h
  injection hv with e1 e2 e3
  subst e1
  obtain ⟨b, o, c', rfl, hs, hc, hE⟩ := h i _ (List.getElem?_eq_getElem hi)
  have hE' := hE
  obtain ⟨A2, c2, rfl, h1, h2, _⟩ := hE'
  exact ⟨b, o, A2, c2, rfl, hs, hc, hE, h1, h2⟩
theorem int_at {S : Nat → Prop} {w : World} {A : Option Addr} {n c : Nat} {l : List Int} (h : Ints S w (.slice A n c) l) {i : Nat} (hi : i < l.length) : ∃ b o, A = some ⟨b, o, none⟩ ∧ S b ∧ w.cell? ⟨b, o + i, none⟩ = some (.int .i64 l[i]) := by
  obtain ⟨a, cap, hv, _, _, _, h⟩ := h
  injection hv with e1 e2 e3
  subst e1
  obtain ⟨b, o, c', rfl, hs, hc, rfl, _⟩ := h i _ (List.getElem?_eq_getElem hi)
  exact ⟨b, o, rfl, hs, hc⟩

theorem circle_any (S T : Nat → Prop) (ll : List (List Int)) (v vb : Value) (i : Nat) (w : World) (hv : Rows S w v ll) (hb : BRows T w vb (reachM ll)) (hR : RightP ll) (hi : i < ll.length) :
    Calls Try.prog 29 #[v, vb, .int .i64 i] w fun e w' => e = .returned (.bool ((ll[i]).any fun x => reachB ll x.toNat i)) ∧ w = w' := by
  have hl : ll.length ≤ 256 := hR.2.1
  have hnodes := fun x hx => right_row hR hi x hx
  have hrlen : ll[i].length ≤ 256 := by have := no_dup_long (hR.2.2 _ (List.getElem_mem hi)); omega
  have hv' := hv
  have hb' := hb
  obtain ⟨A, cap, rfl, _⟩ := hv
  obtain ⟨Ab, cb, rfl, _⟩ := hb
  rw [reachM_len] at hb' ⊢
  obtain ⟨b1, o1, A2, c2, rfl, hs1, hc1, hrow, h1, h2⟩ := row_at hv' hi
  have H := Lib.hid (And.intro hnodes (And.intro hrow hb'))
  clear hnodes hrow hb' hv' hR
  generalize ll[i] = row at *
  go_enter Try.func29, Try.ntmps29
  go_wp2
  go_loopg [7] row.length (fun g x wr => ∃ k : Nat, k ≤ row.length ∧ g = row.length - k ∧ x = .int .i64 k ∧ w = wr ∧ ∀ y ∈ row.take k, reachB ll y.toNat i = false)
  case atStart => exact ⟨0, by omega, by omega, rfl, rfl, by simp⟩
  case round =>
    obtain ⟨k, hk, rfl, rfl, rfl, hno⟩ := hrel
    have HN := Lib.hid hno
    clear hno
    by_cases hlt : k < row.length
    · obtain ⟨b3, o3, rfl, _, hc3⟩ := int_at H.out.2.1 hlt
      obtain ⟨hy0, hyn⟩ := H.out.1 row[k] (List.getElem_mem hlt)
      obtain ⟨j, hj⟩ : ∃ j : Nat, row[k] = j := ⟨(row[k]).toNat, by omega⟩
      have hjl : j < ll.length := by omega
      obtain ⟨b4, o4, b5, o5, c5, rfl, _, h4, h4', _, h5⟩ := brow_at H.out.2.2 hjl hi
      have HJ := Lib.hid hj
      rw [hj] at hc3
      clear hj hy0 hyn
      cases hp : reachB ll j i with
      | true =>
        rw [hp] at h5
        have HP := Lib.hid hp
        clear hp
        go_wp2
        go_ret
        have h1 : row.any (fun x => reachB ll x.toNat i) = true := List.any_eq_true.2 ⟨_, List.getElem_mem hlt, by rw [HJ.out]; exact HP.out⟩
        exact ⟨by rw [h1]; rfl, rfl⟩
      | false =>
        rw [hp] at h5
        have HP := Lib.hid hp
        clear hp
        go_wp2
        go_roundg (row.length - (k + 1))
        case measure => omega
        case rel =>
          refine ⟨k + 1, by omega, rfl, by go_num, rfl, fun y hy => ?_⟩
          rw [List.take_add_one, List.getElem?_eq_getElem hlt, HJ.out] at hy
          rcases List.mem_append.1 hy with hy | hy
          · exact HN.out y hy
          · rw [show y = (j : Int) by simpa using hy]; exact HP.out
    · have hkl : k = row.length := by omega
      go_wp2
      go_ret
      have hno := HN.out
      rw [hkl, List.take_length] at hno
      have h1 : row.any (fun x => reachB ll x.toNat i) = false := List.any_eq_false.2 fun x hx => by rw [hno x hx]; simp
      exact ⟨by rw [h1]; rfl, rfl⟩

set_option maxRecDepth 100000 in
set_option maxHeartbeats 4000000 in
theorem long_any (S T : Nat → Prop) (ll : List (List Int)) (v vb : Value) (s t : Nat) (w : World) (hv : Rows S w v ll) (hb : BRows T w vb (reachM ll)) (hR : RightP ll) (hs : s < ll.length) (hr : Reach ll s t) (hnb : ¬ Bad ll s t) :
    Calls Try.prog 30 #[v, vb, .int .i64 s, .int .i64 t] w fun e w' => e = .returned (.int .i64 (entry ll s t)) ∧ Kept All w w' := by
  have hl : ll.length ≤ 256 := hR.2.1
  have hC := right_closed hR
  have ht := reach_closed_lt hC hs hr
  have hv' := goodRows.wide (T := fun b => b < w.heap.size) (fun b hb => hb) (rows_lt hv)
  have hb' := brows_lt hb
  obtain ⟨A, cap, rfl, _⟩ := hv
  obtain ⟨Ab, cb, rfl, _⟩ := hb
  rw [reachM_len] at hb' ⊢
  have HR := Lib.hid (And.intro hR (And.intro hC (And.intro hr (And.intro hnb (And.intro hv' hb')))))
  clear hR hC hr hnb hv' hb'
  have hmk := mk_ints ll.length (by omega) w
  have hset : (w.alloc (.cells (intArr ll.length fun _ => 0) 3)).cell? ⟨w.heap.size, s, none⟩ = some (.int .i64 0) := by
    rw [(Blk.new _ _ _).cell, intArr_at hs]
  have hfrz : (w.alloc (.cells (intArr ll.length fun _ => 0) 3)).frozen? ⟨w.heap.size, s, none⟩ = false := (Blk.new _ _ _).free s
  have hb0 : Blk (w.alloc (.cells ((intArr ll.length fun _ => 0).setIfInBounds s (.int .i64 1)) 3)) w.heap.size 3 (intArr ll.length (setI (fun _ => 0) s 1)) := by
    rw [intArr_set]; exact Blk.new _ _ _
  have hk0 : Kept All w (w.alloc (.cells ((intArr ll.length fun _ => 0).setIfInBounds s (.int .i64 1)) 3)) := (Kept.refl _ w).alloc _
  have H0 := Lib.hid (And.intro hb0 hk0)
  clear hb0 hk0
  go_enter Try.func30, Try.ntmps30
  go_wp2_with fail
  obtain ⟨B, hB⟩ : ∃ B, B = w.heap.size := ⟨_, rfl⟩
  rw [← hB] at H0 hset hfrz hmk ⊢
  have HB := Lib.hid hB
  clear hB
  generalize w.alloc (.cells ((intArr ll.length fun _ => 0).setIfInBounds s (.int .i64 1)) 3) = wz at *
  clear hset hfrz hmk
  have HG := Lib.hid (And.intro (LBase.start (s := s) HR.out.2.2.1) (LDone.start (ll := ll) (s := s) (t := t)))
  go_loopg [10] ll.length (fun gg x wr => ∃ (r : Nat) (n : Nat → Int), r ≤ ll.length ∧ gg = ll.length - r ∧ x = .int .i64 r ∧ LBase ll s t n ∧ LDone ll s t r n ∧ Kept (fun b => b < B) w wr ∧ Blk wr B 3 (intArr ll.length n))
  case atStart => exact ⟨0, _, by omega, by omega, rfl, HG.out.1, HG.out.2, H0.out.2.all, H0.out.1⟩
  case round =>
    clear HG
    obtain ⟨r, n0, hr, rfl, rfl, hbase, hdone, hkept, hblk⟩ := hrel
    have HD := Lib.hid (And.intro hbase (And.intro hdone (And.intro hkept hblk)))
    clear hbase hdone hkept hblk
    by_cases hlr : r < ll.length
    · go_wp2_with fail
      go_loopg [11] ll.length (fun gg x wr => ∃ (i : Nat) (n : Nat → Int), i ≤ ll.length ∧ gg = ll.length - i ∧ x = .int .i64 i ∧ LBase ll s t n ∧ LEdge ll t n0 n i 0 ∧ Kept (fun b => b < B) w wr ∧ Blk wr B 3 (intArr ll.length n))
      case atStart => exact ⟨0, n0, by omega, by omega, rfl, HD.out.1, .start, HD.out.2.2.1, HD.out.2.2.2⟩
      case round =>
        obtain ⟨i, n, hi, rfl, rfl, hbase, hedge, hkept, hblk⟩ := hrel
        have HE := Lib.hid (And.intro hbase (And.intro hedge (And.intro hkept hblk)))
        clear hbase hedge hkept hblk
        by_cases hli : i < ll.length
        · have hrow? := List.getElem?_eq_getElem hli
          have hnodes := right_nodes HR.out.1 hli
          have hrlen : ll[i].length ≤ 256 := by have := no_dup_long (HR.out.1.2.2 _ (List.getElem_mem hli)); omega
          have HW := Lib.hid (And.intro hrow? hnodes)
          clear hrow? hnodes
          obtain ⟨row, hrow⟩ : ∃ row, row = ll[i] := ⟨_, rfl⟩
          rw [← hrow] at HW hrlen
          have HRW := Lib.hid hrow
          clear hrow
          go_wp2_with fail
          go_loopg [12] row.length (fun gg x wr => ∃ (k : Nat) (n : Nat → Int), k ≤ row.length ∧ gg = row.length - k ∧ x = .int .i64 k ∧ LBase ll s t n ∧ LEdge ll t n0 n i k ∧ Kept (fun b => b < B) w wr ∧ Blk wr B 3 (intArr ll.length n))
          case atStart => exact ⟨0, n, by omega, by omega, rfl, HE.out.1, HE.out.2.1, HE.out.2.2.1, HE.out.2.2.2⟩
          case round =>
            clear HE
            obtain ⟨k, n, hk, rfl, rfl, hbase, hedge, hkept, hblk⟩ := hrel
            have hrows := goodRows.keep (hkept.mono fun b hb => by have := HB.out; omega) HR.out.2.2.2.2.1
            have htab := goodBRows.keep (hkept.mono fun b hb => by have := HB.out; omega) HR.out.2.2.2.2.2
            obtain ⟨b1, o1, A2, c2, rfl, hs1, hc1, hrowI, h1, h2⟩ := row_at hrows hli
            rw [← HRW.out] at hc1 hrowI h1
            have hci := hblk.cell i
            rw [intArr_at hli] at hci
            have hbi := hbase.bound HR.out.2.1 hs HR.out.2.2.2.1 hli
            by_cases hlk : k < row.length
            · by_cases hpos : 0 < n i
              · have hpos' : decide (0 < n i) = true := by simpa using hpos
                obtain ⟨b3, o3, rfl, hs3, hc3⟩ := int_at hrowI hlk
                obtain ⟨j, hj, hjl⟩ := HW.out.2 row[k] (List.getElem_mem hlk)
                rw [hj] at hc3
                have hrk : row[k]? = some (j : Int) := by rw [List.getElem?_eq_getElem hlk, hj]
                obtain ⟨b4, o4, b5, o5, c5, rfl, _, h4, h4', _, h5⟩ := brow_at htab hjl ht
                have hcj := hblk.cell j
                have hfj := hblk.free j
                rw [intArr_at hjl] at hcj
                have hbj := hbase.bound HR.out.2.1 hs HR.out.2.2.2.1 hjl
                have hadj : Adj ll i j := ⟨row, HW.out.1, List.mem_of_getElem? hrk⟩
                obtain ⟨y, hy⟩ : ∃ y, y = n i := ⟨_, rfl⟩
                obtain ⟨z, hz⟩ : ∃ z, z = n j := ⟨_, rfl⟩
                rw [← hy] at hci hbi hpos hpos'
                rw [← hz] at hcj hbj
                have HI := Lib.hid (And.intro hbase (And.intro hedge (And.intro hkept (And.intro hblk (And.intro hadj (And.intro hrk (And.intro hy hz)))))))
                clear hbase hedge hkept hblk hadj hrk hy hz hrows htab hrowI hj
                cases hp : reachB ll j t with
                | false =>
                  rw [hp] at h5
                  have HP := Lib.hid hp
                  clear hp
                  go_wp2_with fail
                  go_quiet (fail)
                  go_wp2
                  go_roundg (row.length - (k + 1))
                  case measure => omega
                  case rel =>
                    refine ⟨k + 1, n, by omega, rfl, by go_num, HI.out.1, ?_, HI.out.2.2.1.drewN _, HI.out.2.2.2.1⟩
                    exact HI.out.2.1.more HW.out.1 HI.out.2.2.2.2.2.1 (fun x => Int.le_refl _) fun hx => by rw [reachB_iff.2 hx] at HP; cases HP.out
                | true =>
                  rw [hp] at h5
                  have HP := Lib.hid (reachB_iff.1 hp)
                  clear hp
                  by_cases hlt : z < y + 1
                  · have hlt' : decide (z < y + 1) = true := by simpa using hlt
                    go_wp2_with fail
                    go_quiet (fail)
                    go_wp2
                    go_roundg (row.length - (k + 1))
                    case measure => omega
                    case rel =>
                      obtain ⟨hbase, hedge, hkept, hblk, hadj, hrk, hy, hz⟩ := HI.out
                      subst hy; subst hz
                      refine ⟨k + 1, setI n j (n i + 1), by omega, rfl, by go_num, hbase.upd hli hadj HP.out hpos hlt, ?_, (hkept.drewN _).setCell (.inl fun h => Nat.lt_irrefl _ h) _, ?_⟩
                      · refine hedge.more HW.out.1 hrk (fun x => ?_) fun _ h => ?_
                        · by_cases e : x = j
                          · subst e; rw [setI_self]; omega
                          · rw [setI_ne e]; exact Int.le_refl _
                        · rw [setI_self]; have := hedge.1 i; omega
                      · rw [← intArr_set]
                        exact (show Blk (wr.drewN nq) B 3 (intArr ll.length n) from hblk).set j _
                  · have hlt' : decide (z < y + 1) = false := by simpa using hlt
                    go_wp2_with fail
                    go_quiet (fail)
                    go_wp2
                    go_roundg (row.length - (k + 1))
                    case measure => omega
                    case rel =>
                      obtain ⟨hbase, hedge, hkept, hblk, hadj, hrk, hy, hz⟩ := HI.out
                      subst hy; subst hz
                      refine ⟨k + 1, n, by omega, rfl, by go_num, hbase, ?_, hkept.drewN _, hblk⟩
                      exact hedge.more HW.out.1 hrk (fun x => Int.le_refl _) fun _ h => by have := hedge.1 i; omega
              · have hpos' : decide (0 < n i) = false := by simpa using hpos
                have hnx := hedge.next HW.out.1 (.inr (by omega))
                have HI := Lib.hid (And.intro hbase (And.intro hnx (And.intro hkept hblk)))
                clear hbase hedge hkept hblk hrows htab hrowI hpos hnx
                obtain ⟨y, hy⟩ : ∃ y, y = n i := ⟨_, rfl⟩
                rw [← hy] at hci hbi hpos'
                clear hy
                go_wp2_with fail
                go_roundg (ll.length - (i + 1))
                case measure => omega
                case rel => exact ⟨i + 1, n, by omega, rfl, by go_num, HI.out.1, HI.out.2.1, HI.out.2.2.1, HI.out.2.2.2⟩
            · have hkk : row.length ≤ k := by omega
              have HI := Lib.hid (And.intro hbase (And.intro hedge (And.intro hkept hblk)))
              clear hbase hedge hkept hblk hrows htab hrowI
              generalize n i = y at *
              go_wp2_with fail
              go_roundg (ll.length - (i + 1))
              case measure => omega
              case rel => exact ⟨i + 1, n, by omega, rfl, by go_num, HI.out.1, HI.out.2.1.next HW.out.1 (.inl hkk), HI.out.2.2.1, HI.out.2.2.2⟩
        · have hil : i = ll.length := by omega
          subst hil
          go_wp2_with fail
          go_roundg (ll.length - (r + 1))
          case measure => omega
          case rel => exact ⟨r + 1, n, by omega, rfl, by go_num, HE.out.1, HE.out.2.1.done HD.out.1 HD.out.2.1, HE.out.2.2.1, HE.out.2.2.2⟩
    · have hrr : r = ll.length := by omega
      subst hrr
      have hct := HD.out.2.2.2.cell t
      rw [intArr_at ht, long_entry HR.out.2.1 hs HR.out.2.2.2.1 HR.out.2.2.1 HD.out.1 HD.out.2.1] at hct
      go_wp2_with fail
      go_ret
      exact ⟨rfl, (HB.out ▸ HD.out.2.2.1).low⟩

/-- what interdictref18.Entries has put out of a node -/
theorem refentries_no (S : Nat → Prop) (v : Value) (ll : List (List Int)) (m : Int) (w : World) (hv : Rows S w v ll) (hR : ¬ (RightP ll ∧ 0 ≤ m ∧ m < ll.length)) :
    Calls Try.prog 14 #[v, .int .i64 m] w fun e w' => e = .returned (.slice none 0 0) ∧ Kept All w w' := by
  have hright := refright_any S v ll w hv
  obtain ⟨A, cap, rfl, h1, h2, hbw, h⟩ := hv
  by_cases hr : RightP ll
  · rw [decide_eq_true hr] at hright
    by_cases hm : m < 0
    · have hm' : decide (m < 0) = true := by simpa using hm
      have HR := Lib.hid hright
      clear hright h hR hr
      go_enter Try.func14, Try.ntmps14
      go_wp2_with fail
      refine HR.out.mono ?_
      rintro e w1 ⟨rfl, hk1⟩
      have HK := Lib.hid hk1
      clear hk1
      go_wp2_with fail
      go_ret
      exact ⟨rfl, HK.out⟩
    · have hm' : decide (m < 0) = false := by simpa using hm
      have hl' : decide ((ll.length : Int) ≤ m) = true := by
        simp only [decide_eq_true_eq]
        rcases Int.lt_or_le m ll.length with h3 | h3
        · exact absurd ⟨hr, by omega, h3⟩ hR
        · exact h3
      have HR := Lib.hid hright
      clear hright h hR hr
      go_enter Try.func14, Try.ntmps14
      go_wp2_with fail
      refine HR.out.mono ?_
      rintro e w1 ⟨rfl, hk1⟩
      have HK := Lib.hid hk1
      clear hk1
      go_wp2_with fail
      go_ret
      exact ⟨rfl, HK.out⟩
  · rw [decide_eq_false hr] at hright
    have HR := Lib.hid hright
    clear hright h hR hr
    go_enter Try.func14, Try.ntmps14
    go_wp2_with fail
    refine HR.out.mono ?_
    rintro e w1 ⟨rfl, hk1⟩
    have HK := Lib.hid hk1
    clear hk1
    go_wp2_with fail
    go_ret
    exact ⟨rfl, HK.out⟩
end Go.Proofs.Ytjfonoiclndgnaa
