/- What interdictref10.Without answers where no node is left out: what is reached. No condition but that the graph may be and the node is one. -/
import Derived.Test.YtjfonoiclndgnaaD
import Derived.Test.YtjfonoiclndgnaaG
namespace Go.Proofs.Ytjfonoiclndgnaa
open Go.RowKit

theorem info4 : (Try.prog.info? 4).map (fun i => (i.zero, i.size, i.bytes)) = some (some (.bool false), 1, 1) := by kernel_rfl
theorem mk_bools (n : Nat) (hn : n ≤ 281474976710656) (w : World) : (Instr.makeSlice 31 (.int .i64 n) (.int .i64 n)).run Try.prog w = .ok (.slice (some ⟨w.heap.size, 0, none⟩) n n) (w.alloc (.cells (boolArr n fun _ => false) 4)) := by
  obtain ⟨i4, hi4, hz4, hs4, hb4⟩ := info_parts info4
  rw [run_make (P := Try.prog) w 31 4 i4 (.bool false) Try.underlying31 hi4 hz4 .i64 .i64 n n (by omega) (by omega) (by rw [hb4]; omega) (by omega)]
  have e : madeCells (Value.bool false).cells ((n : Int).toNat * i4.size) = boolArr n fun _ => false := by
    rw [hs4, Int.toNat_natCast, Nat.mul_one]
    apply Array.ext_getElem?
    intro j
    by_cases hj : j < n
    · rw [boolArr_at hj]; simp [madeCells, hj, Value.cells, Nat.mod_one]
    · rw [Array.getElem?_eq_none (by rw [size_madeCells]; omega), Array.getElem?_eq_none (by rw [boolArr_size]; omega)]
  rw [e, Int.toNat_natCast]

/-- the list of what is reached -/
noncomputable def reachL (ll : List (List Int)) (f : Nat) : List Bool := (List.range ll.length).map (reachB ll f)
theorem bools_blk {S : Nat → Prop} {w : World} {g n : Nat} {t : TypeId} {p q : Nat → Bool} (h : Blk w g t (boolArr n p)) (hs : S g) (hn : n ≤ 256) (hq : ∀ k, k < n → p k = q k) : Bools S w (.slice (some ⟨g, 0, none⟩) n n) ((List.range n).map q) := by
  have e : ((List.range n).map q).length = n := by simp
  have := Sl.of_blk (bw := 1) (E := BoolE) (S := S) (l := (List.range n).map q) (cap := n) h hs (by omega) (by unfold maxLen; omega) (by omega) (fun i x hx => by
    simp only [List.getElem?_map, Option.map_eq_some_iff] at hx
    obtain ⟨j, hj, rfl⟩ := hx
    have hi : i < n := by
      rcases Nat.lt_or_ge i n with h | h
      · exact h
      · rw [List.getElem?_eq_none (by simp; omega)] at hj; cases hj
    have hij : j = i := by
      have h2 : (List.range n)[i]? = some i := by simp [hi]
      rw [hj] at h2; exact Option.some.inj h2
    subst hij
    exact ⟨.bool (p j), boolArr_at hi, by rw [hq j hi]; rfl⟩)
  rwa [e] at this
theorem right_row {ll : List (List Int)} (h : RightP ll) {k : Nat} (hk : k < ll.length) : ∀ x ∈ ll[k], 0 ≤ x ∧ x < ll.length := (h.2.2 _ (List.getElem_mem hk)).1
theorem adj_row {ll : List (List Int)} {k j : Nat} (hk : k < ll.length) : Adj ll k j ↔ (j : Int) ∈ ll[k] := by
  constructor
  · rintro ⟨row, hr, hm⟩
    rw [List.getElem?_eq_getElem hk] at hr
    cases hr; exact hm
  · intro h; exact ⟨_, List.getElem?_eq_getElem hk, h⟩
theorem reach_lt {ll : List (List Int)} (h : RightP ll) {a b : Nat} (ha : a < ll.length) (hr : Reach ll a b) : b < ll.length := by
  induction hr with
  | refl => exact ha
  | step _ e ih =>
    have := right_row h ih _ ((adj_row ih).1 e)
    omega

/-- what holds in a pass -/
def Pass (ll : List (List Int)) (f : Nat) (p0 p : Nat → Bool) (again : Bool) (i : Nat) : Prop :=
  p f = true ∧ (∀ k, p k = true → Reach ll f k) ∧ (∀ k, p0 k = true → p k = true) ∧ (again = true → unv ll.length p < unv ll.length p0) ∧
  (again = false → ∀ a, a < i → p a = true → ∀ j, Adj ll a j → p j = true)

theorem without_any (S : Nat → Prop) (v : Value) (ll : List (List Int)) (f : Nat) (w : World) (hv : Rows S w v ll) (hR : RightP ll) (hf : f < ll.length) :
    Calls Try.prog 33 #[v, .int .i64 f, .int .i64 (-1)] w fun e w' => ∃ u, e = .returned u ∧ Kept All w w' ∧ Bools (fun b => w.heap.size ≤ b) w' u (reachL ll f) := by
  obtain ⟨a, cap, rfl, h1, h2, hbw, h⟩ := hv
  have H := Lib.hid h
  have hl : ll.length ≤ 256 := hR.2.1
  have HR := Lib.hid hR
  clear h h1 h2 hbw hR
  have hmk := fun w => mk_bools ll.length (by omega) w
  have hne : ((f : Int) == -1) = false := by rw [beq_eq_false_iff_ne]; omega
  have hget : (boolArr ll.length fun _ => false)[f]? = some (.bool false) := boolArr_at hf
  have hset : (boolArr ll.length fun _ => false).setIfInBounds f (.bool true) = boolArr ll.length (upd (fun _ => false) f) := boolArr_set (upd_self _ _) (fun j _ hj => upd_ne hj)
  go_enter Try.func33, Try.ntmps33
  go_wp2
  clear hget hset hmk hne
  go_loopg [8] (2 * unv ll.length (upd (fun _ => false) f) + 1) (fun g ag wr => ∃ (p : Nat → Bool) (again : Bool), ag = .bool again ∧ g = 2 * unv ll.length p + (if again then 1 else 0) ∧ Blk wr w.heap.size 4 (boolArr ll.length p) ∧ Kept All w wr ∧
    p f = true ∧ (∀ k, p k = true → Reach ll f k) ∧ (again = false → ∀ a, a < ll.length → p a = true → ∀ j, Adj ll a j → p j = true))
  case atStart =>
    refine ⟨upd (fun _ => false) f, true, rfl, rfl, Blk.new _ _ _, (Kept.refl _ _).alloc _, upd_self _ _, fun k hk => ?_, fun h => by cases h⟩
    by_cases e : k = f
    · subst e; exact .refl
    · rw [upd_ne e] at hk; cases hk
  case round =>
    obtain ⟨p0, again, rfl, rfl, hblk, hkept, hpf, hpr, hcl⟩ := hrel
    cases again with
    | false =>
      have hfin : ∀ k, k < ll.length → p0 k = reachB ll f k := by
        intro k hk
        apply reachB_eq
        refine ⟨hpr k, fun hr => ?_⟩
        have key : ∀ k, Reach ll f k → p0 k = true := by
          intro k h
          induction h with
          | refl => exact hpf
          | step hab e ih => exact hcl rfl _ (reach_lt HR.out hf hab) ih _ e
        exact key k hr
      have Hfin := Lib.hid hfin
      clear hfin hcl hpr hpf
      go_wp2
      go_ret
      exact ⟨_, rfl, hkept, bools_blk hblk (Nat.le_refl _) hl Hfin.out⟩
    | true =>
      have HP := Lib.hid (And.intro hpf hpr)
      clear hpf hpr hcl
      go_wp2
      obtain ⟨wo, rfl⟩ : ∃ wo : World, wo = wr := ⟨_, rfl⟩
      go_loopg [8, 9] ll.length (fun g ag i wr => ∃ (k : Nat) (p : Nat → Bool) (again : Bool), k ≤ ll.length ∧ g = ll.length - k ∧ i = .int .i64 k ∧ ag = .bool again ∧ Blk wr w.heap.size 4 (boolArr ll.length p) ∧ Kept All w wr ∧ Pass ll f p0 p again k)
      case atStart => exact ⟨0, p0, false, by omega, by omega, rfl, rfl, hblk, hkept, HP.out.1, HP.out.2, fun _ h => h, (fun h => by cases h), fun _ a ha => by omega⟩
      case round =>
        clear hblk hkept
        obtain ⟨k, p, again, hk, rfl, rfl, rfl, hblk, hkept, hpass⟩ := hrel
        have HQ := Lib.hid hpass
        clear hpass
        by_cases hlt : k < ll.length
        · obtain ⟨b1, o1, c1, rfl, hs1, hc1, he⟩ := H.out k ll[k] (List.getElem?_eq_getElem hlt)
          obtain ⟨ra, rcap, rfl, r1, r2, _, rh⟩ := he
          have hd1 := hkept.cell (p := ⟨b1, o1 + k, none⟩) trivial hc1
          have hrow := right_row HR.out hlt
          have hadj := fun j => adj_row (j := j) hlt
          have hrlen : ll[k].length ≤ 256 := by have := no_dup_long (HR.out.2.2 _ (List.getElem_mem hlt)); omega
          have HG := Lib.hid (And.intro hrow (And.intro hadj (And.intro rh hc1)))
          clear hrow hadj rh hc1 r1 r2
          generalize ll[k] = row at *
          have hcell : wr.cell? ⟨w.heap.size, k, none⟩ = some (.bool (p k)) := by rw [hblk.cell, boolArr_at hlt]
          cases hpk : p k with
          | false =>
            rw [hpk] at hcell
            have Hpk := Lib.hid hpk
            clear hpk
            go_wp2
            go_roundg (ll.length - (k + 1))
            case measure => omega
            case rel =>
              obtain ⟨q1, q2, q3, q4, q5⟩ := HQ.out
              refine ⟨k + 1, p, again, by omega, rfl, by go_num, rfl, hblk, hkept, q1, q2, q3, q4, fun h a ha hpa => ?_⟩
              by_cases e : a = k
              · subst e; rw [Hpk.out] at hpa; cases hpa
              · exact q5 h a (by omega) hpa
          | true =>
            rw [hpk] at hcell
            have Hpk := Lib.hid hpk
            clear hpk
            go_wp2
            obtain ⟨wp, rfl⟩ : ∃ wp : World, wp = wr := ⟨_, rfl⟩
            clear hcell hd1
            go_loopg [8, 10] row.length (fun g ag i wr => ∃ (m : Nat) (q : Nat → Bool) (again : Bool), m ≤ row.length ∧ g = row.length - m ∧ i = .int .i64 m ∧ ag = .bool again ∧ Blk wr w.heap.size 4 (boolArr ll.length q) ∧ Kept All w wr ∧ Pass ll f p0 q again k ∧ q k = true ∧ (again = false → ∀ (i : Nat) x, i < m → row[i]? = some x → q x.toNat = true))
            case atStart => exact ⟨0, p, again, by omega, by omega, rfl, rfl, hblk, hkept, HQ.out, Hpk.out, fun _ i x hi => by omega⟩
            case round =>
              clear hblk hkept HQ Hpk
              obtain ⟨m, q, again, hm, rfl, rfl, rfl, hblk, hkept, hpass, hqk, hdone⟩ := hrel
              have HQ := Lib.hid (And.intro hpass (And.intro hqk hdone))
              clear hpass hqk hdone
              have hd1 := hkept.cell (p := ⟨b1, o1 + k, none⟩) trivial HG.out.2.2.2
              by_cases hlt2 : m < row.length
              · obtain ⟨b2, o2, c2, rfl, hs2, hc2, rfl, hwf⟩ := HG.out.2.2.1 m row[m] (List.getElem?_eq_getElem hlt2)
                have hd2 := hkept.cell (p := ⟨b2, o2 + m, none⟩) trivial hc2
                obtain ⟨x0, x1⟩ := HG.out.1 row[m] (List.getElem_mem hlt2)
                have hmem : row[m] ∈ row := List.getElem_mem hlt2
                have hget : row[m]? = some row[m] := List.getElem?_eq_getElem hlt2
                have HM := Lib.hid (And.intro hmem hget)
                clear hmem hget hc2
                generalize row[m] = x at *
                obtain ⟨j, rfl⟩ : ∃ j : Nat, x = j := ⟨x.toNat, by omega⟩
                have hjn : j < ll.length := by omega
                have hcell : wr.cell? ⟨w.heap.size, j, none⟩ = some (.bool (q j)) := by rw [hblk.cell, boolArr_at hjn]
                have hfree := hblk.free j
                have hmin : ((j : Int) != -1) = true := by rw [bne_iff_ne]; omega
                cases hqj : q j with
                | true =>
                  rw [hqj] at hcell
                  have Hqj := Lib.hid hqj
                  clear hqj
                  go_wp2
                  go_roundg (row.length - (m + 1))
                  case measure => omega
                  case rel =>
                    obtain ⟨hpass, hqk, hdone⟩ := HQ.out
                    refine ⟨m + 1, q, again, by omega, rfl, by go_num, rfl, hblk, hkept, hpass, hqk, fun h i x hi hx => ?_⟩
                    by_cases e : i = m
                    · subst e
                      rw [HM.out.2] at hx
                      cases hx
                      rw [Int.toNat_natCast]; exact Hqj.out
                    · exact hdone h i x (by omega) hx
                | false =>
                  rw [hqj] at hcell
                  have Hqj := Lib.hid hqj
                  clear hqj
                  go_wp2
                  go_roundg (row.length - (m + 1))
                  case measure => omega
                  case rel =>
                    obtain ⟨⟨q1, q2, q3, q4, q5⟩, hqk, hdone⟩ := HQ.out
                    have hadj : Adj ll k j := (HG.out.2.1 j).2 HM.out.1
                    refine ⟨m + 1, upd q j, true, by omega, rfl, by go_num, rfl, ?_, hkept.setCell (p := ⟨w.heap.size, j, none⟩) (.inr (Nat.le_refl _)) _, ⟨upd_of _ _ _ q1, fun a ha => ?_, fun a ha => upd_of _ _ _ (q3 a ha), fun _ => ?_, fun h => by cases h⟩, upd_of _ _ _ hqk, fun h => by cases h⟩
                    · rw [← boolArr_set (p := q) (i := j) (b := true) (upd_self _ _) (fun i _ hi => upd_ne hi)]
                      exact hblk.set _ _
                    · by_cases e : a = j
                      · subst e; exact .step (q2 k hqk) hadj
                      · rw [upd_ne e] at ha; exact q2 a ha
                    · exact Nat.lt_of_lt_of_le (unv_upd _ hjn Hqj.out) (unv_le _ fun a _ ha => q3 a ha)
              · go_wp2
                go_roundg (ll.length - (k + 1))
                case measure => omega
                case rel =>
                  obtain ⟨⟨q1, q2, q3, q4, q5⟩, hqk, hdone⟩ := HQ.out
                  refine ⟨k + 1, q, again, by omega, rfl, by go_num, rfl, hblk, hkept, q1, q2, q3, q4, fun h a ha hpa j hj => ?_⟩
                  by_cases e : a = k
                  · subst e
                    have hj' := (HG.out.2.1 j).1 hj
                    obtain ⟨i, hi, hx⟩ := List.getElem_of_mem hj'
                    have := hdone h i (j : Int) (by omega) (by rw [List.getElem?_eq_getElem hi, hx])
                    rwa [Int.toNat_natCast] at this
                  · exact q5 h a (by omega) hpa j hj
        · cases hag : again with
          | true =>
            rw [hag] at HQ
            clear hag
            go_wp2
            go_roundg (2 * unv ll.length p + 1)
            case measure => have := HQ.out.2.2.2.1 rfl; simp; omega
            case rel => exact ⟨p, true, rfl, rfl, hblk, hkept, HQ.out.1, HQ.out.2.1, fun h => by cases h⟩
          | false =>
            rw [hag] at HQ
            clear hag
            go_wp2
            go_roundg (2 * unv ll.length p)
            case measure => have := unv_le ll.length (fun a _ ha => HQ.out.2.2.1 a ha); simp; omega
            case rel => exact ⟨p, false, rfl, rfl, hblk, hkept, HQ.out.1, HQ.out.2.1, fun h a ha => HQ.out.2.2.2.2 h a (by omega)⟩
end Go.Proofs.Ytjfonoiclndgnaa
