/- What graph.walk's inner visit does, and graph.Reached: what is reached. No condition but that the graph may be and the node is one. -/
import Derived.Test.YtjfonoiclndgnaaE
import Derived.Laws.EntriesVeiled
namespace Go.Proofs.Ytjfonoiclndgnaa
open Go.RowKit

theorem tell_none (x : Value) (w : World) : Calls Try.prog 32 #[x] w fun e w' => e = .returned (.tuple #[]) ∧ w = w' := by
  go_enter Try.func32, Try.ntmps32
  go_wp2
  go_end0
  exact ⟨rfl, rfl⟩

/-- what graph.walk's visit has captured -/
structure Env (ll : List (List Int)) (v : Value) (bb bt bv bl g : Nat) (w : World) : Prop where
  been : Blk w bb 31 #[.slice (some ⟨g, 0, none⟩) ll.length ll.length]
  to : Blk w bt 22 #[v]
  visit : Blk w bv 46 #[.func (.func 35) #[] #[.pointer (some ⟨bb, 0, none⟩), .pointer (some ⟨bt, 0, none⟩), .pointer (some ⟨bv, 0, none⟩), .pointer (some ⟨bl, 0, none⟩)]]
  tell : Blk w bl 46 #[.func (.func 32) #[] #[]]
  rows : Rows (fun b => b ≠ g) w v ll
  ne : bb ≠ g ∧ bt ≠ g ∧ bv ≠ g ∧ bl ≠ g
theorem Env.keep {ll : List (List Int)} {v : Value} {bb bt bv bl g : Nat} {w w' : World} (h : Env ll v bb bt bv bl g w) (k : Kept (fun b => b ≠ g) w w') : Env ll v bb bt bv bl g w' :=
  ⟨h.been.kept k h.ne.1, h.to.kept k h.ne.2.1, h.visit.kept k h.ne.2.2.1, h.tell.kept k h.ne.2.2.2, goodRows.keep k h.rows, h.ne⟩

/-- what a visit adds -/
def Adds (ll : List (List Int)) (p q : Nat → Bool) (i : Nat) : Prop :=
  (∀ k, p k = true → q k = true) ∧ q i = true ∧ (∀ k, q k = true → p k = true ∨ Reach ll i k) ∧ (∀ k, q k = true → p k = false → ∀ j, Adj ll k j → q j = true)

theorem visit_any (ll : List (List Int)) (hR : RightP ll) (v : Value) (bb bt bv bl g : Nat) (m : Nat) : ∀ (i : Nat) (p : Nat → Bool) (w : World), unv ll.length p ≤ m → i < ll.length → p i = false → Env ll v bb bt bv bl g w → Blk w g 4 (boolArr ll.length p) →
    Calls Try.prog 35 #[.int .i64 i, .pointer (some ⟨bb, 0, none⟩), .pointer (some ⟨bt, 0, none⟩), .pointer (some ⟨bv, 0, none⟩), .pointer (some ⟨bl, 0, none⟩)] w fun e w' =>
      e = .returned (.tuple #[]) ∧ ∃ q, Blk w' g 4 (boolArr ll.length q) ∧ Kept (fun b => b ≠ g) w w' ∧ Adds ll p q i := by
  induction m with
  | zero =>
    intro i p w hm hi hp
    have := unv_upd ll.length hi hp
    omega
  | succ m ih =>
    intro i p w hm hi hp env hblk
    have IH := Lib.hid ih
    clear ih
    have hl : ll.length ≤ 256 := hR.2.1
    have hrow := right_row hR hi
    have hadj := fun j => adj_row (ll := ll) (j := j) hi
    have hrlen : ll[i].length ≤ 256 := by have := no_dup_long (hR.2.2 _ (List.getElem_mem hi)); omega
    have ENV := Lib.hid env
    obtain ⟨a, cap, rfl, _, _, _, h⟩ := env.rows
    obtain ⟨b1, o1, c1, rfl, hs1, hc1, ra, rcap, rfl, _, _, _, rh⟩ := h i ll[i] (List.getElem?_eq_getElem hi)
    have hget := boolArr_at (p := p) hi
    have h1 := env.been.cell 0
    have h2 := env.to.cell 0
    have h4 := hblk.cell i
    rw [hget, hp] at h4
    have h5 := hblk.free i
    simp only [List.getElem?_toArray, List.getElem?_cons_zero] at h1 h2
    have hk1 : Kept (fun b => b ≠ g) w (w.setCell ⟨g, i, none⟩ (.bool true)) := (Kept.refl _ w).setCell (.inl fun h => h rfl) _
    have hblk1 : Blk (w.setCell ⟨g, i, none⟩ (.bool true)) g 4 (boolArr ll.length (upd p i)) := by
      rw [← boolArr_set (p := p) (i := i) (b := true) (upd_self _ _) (fun j _ hj => upd_ne hj)]; exact hblk.set _ _
    have henv1 := ENV.out.keep hk1
    have h6 := henv1.to.cell 0
    simp only [List.getElem?_toArray, List.getElem?_cons_zero] at h6
    have h7 := hk1.cell (p := ⟨b1, o1 + i, none⟩) hs1 hc1
    have hun := unv_upd ll.length hi hp
    have HF := Lib.hid (And.intro hrow (And.intro hadj (And.intro rh (And.intro hp (And.intro hk1 (And.intro hblk1 henv1))))))
    clear hrow hadj rh hp hk1 hblk1 henv1 hblk hc1 h hget env
    generalize ll[i] = row at *
    go_enter Try.func35, Try.ntmps35
    go_wp2_with fail
    clear h1 h2 h4 h5 h6 h7
    go_loopg [16] row.length (fun gg x wr => ∃ (k : Nat) (q : Nat → Bool), k ≤ row.length ∧ gg = row.length - k ∧ x = .int .i64 k ∧ Blk wr g 4 (boolArr ll.length q) ∧ Kept (fun b => b ≠ g) w wr ∧
      (∀ k, upd p i k = true → q k = true) ∧ (∀ k, q k = true → p k = true ∨ Reach ll i k) ∧ (∀ k, q k = true → upd p i k = false → ∀ j, Adj ll k j → q j = true) ∧ (∀ (j : Nat) x, j < k → row[j]? = some x → q x.toNat = true))
    case atStart =>
      refine ⟨0, upd p i, by omega, by omega, rfl, HF.out.2.2.2.2.2.1, HF.out.2.2.2.2.1, fun _ h => h, fun k hk => ?_, fun k h1 h2 => (by rw [h1] at h2; cases h2), fun j x hj => by omega⟩
      by_cases e : k = i
      · subst e; exact .inr .refl
      · rw [upd_ne e] at hk; exact .inl hk
    case round =>
      obtain ⟨k, q, hk, rfl, rfl, hblk, hkept, hsub, hrch, hclo, hdone⟩ := hrel
      have HQ := Lib.hid (And.intro hsub (And.intro hrch (And.intro hclo hdone)))
      clear hsub hrch hclo hdone
      have env := ENV.out.keep hkept
      by_cases hlt : k < row.length
      · obtain ⟨b2, o2, c2, rfl, hs2, hc2, rfl, hwf⟩ := HF.out.2.2.1 k row[k] (List.getElem?_eq_getElem hlt)
        have hd2 := hkept.cell (p := ⟨b2, o2 + k, none⟩) hs2 hc2
        obtain ⟨x0, x1⟩ := HF.out.1 row[k] (List.getElem_mem hlt)
        have hmem : row[k] ∈ row := List.getElem_mem hlt
        have hget : row[k]? = some row[k] := List.getElem?_eq_getElem hlt
        have HM := Lib.hid (And.intro hmem hget)
        clear hmem hget hc2
        generalize row[k] = x at *
        obtain ⟨j, rfl⟩ : ∃ j : Nat, x = j := ⟨x.toNat, by omega⟩
        have hjn : j < ll.length := by omega
        have hcell : wr.cell? ⟨g, j, none⟩ = some (.bool (q j)) := by rw [hblk.cell, boolArr_at hjn]
        have h1 := env.been.cell 0
        have h3 := env.visit.cell 0
        simp only [List.getElem?_toArray, List.getElem?_cons_zero] at h1 h3
        cases hqj : q j with
        | true =>
          rw [hqj] at hcell
          have Hqj := Lib.hid hqj
          clear hqj
          go_wp2
          go_roundg (row.length - (k + 1))
          case measure => omega
          case rel =>
            obtain ⟨hsub, hrch, hclo, hdone⟩ := HQ.out
            refine ⟨k + 1, q, by omega, rfl, by go_num, hblk, hkept, hsub, hrch, hclo, fun a x ha hx => ?_⟩
            by_cases e : a = k
            · subst e
              rw [HM.out.2] at hx
              cases hx
              rw [Int.toNat_natCast]; exact Hqj.out
            · exact hdone a x (by omega) hx
        | false =>
          rw [hqj] at hcell
          have hun2 := unv_le ll.length (fun a _ ha => HQ.out.1 a ha)
          have hcall := IH.out j q wr (by omega) hjn hqj env hblk
          have Hcall := Lib.hid hcall
          have Hqj := Lib.hid hqj
          clear hqj hcall
          go_wp2_with fail
          refine Hcall.out.mono ?_
          rintro e w' ⟨rfl, hq'⟩
          have HQ' := Lib.hid hq'
          clear hq' hcell hd2 h1 h3
          go_wp2_with fail
          go_roundg (row.length - (k + 1))
          case measure => omega
          case rel =>
            obtain ⟨hsub, hrch, hclo, hdone⟩ := HQ.out
            obtain ⟨q', hblk', hk', a1, a2, a3, a4⟩ := HQ'.out
            have hadj : Adj ll i j := (HF.out.2.1 j).2 HM.out.1
            refine ⟨k + 1, q', by omega, rfl, by go_num, hblk', hkept.trans hk', fun a ha => a1 a (hsub a ha), fun a ha => ?_, fun a ha hn b hb => ?_, fun a x ha hx => ?_⟩
            · rcases a3 a ha with h | h
              · exact hrch a h
              · exact .inr (Reach.head hadj h)
            · cases hqa : q a with
              | true => exact a1 b (hclo a hqa hn b hb)
              | false => exact a4 a ha hqa b hb
            · by_cases e : a = k
              · subst e
                rw [HM.out.2] at hx
                cases hx
                rw [Int.toNat_natCast]; exact a2
              · exact a1 _ (hdone a x (by omega) hx)
      · have h4 := env.tell.cell 0
        simp only [List.getElem?_toArray, List.getElem?_cons_zero] at h4
        go_wp2_with (go_at_call 32; refine (tell_none _ _).mono ?_; rintro e w' ⟨rfl, rfl⟩)
        go_end0
        obtain ⟨hsub, hrch, hclo, hdone⟩ := HQ.out
        refine ⟨rfl, q, hblk, hkept, fun a ha => hsub a (upd_of _ _ _ ha), hsub i (upd_self _ _), hrch, fun a ha hn b hb => ?_⟩
        by_cases e : a = i
        · subst e
          have hb' := (HF.out.2.1 b).1 hb
          obtain ⟨c, hc, hx⟩ := List.getElem_of_mem hb'
          have := hdone c (b : Int) (by omega) (by rw [List.getElem?_eq_getElem hc, hx])
          rwa [Int.toNat_natCast] at this
        · exact hclo a ha (by rw [upd_ne e]; exact hn) b hb

theorem ints_lt {S : Nat → Prop} {w : World} {v : Value} {l : List Int} (h : Ints S w v l) : Ints (fun b => b < w.heap.size) w v l := by
  obtain ⟨a, cap, hv, h1, h2, h3, h⟩ := h
  refine ⟨a, cap, hv, h1, h2, h3, fun i x hx => ?_⟩
  obtain ⟨b, off, c, e, hs, hc, he⟩ := h i x hx
  exact ⟨b, off, c, e, World.block_lt_of_cell? w _ hc, hc, he⟩
theorem rows_lt {S : Nat → Prop} {w : World} {v : Value} {ll : List (List Int)} (h : Rows S w v ll) : Rows (fun b => b < w.heap.size) w v ll := by
  obtain ⟨a, cap, hv, h1, h2, h3, h⟩ := h
  refine ⟨a, cap, hv, h1, h2, h3, fun i x hx => ?_⟩
  obtain ⟨b, off, c, e, hs, hc, he⟩ := h i x hx
  exact ⟨b, off, c, e, World.block_lt_of_cell? w _ hc, hc, ints_lt he⟩

/-- the world in which the first visit is made -/
def walkW (v : Value) (n : Nat) (w : World) : World :=
  (((((w.alloc (.cells #[v] 22)).alloc (.cells #[.func (.func 32) #[] #[]] 46)).alloc (.cells (boolArr n fun _ => false) 4)).alloc (.cells #[.slice (some ⟨w.heap.size + 1 + 1, 0, none⟩) n n] 31)).alloc
    (.cells #[.func (.func 35) #[] #[.pointer (some ⟨w.heap.size + 1 + 1 + 1, 0, none⟩), .pointer (some ⟨w.heap.size, 0, none⟩), .pointer (some ⟨w.heap.size + 1 + 1 + 1 + 1, 0, none⟩), .pointer (some ⟨w.heap.size + 1, 0, none⟩)]] 46))
theorem blk_new' {w : World} {t : TypeId} {cs : Array Value} {g : Nat} (h : g = w.heap.size) : Blk (w.alloc (.cells cs t)) g t cs := by subst h; exact Blk.new _ _ _
theorem walkW_env {v : Value} {ll : List (List Int)} {w : World} (h : Rows (fun b => b < w.heap.size) w v ll) :
    Env ll v (w.heap.size + 1 + 1 + 1) w.heap.size (w.heap.size + 1 + 1 + 1 + 1) (w.heap.size + 1) (w.heap.size + 1 + 1) (walkW v ll.length w) ∧ Blk (walkW v ll.length w) (w.heap.size + 1 + 1) 4 (boolArr ll.length fun _ => false) ∧ Kept All w (walkW v ll.length w) := by
  have hk : Kept All w (walkW v ll.length w) := (((((Kept.refl _ _).alloc _).alloc _).alloc _).alloc _).alloc _
  refine ⟨⟨?_, ?_, ?_, ?_, ?_, by omega⟩, ?_, hk⟩
  · exact (blk_new' (by simp)).alloc _
  · exact ((((Blk.new _ _ _).alloc _).alloc _).alloc _).alloc _
  · exact blk_new' (by simp)
  · exact (((blk_new' (by simp)).alloc _).alloc _).alloc _
  · exact goodRows.wide (fun b hb => by omega) (goodRows.keep hk.all h)
  · exact ((blk_new' (by simp)).alloc _).alloc _
theorem walk_any (S : Nat → Prop) (v : Value) (ll : List (List Int)) (f : Nat) (w : World) (hv : Rows S w v ll) (hR : RightP ll) (hf : f < ll.length) :
    Calls Try.prog 31 #[v, .int .i64 f, .func (.func 32) #[] #[]] w fun e w' => ∃ u, e = .returned u ∧ Kept All w w' ∧ Bools (fun b => w.heap.size ≤ b) w' u (reachL ll f) := by
  have hrows := rows_lt hv
  have henv := walkW_env hrows
  obtain ⟨a, cap, rfl, h1, h2, hbw, h⟩ := hv
  have hl : ll.length ≤ 256 := hR.2.1
  have hcall := visit_any ll hR _ _ _ _ _ _ _ f (fun _ => false) _ (Nat.le_refl _) hf rfl henv.1 henv.2.1
  have HR := Lib.hid (And.intro hR (And.intro henv hcall))
  clear h h1 h2 hbw hR hrows henv hcall
  have hmk := fun w => mk_bools ll.length (by omega) w
  go_enter Try.func31, Try.ntmps31
  go_wp2_with fail
  refine HR.out.2.2.mono ?_
  rintro e w' ⟨rfl, q, hblk, hkept, hadds⟩
  have HA := Lib.hid (And.intro hblk (And.intro hkept hadds))
  have henv' := HR.out.2.1.1.keep hkept
  have hc := henv'.been.cell 0
  simp only [List.getElem?_toArray, List.getElem?_cons_zero] at hc
  clear hblk hkept hadds henv'
  go_wp2_with fail
  go_ret
  obtain ⟨hblk, hkept, a1, a2, a3, a4⟩ := HA.out
  have hk : Kept (fun b => b < w.heap.size) w w' := HR.out.2.1.2.2.all.trans (hkept.mono fun b hb => by omega)
  refine ⟨_, rfl, ⟨hk.os, hk.output, hk.size, fun k hk' _ => hk.block k hk' hk'⟩, bools_blk hblk (by omega) hl fun k hk' => ?_⟩
  apply reachB_eq
  refine ⟨fun h => by rcases a3 k h with h | h; cases h; exact h, fun hr => ?_⟩
  exact reach_closed a2 (fun i hi j hj => a4 i hi rfl j hj) k hr
theorem reached_any (S : Nat → Prop) (v : Value) (ll : List (List Int)) (f : Nat) (w : World) (hv : Rows S w v ll) (hR : RightP ll) (hf : f < ll.length) :
    Calls Try.prog 16 #[v, .int .i64 f] w fun e w' => ∃ u, e = .returned u ∧ Kept All w w' ∧ Bools (fun b => w.heap.size ≤ b) w' u (reachL ll f) := by
  have hright := right_any S v ll w hv
  rw [decide_eq_true hR] at hright
  have hwalk := fun w1 (hk : Kept All w w1) => walk_any S v ll f w1 (goodRows.keep hk.all hv) hR hf
  obtain ⟨a, cap, rfl, h1, h2, hbw, h⟩ := hv
  have hl : ll.length ≤ 256 := hR.2.1
  have d1 : decide ((f : Int) < 0) = false := by simp
  have d2 : decide ((ll.length : Int) ≤ f) = false := by simp; omega
  have HR := Lib.hid (And.intro hright hwalk)
  clear h h1 h2 hbw hR hright hwalk
  go_enter Try.func16, Try.ntmps16
  go_wp2_with fail
  refine HR.out.1.mono ?_
  rintro e w1 ⟨rfl, hk1⟩
  have HK := Lib.hid hk1
  clear hk1
  go_wp2_with fail
  refine (HR.out.2 _ HK.out).mono ?_
  rintro e w2 ⟨u, rfl, hk2, hb⟩
  have HB := Lib.hid (And.intro hk2 hb)
  clear hk2 hb
  go_wp2_with fail
  go_ret
  exact ⟨u, rfl, HK.out.trans HB.out.1, goodBools.wide (fun b hb => by have := HK.out.size; omega) HB.out.2⟩
end Go.Proofs.Ytjfonoiclndgnaa
