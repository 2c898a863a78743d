/- What calls.reaches and interdictref18.Reaches answer: of each node what is reached. No condition but that the graph may be. -/
import Derived.Test.YtjfonoiclndgnaaF
namespace Go.Proofs.Ytjfonoiclndgnaa
open Go.RowKit

/-- N cells -/
def cellArr (N : Nat) (f : Nat → Value) : Array Value := ((List.range N).map f).toArray
theorem cellArr_at {N : Nat} {f : Nat → Value} {i : Nat} (h : i < N) : (cellArr N f)[i]? = some (f i) := by simp [cellArr, h]
theorem cellArr_size (N : Nat) (f : Nat → Value) : (cellArr N f).size = N := by simp [cellArr]
/-- a function with another value at one place -/
def updV (f : Nat → Value) (i : Nat) (v : Value) : Nat → Value := fun k => if k = i then v else f k
theorem updV_self (f : Nat → Value) (i : Nat) (v : Value) : updV f i v i = v := by simp [updV]
theorem updV_ne {f : Nat → Value} {i k : Nat} {v : Value} (h : k ≠ i) : updV f i v k = f k := by simp [updV, h]
theorem cellArr_set {N : Nat} {f : Nat → Value} {i : Nat} {v : Value} : (cellArr N f).setIfInBounds i v = cellArr N (updV f i v) := by
  apply Array.ext_getElem?
  intro j
  rw [Array.getElem?_setIfInBounds]
  by_cases hj : j < N
  · rw [cellArr_at hj, cellArr_at hj, cellArr_size]
    by_cases e : i = j
    · subst e; simp [hj, updV_self]
    · rw [if_neg e, updV_ne (fun x => e x.symm)]
  · have e1 : (cellArr N f)[j]? = none := by rw [Array.getElem?_eq_none]; rw [cellArr_size]; omega
    have e2 : (cellArr N (updV f i v))[j]? = none := by rw [Array.getElem?_eq_none]; rw [cellArr_size]; omega
    rw [e1, e2]; split
    · rw [if_neg (by rw [cellArr_size]; omega)]
    · rfl
theorem info31 : (Try.prog.info? 31).map (fun i => (i.zero, i.size, i.bytes)) = some (some (.slice none 0 0), 1, 24) := by kernel_rfl
theorem mk_rows31 (n : Nat) (hn : n ≤ 1048576) (w : World) : (Instr.makeSlice 34 (.int .i64 n) (.int .i64 n)).run Try.prog w = .ok (.slice (some ⟨w.heap.size, 0, none⟩) n n) (w.alloc (.cells (cellArr n fun _ => .slice none 0 0) 31)) := by
  obtain ⟨i31, hi, hz, hs, hb⟩ := info_parts info31
  rw [run_make (P := Try.prog) w 34 31 i31 (.slice none 0 0) Try.underlying34 hi hz .i64 .i64 n n (by omega) (by omega) (by rw [hb]; omega) (by omega)]
  have e : madeCells (Value.slice none 0 0).cells ((n : Int).toNat * i31.size) = cellArr n fun _ => .slice none 0 0 := by
    rw [hs, Int.toNat_natCast, Nat.mul_one]
    apply Array.ext_getElem?
    intro j
    by_cases hj : j < n
    · rw [cellArr_at hj]; simp [madeCells, hj, Value.cells, Nat.mod_one]
    · rw [Array.getElem?_eq_none (by rw [size_madeCells]; omega), Array.getElem?_eq_none (by rw [cellArr_size]; omega)]
  rw [e, Int.toNat_natCast]
/-- of each node what is reached -/
noncomputable def reachM (ll : List (List Int)) : List (List Bool) := (List.range ll.length).map (reachL ll)
/-- what holds of the rows that are filled -/
def Filled (ll : List (List Int)) (B : Nat) (w wr : World) (k : Nat) : Prop :=
  Kept All w wr ∧ ∃ F : Nat → Value, Blk wr B 31 (cellArr ll.length F) ∧ ∀ i, i < k → Bools (fun b => B < b) wr (F i) (reachL ll i)
theorem filled_step {ll : List (List Int)} {w wr w1 : World} {k : Nat} {A : Option Addr} {n c : Nat} (h : Filled ll w.heap.size w wr k) (hw : w.heap.size < wr.heap.size) (hk : k < ll.length) (k1 : Kept All wr w1)
    (hu : Bools (fun b => wr.heap.size ≤ b) w1 (.slice A n c) (reachL ll k)) : Filled ll w.heap.size w (w1.setCell ⟨w.heap.size, k, none⟩ (.slice A n c)) (k + 1) := by
  obtain ⟨h1, F, h2, h3⟩ := h
  have hk2 : Kept (fun b => w.heap.size < b) w1 (w1.setCell ⟨w.heap.size, k, none⟩ (.slice A n c)) := (Kept.refl _ w1).setCell (p := ⟨w.heap.size, k, none⟩) (.inl (Nat.lt_irrefl _)) _
  refine ⟨(h1.trans k1).setCell (.inr (Nat.le_refl _)) _, updV F k (.slice A n c), ?_, fun i hi => ?_⟩
  · rw [← cellArr_set]; exact (h2.kept k1 trivial).set _ _
  · by_cases e : i = k
    · subst e
      rw [updV_self]
      exact goodBools.keep hk2 (goodBools.wide (fun b hb => by omega) hu)
    · rw [updV_ne e]
      exact goodBools.keep hk2 (goodBools.keep k1.all (h3 i (by omega)))
theorem filled_end {ll : List (List Int)} {w wr : World} (hl : ll.length ≤ 256) (h : Filled ll w.heap.size w wr ll.length) : BRows (fun b => w.heap.size ≤ b) wr (.slice (some ⟨w.heap.size, 0, none⟩) ll.length ll.length) (reachM ll) := by
  obtain ⟨h1, F, h2, h3⟩ := h
  have e : (reachM ll).length = ll.length := by simp [reachM]
  have := Sl.of_blk (bw := 24) (E := Sl 1 BoolE) (S := fun b => w.heap.size ≤ b) (l := reachM ll) (cap := ll.length) h2 (Nat.le_refl _) (by omega) (by unfold maxLen; omega) (by omega) (fun i x hx => by
    simp only [reachM, List.getElem?_map, Option.map_eq_some_iff] at hx
    obtain ⟨j, hj, rfl⟩ := hx
    have hi : i < ll.length := by
      rcases Nat.lt_or_ge i ll.length with h | h
      · exact h
      · rw [List.getElem?_eq_none (by simp; omega)] at hj; cases hj
    have hij : j = i := by
      have h2 : (List.range ll.length)[i]? = some i := by simp [hi]
      rw [hj] at h2; exact Option.some.inj h2
    subst hij
    exact ⟨F j, cellArr_at hi, goodBools.wide (fun b hb => by omega) (h3 j hi)⟩)
  rwa [e] at this

theorem reaches_any (S : Nat → Prop) (v : Value) (ll : List (List Int)) (w : World) (hv : Rows S w v ll) (hR : RightP ll) :
    Calls Try.prog 19 #[v] w fun e w' => ∃ u, e = .returned u ∧ Kept All w w' ∧ BRows (fun b => w.heap.size ≤ b) w' u (reachM ll) := by
  have hcall := fun f hf w1 (hk : Kept All w w1) => reached_any S v ll f w1 (goodRows.keep hk.all hv) hR hf
  obtain ⟨a, cap, rfl, h1, h2, hbw, h⟩ := hv
  have hl : ll.length ≤ 256 := hR.2.1
  have HR := Lib.hid (And.intro hR hcall)
  clear h h1 h2 hbw hR hcall
  have hmk := fun w => mk_rows31 ll.length (by omega) w
  go_enter Try.func19, Try.ntmps19
  go_wp2
  go_loopg [10] ll.length (fun g i wr => ∃ k : Nat, k ≤ ll.length ∧ g = ll.length - k ∧ i = .int .i64 k ∧ w.heap.size < wr.heap.size ∧ Filled ll w.heap.size w wr k)
  case atStart => exact ⟨0, by omega, by omega, rfl, by simp, (Kept.refl _ _).alloc _, _, Blk.new _ _ _, fun i hi => by omega⟩
  case round =>
    obtain ⟨k, hk, rfl, rfl, hsz, hfill⟩ := hrel
    by_cases hlt : k < ll.length
    · have HF := Lib.hid hfill
      clear hfill
      go_wp2_with fail
      refine (HR.out.2 k hlt _ HF.out.1).mono ?_
      rintro e w1 ⟨u, rfl, hk1, hb⟩
      have hb' := hb
      obtain ⟨A, c, rfl, _⟩ := hb
      obtain ⟨F, hF, _⟩ := HF.out.2
      have hF1 := hF.kept hk1 trivial
      have hcell := hF1.cell k
      rw [cellArr_at hlt] at hcell
      have hfree := hF1.free k
      have hstep := filled_step HF.out hsz hlt hk1 hb'
      have hsz1 := hk1.size
      have HS := Lib.hid (And.intro hstep hsz1)
      clear hk1 hb' hF hF1 hstep
      go_wp2_with fail
      go_roundg (ll.length - (k + 1))
      case measure => omega
      case rel => exact ⟨k + 1, by omega, rfl, by go_num, by simp; omega, HS.out.1⟩
    · have hkl : k = ll.length := by omega
      subst hkl
      have HF := Lib.hid hfill
      clear hfill
      go_wp2
      go_ret
      exact ⟨_, rfl, HF.out.1, filled_end hl HF.out⟩
theorem refreaches_any (S : Nat → Prop) (v : Value) (ll : List (List Int)) (w : World) (hv : Rows S w v ll) (hR : RightP ll) :
    Calls Try.prog 24 #[v] w fun e w' => ∃ u, e = .returned u ∧ Kept All w w' ∧ BRows (fun b => w.heap.size ≤ b) w' u (reachM ll) := by
  have hcall := fun f hf w1 (hk : Kept All w w1) => without_any S v ll f w1 (goodRows.keep hk.all hv) hR hf
  obtain ⟨a, cap, rfl, h1, h2, hbw, h⟩ := hv
  have hl : ll.length ≤ 256 := hR.2.1
  have HR := Lib.hid (And.intro hR hcall)
  clear h h1 h2 hbw hR hcall
  have hmk := fun w => mk_rows31 ll.length (by omega) w
  go_enter Try.func24, Try.ntmps24
  go_wp2
  go_loopg [4] ll.length (fun g i wr => ∃ k : Nat, k ≤ ll.length ∧ g = ll.length - k ∧ i = .int .i64 k ∧ w.heap.size < wr.heap.size ∧ Filled ll w.heap.size w wr k)
  case atStart => exact ⟨0, by omega, by omega, rfl, by simp, (Kept.refl _ _).alloc _, _, Blk.new _ _ _, fun i hi => by omega⟩
  case round =>
    obtain ⟨k, hk, rfl, rfl, hsz, hfill⟩ := hrel
    by_cases hlt : k < ll.length
    · have HF := Lib.hid hfill
      clear hfill
      go_wp2_with fail
      refine (HR.out.2 k hlt _ HF.out.1).mono ?_
      rintro e w1 ⟨u, rfl, hk1, hb⟩
      have hb' := hb
      obtain ⟨A, c, rfl, _⟩ := hb
      obtain ⟨F, hF, _⟩ := HF.out.2
      have hF1 := hF.kept hk1 trivial
      have hcell := hF1.cell k
      rw [cellArr_at hlt] at hcell
      have hfree := hF1.free k
      have hstep := filled_step HF.out hsz hlt hk1 hb'
      have hsz1 := hk1.size
      have HS := Lib.hid (And.intro hstep hsz1)
      clear hk1 hb' hF hF1 hstep
      go_wp2_with fail
      go_roundg (ll.length - (k + 1))
      case measure => omega
      case rel => exact ⟨k + 1, by omega, rfl, by go_num, by simp; omega, HS.out.1⟩
    · have hkl : k = ll.length := by omega
      subst hkl
      have HF := Lib.hid hfill
      clear hfill
      go_wp2
      go_ret
      exact ⟨_, rfl, HF.out.1, filled_end hl HF.out⟩
end Go.Proofs.Ytjfonoiclndgnaa
