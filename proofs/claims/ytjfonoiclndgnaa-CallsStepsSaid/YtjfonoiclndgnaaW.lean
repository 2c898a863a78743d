/- The frames of the laws over a graph: a graph that came in, opened by the form's own reach; what was there is kept. No condition. -/
import Derived.Test.YtjfonoiclndgnaaMem
import Derived.Test.YtjfonoiclndgnaaRows
import Derived.WalkKit
import Derived.ProofKit
import Derived.OpenShut
import Derived.Below
import Derived.Carry
import Derived.SizedLaws
import Derived.Deep.Matrix
namespace Go.Proofs.Ytjfonoiclndgnaa
open Go.ChangeShapes Go.WideShapes Go.ChangeAt Go.RowKit

theorem Try.own' : ownKnob Try.prog.godebug = none := by kernel_rfl
theorem Try.laidOut' : laidOutB Try.prog = true := by kernel_rfl
theorem cells28 : Try.prog.cellsOf 28 = 1 := by kernel_rfl
theorem cells3 : Try.prog.cellsOf 3 = 1 := by kernel_rfl
theorem bytes28 : Try.prog.bytesOf 28 = 24 := by kernel_rfl
theorem bytes3 : Try.prog.bytesOf 3 = 8 := by kernel_rfl

theorem Kept.keptBut {w w' : World} (h : Kept All w w') (may : MemPlace → Prop) : w.keptBut w' may := by
  refine ⟨h.os, h.output, fun i hi => ?_⟩
  rw [h.block i hi trivial]
  split <;> simp_all
theorem Kept.same {w w' : World} (h : Kept All w w') {p : MemPlace} (hp : p.block < w.heap.size) : w.sameAt w' p := by
  cases p with
  | cell b o => exact World.cell?_of_block (w := w) (h.block b hp trivial)
  | map b => exact h.block b hp trivial
theorem Kept.trod {H : Type} {enc : TypeId × Value → H} {t : TypeId} (hr : Try.prog.readableRec t = true) (hrow : t < Try.prog.types.size) {W W' : World} {v : Value} {d : DataW H} {ps : List MemPlace}
    (h : DataW.Trod enc Try.prog W 0 (fun _ => true) true t v d ps) (hb : Kept All W W') (hlt : ∀ x ∈ ps, x.block < W.heap.size) :
    DataW.Trod enc Try.prog W' 0 (fun b => decide (b < W.heap.size)) true t v d ps :=
  WideElems.Trod_stays Try.laidOut' hr hrow h (fun x hx => hb.same (hlt x hx)) (fun x hx => by simpa using hlt x hx)

theorem add_spot (a : Addr) (r : Nat) : (a.add r).spot = none → a.spot = none ∨ r ≠ 0 := by
  intro h
  by_cases e : r = 0
  · subst e; exact .inl (by simpa [Addr.add] using h)
  · exact .inr e
theorem add_none (b o r : Nat) : (⟨b, o, none⟩ : Addr).add r = ⟨b, o + r, none⟩ := by
  unfold Addr.add
  split
  · rename_i h; subst h; rfl
  · rfl
theorem weights_all {H : Type} {P : Program} {e : TypeId} : ∀ {ds : List (DataW H)} {d : DataW H}, d ∈ ds → ∀ n ∈ d.weights P e, n ∈ DataW.weightsAll P e ds
  | d0 :: ds, d, h, n, hn => by
    simp only [DataW.weightsAll, List.mem_append]
    rcases List.mem_cons.1 h with rfl | h
    · exact .inl hn
    · exact .inr (weights_all h n hn)

/-- A GRAPH THAT CAME IN. -/
theorem open_graph {H : Type} {enc : TypeId × Value → H} {w : World} {base fuel : Nat} {held : Bool} {A : Option Addr} {len cap : Nat} {d : DataW H} {p : List MemPlace}
    (h : DataW.trod enc Try.prog w base (fun _ => true) held fuel 22 (Value.slice A len cap).cells.toList = some (d, p)) (hsz : ∀ n ∈ d.weights Try.prog 22, n ≤ reachBytes) :
    ∃ ll : List (List Int), Rows All w (.slice A len cap) ll := by
  have hrb : reachBytes = 140737488351232 := rfl
  rcases Deep.open_int_rows Try.underlying22 Try.underlying28 Try.underlying3 cells28 cells3 h with ⟨hcs, hx⟩ | ⟨a, len', cap', A', L, C, Z, hcs, _, hl, hm, hx, hrows⟩
  · simp [Value.cells] at hcs
    obtain ⟨rfl, rfl, rfl⟩ := hcs
    exact ⟨[], Sl.nil⟩
  simp [Value.cells] at hcs
  obtain ⟨rfl, rfl, rfl⟩ := hcs
  simp only [Prod.mk.injEq] at hx
  obtain ⟨rfl, rfl⟩ := hx
  have hw := hsz _ (by simp only [DataW.weights, Try.underlying22]; exact List.mem_cons_self)
  simp only [List.length_map, List.length_range, bytes28, hrb] at hw
  have hspot : 0 < cap → a.spot = none := fun hr => by have := World.cell?_spot (hrows 0 hr).1; simpa [Addr.add] using this
  refine ⟨(List.range len).map fun r => (Z r).take (L r), some a, cap, by simp, by simpa using hl, hm, by simp; omega, fun i x hx => ?_⟩
  have hi : i < len := by
    rcases Nat.lt_or_ge i len with h | h
    · exact h
    · rw [List.getElem?_eq_none (by simp; omega)] at hx; cases hx
  rw [List.getElem?_map, List.getElem?_range hi] at hx
  cases hx
  obtain ⟨hc, h1, h2, h3, h4, h5, h6⟩ := hrows i (by omega)
  obtain ⟨b, o, sp⟩ := a
  obtain rfl : sp = none := hspot (by omega)
  refine ⟨b, o, .slice (A' i) (L i) (C i), rfl, trivial, by rw [← add_none]; exact hc, ?_⟩
  have hlen : ((Z i).take (L i)).length = L i := by rw [List.length_take]; omega
  have hmem : Deep.intRow (H := H) .i64 (A' i) (L i) (Z i) ∈ (List.range len).map fun r => Deep.intRow (H := H) .i64 (A' r) (L r) (Z r) := List.mem_map.2 ⟨i, List.mem_range.2 hi, rfl⟩
  refine ⟨A' i, C i, by rw [hlen], by rw [hlen]; exact h1, h2, ?_, fun c x hx => ?_⟩
  · rw [hlen]
    cases hA : A' i with
    | none => have := h5 hA; omega
    | some a' =>
      have hw2 := hsz ((((lits (H := H) IntKind.i64 ((Z i).take (L i))).length + (lits (H := H) IntKind.i64 ((Z i).drop (L i))).length) * Try.prog.bytesOf 3)) (by
        simp only [DataW.weights, Try.underlying22, List.mem_cons, List.mem_append]
        refine .inr (.inl (weights_all hmem _ ?_))
        simp only [Deep.intRow, hA, DataW.weights, Try.underlying28]
        exact List.mem_cons_self)
      rw [bytes3, hrb] at hw2
      simp [lits] at hw2
      omega
  · have hci : c < L i := by
      rcases Nat.lt_or_ge c (L i) with h | h
      · exact h
      · rw [List.getElem?_eq_none (by show ((Z i).take (L i)).length ≤ c; omega)] at hx; cases hx
    have hx : ((Z i).take (L i))[c]? = some x := hx
    rw [List.getElem?_take_of_lt hci] at hx
    cases hA : A' i with
    | none => have := h5 hA; omega
    | some a' =>
      obtain ⟨_, hcell⟩ := h6 a' hA
      have hcc := hcell c (by omega)
      obtain ⟨b', o', sp'⟩ := a'
      obtain rfl : sp' = none := by have := World.cell?_spot (hcell 0 (by omega)); simpa [Addr.add] using this
      have hgd : (Z i).getD c 0 = x := by simp [List.getD, hx]
      rw [hgd] at hcc
      exact ⟨b', o', .int .i64 x, rfl, trivial, by rw [← add_none]; exact hcc, rfl, h4 x (List.mem_of_getElem? hx)⟩
end Go.Proofs.Ytjfonoiclndgnaa
