/- The map of operators that arith.does makes, and what a lookup in it gives. No condition. -/
import Derived.Test.YtbebgjodgebgkaaDoorRows
import Derived.WalkKit
import Derived.WalkSpells
import Derived.Outline
import Derived.WalkLawsBesides
namespace Go.Proofs.YtbebgjodgebgkaaDoor
open Go.RowKit

theorem ku8 : Maps.Keyed Tryd.prog 5 := Maps.int_keyed Tryd.underlying5

/-- the entries of a map of operators -/
def ent (l : List (Int × FuncId)) : Array MapEntry := (l.zipIdx.map fun (x, n) => ⟨.int .u8 x.1, .func (.func x.2) #[] #[], n⟩).toArray

def look (l : List (Int × FuncId)) (a : Int) : Option FuncId := (l.find? fun x => a == x.1).map (·.2)

theorem findNow_ent (a : Int) (l : List (Int × FuncId)) (n m : Nat) : 
    Instr.findNow (.int .u8) (.int .u8 a) (l.zipIdx m |>.map fun (x, n) => (⟨.int .u8 x.1, .func (.func x.2) #[] #[], n⟩ : MapEntry)) n = some ((l.findIdx? fun x => a == x.1).bind fun i => (look l a).map fun f => (n + i, .func (.func f) #[] #[])) := by
  induction l generalizing n m with
  | nil => rfl
  | cons x l ih =>
    simp only [List.zipIdx_cons, List.map_cons, Instr.findNow, Instr.sameNow, if_pos, look, List.find?_cons, List.findIdx?_cons]
    cases h : a == x.1
    · simp only [ih, look]
      cases l.findIdx? fun x => a == x.1 <;> simp
      cases l.find? fun x => a == x.1 <;> simp
      omega
    · simp

theorem run_findKey (w : World) (a : Int) (l : List MapEntry) (r) (h : Instr.findNow (.int .u8) (.int .u8 a) l 0 = some r) :
    (Instr.findKey 5 (.int .u8 a) l).run Tryd.prog w = .ok r w := by
  unfold Instr.findKey
  simp [run_underlying Tryd.underlying5, h]

theorem ent_push (l : List (Int × FuncId)) (k : Int) (f : FuncId) : (ent l).push ⟨.int .u8 k, .func (.func f) #[] #[], l.length⟩ = ent (l ++ [(k, f)]) := by
  simp [ent, List.zipIdx_append]

theorem run_mapUpd0 (W : World) (b : Nat) (l : List (Int × FuncId)) (k : Int) (f : FuncId) (hw : (Lit.int .u8 k).wf = true)
    (h : (l.findIdx? fun x => k == x.1) = none) (hb : W.heap[b]? = some (.map (ent l) l.length)) :
    (Instr.mapUpdate 38 (.map (some b)) (.int .u8 k) (.func (.func f) #[] #[])).run Tryd.prog W = .ok () { W with heap := W.heap.setIfInBounds b (.map (ent (l ++ [(k, f)])) (l.length + 1)) } := by
  have hf := run_findKey W k (ent l).toList none (by have := findNow_ent k l 0 0; rw [h] at this; simpa [ent] using this)
  have hck := ku8.check W false (Maps.keyOf_int_mk Tryd.underlying5 hw)
  unfold Instr.mapUpdate
  simp [run_underlying Tryd.underlying38, MapKept.run_getObj_map hb, hck, hf, MapKept.run_setObj_map _ hb, Result.andThen, ent_push]

theorem run_mapUpd (w : World) (l : List (Int × FuncId)) (c : Nat) (k : Int) (f : FuncId) (hc : l.length = c) (hw : (Lit.int .u8 k).wf = true)
    (h : (l.findIdx? fun x => k == x.1) = none) :
    (Instr.mapUpdate 38 (.map (some w.heap.size)) (.int .u8 k) (.func (.func f) #[] #[])).run Tryd.prog (w.alloc (.map (ent l) c)) = .ok () (w.alloc (.map (ent (l ++ [(k, f)])) (c + 1))) := by
  subst hc
  rw [run_mapUpd0 _ _ l k f hw h (by simp only [World.alloc]; simp)]
  simp only [World.alloc]
  congr 2
  apply Array.ext_getElem?
  intro i
  simp only [Array.getElem?_setIfInBounds, Array.getElem?_push, Array.size_push]
  by_cases hi : w.heap.size = i
  · simp [hi]
  · have : ¬ i = w.heap.size := fun e => hi e.symm
    simp [hi, this]

theorem run_look (w : World) (l : List (Int × FuncId)) (c b : Nat) (k : Int) (hb : w.heap[b]? = some (.map (ent l) c)) (hw : (Lit.int .u8 k).wf = true) :
    (Instr.lookup 38 (.map (some b)) (.int .u8 k) false).run Tryd.prog w = .ok (match look l k with | some f => .func (.func f) #[] #[] | none => .nilFunc) w := by
  have hf := run_findKey w k (ent l).toList _ (by have := findNow_ent k l 0 0; simpa [ent] using this)
  have hck := ku8.check w (ent l).isEmpty (Maps.keyOf_int_mk Tryd.underlying5 hw)
  have hz : (zeroValue 37).run Tryd.prog w = .ok .nilFunc w := by kernel_rfl
  unfold Instr.lookup
  simp [run_underlying Tryd.underlying38, MapKept.run_getObj_map hb, hck, hf, Result.andThen]
  cases h : l.findIdx? fun x => k == x.1 with
  | none =>
    have : look l k = none := by
      rw [List.findIdx?_eq_none_iff] at h
      simp only [look, Option.map_eq_none_iff, List.find?_eq_none]
      intro x hx; simp [h x hx]
    simp [this, hz]
  | some i =>
    obtain ⟨f, hf⟩ : ∃ f, look l k = some f := by
      rw [List.findIdx?_eq_some_iff_getElem] at h
      obtain ⟨hi, hk, _⟩ := h
      cases hh : l.find? fun x => k == x.1 with
      | none => exact absurd hk (List.find?_eq_none.1 hh _ (List.getElem_mem hi))
      | some f => exact ⟨f.2, by simp [look, hh]⟩
    simp [hf]

def ops : List (Int × FuncId) := [(1, 15), (2, 16), (3, 17), (4, 18), (5, 19), (6, 20), (7, 21), (8, 22), (9, 23), (10, 24), (11, 25), (12, 27)]

def mp (i : Nat) : Obj := .map (ent (ops.take i)) i

theorem mp_up (w : World) (i : Nat) (k : Int) (f : FuncId) (hi : ops[i]? = some (k, f)) (h0 : 0 ≤ k) (h1 : k < 256) (hl : i < 12)
    (h : ((ops.take i).findIdx? fun x => k == x.1) = none) :
    (Instr.mapUpdate 38 (.map (some w.heap.size)) (.int .u8 k) (.func (.func f) #[] #[])).run Tryd.prog (w.alloc (mp i)) = .ok () (w.alloc (mp (i + 1))) := by
  have e : ops.take (i + 1) = ops.take i ++ [(k, f)] := by rw [List.take_add_one, hi]; rfl
  unfold mp
  rw [e]
  exact run_mapUpd w (ops.take i) i k f (by rw [List.length_take]; show min i 12 = i; omega) (WalkArith.wf_u8 (by omega)) h

theorem does_any (w : World) : Calls Tryd.prog 14 #[] w fun e w' => e = .returned (.map (some w.heap.size)) ∧ w.alloc (mp 12) = w' := by
  have hmm : ∀ w, (Instr.makeMap 38 none).run Tryd.prog w = .ok (.map (some w.heap.size)) (w.alloc (mp 0)) := @run_makeMap Tryd.prog 38
  have u0 := fun w => mp_up w 0 1 15 rfl (by decide) (by decide) (by decide) (by rfl)
  have u1 := fun w => mp_up w 1 2 16 rfl (by decide) (by decide) (by decide) (by rfl)
  have u2 := fun w => mp_up w 2 3 17 rfl (by decide) (by decide) (by decide) (by rfl)
  have u3 := fun w => mp_up w 3 4 18 rfl (by decide) (by decide) (by decide) (by rfl)
  have u4 := fun w => mp_up w 4 5 19 rfl (by decide) (by decide) (by decide) (by rfl)
  have u5 := fun w => mp_up w 5 6 20 rfl (by decide) (by decide) (by decide) (by rfl)
  have u6 := fun w => mp_up w 6 7 21 rfl (by decide) (by decide) (by decide) (by rfl)
  have u7 := fun w => mp_up w 7 8 22 rfl (by decide) (by decide) (by decide) (by rfl)
  have u8 := fun w => mp_up w 8 9 23 rfl (by decide) (by decide) (by decide) (by rfl)
  have u9 := fun w => mp_up w 9 10 24 rfl (by decide) (by decide) (by decide) (by rfl)
  have u10 := fun w => mp_up w 10 11 25 rfl (by decide) (by decide) (by decide) (by rfl)
  have u11 := fun w => mp_up w 11 12 27 rfl (by decide) (by decide) (by decide) (by rfl)
  go_enter Tryd.func14, Tryd.ntmps14
  go_wp2
  go_ret
  exact ⟨rfl, rfl⟩

theorem look_mp (w : World) (k : Int) (h0 : 0 ≤ k) (h1 : k < 256) : (Instr.lookup 38 (.map (some w.heap.size)) (.int .u8 k) false).run Tryd.prog (w.alloc (mp 12)) = .ok (match look ops k with | some f => .func (.func f) #[] #[] | none => .nilFunc) (w.alloc (mp 12)) :=
  run_look _ ops 12 _ k (by simp only [World.alloc]; simp; rfl) (WalkArith.wf_u8 (by omega))
end Go.Proofs.YtbebgjodgebgkaaDoor
