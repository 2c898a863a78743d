/- What interdictref10.Copy answers: the same graph, in memory of its own. No condition. -/
import Derived.Test.YtjfonoiclndgnaaC
namespace Go.Proofs.Ytjfonoiclndgnaa
open Go.RowKit

theorem info3 : (Try.prog.info? 3).map (fun i => (i.zero, i.size, i.bytes)) = some (some (.int .i64 0), 1, 8) := by kernel_rfl
theorem info28 : (Try.prog.info? 28).map (fun i => (i.zero, i.size, i.bytes)) = some (some (.slice none 0 0), 1, 24) := by kernel_rfl

/-- the numbers of a list, as cells -/
def intCells (l : List Int) : List Value := l.map fun x => Value.int .i64 x
theorem ints_src {S : Nat → Prop} {w : World} {A : Option Addr} {n c : Nat} {l : List Int} (h : Ints S w (.slice A n c) l) :
    n = l.length ∧ (intCells l).length = n * 1 ∧ (0 < n → ∃ b off, A = some ⟨b, off, none⟩ ∧ ∀ (j : Nat) u, (intCells l)[j]? = some u → w.cell? ⟨b, off + j, none⟩ = some u) ∧ (∀ u ∈ intCells l, u.oneCell' = true) := by
  obtain ⟨a, cap, hv, h1, h2, _, h⟩ := h
  injection hv with e1 e2 e3
  subst e1; subst e2; subst e3
  refine ⟨rfl, by simp [intCells], fun hn => ?_, fun u hu => ?_⟩
  · obtain ⟨b, off, c, ha, _⟩ := h 0 l[0] (List.getElem?_eq_getElem hn)
    refine ⟨b, off, ha, fun j u hu => ?_⟩
    simp only [intCells, List.getElem?_map, Option.map_eq_some_iff] at hu
    obtain ⟨x, hx, rfl⟩ := hu
    obtain ⟨b', off', c', ha', _, hc, rfl, _⟩ := h j x hx
    rw [ha] at ha'
    cases ha'
    exact hc
  · simp only [intCells, List.mem_map] at hu
    obtain ⟨x, _, rfl⟩ := hu
    rfl
theorem ints_own {S : Nat → Prop} {w : World} {base : Nat} {e : TypeId} {v : Value} {n : Nat} {l : List Int} (h : w.ownsRow base e 1 v n (intCells l)) (hn : n = l.length) (h3 : l.length * 8 ≤ 140737488355328)
    (hs : ∀ g, v.ownBlock = some g → S g) (hw : ∀ x ∈ l, (Lit.int .i64 x).wf = true) : Ints S w v l := by
  subst hn
  refine Sl.of_own h h3 hs (fun i x hx => ⟨.int .i64 x, by simp [intCells, hx], rfl, hw x (List.mem_of_getElem? hx)⟩)
theorem ints_wf {S : Nat → Prop} {w : World} {v : Value} {l : List Int} (h : Ints S w v l) : ∀ x ∈ l, (Lit.int .i64 x).wf = true := by
  obtain ⟨a, cap, hv, h1, h2, _, h⟩ := h
  intro x hx
  obtain ⟨i, hi, rfl⟩ := List.getElem_of_mem hx
  obtain ⟨_, _, _, _, _, _, _, hw⟩ := h i _ (List.getElem?_eq_getElem hi)
  exact hw
/-- what holds of the rows that have been copied -/
def Copied (B : Nat) (w wr : World) (o : Value) (ll : List (List Int)) (k : Nat) : Prop :=
  Kept All w wr ∧ ∃ vs : List Value, wr.ownsRow B 28 1 o k vs ∧ ∀ (i : Nat) x, (ll.take k)[i]? = some x → ∃ c, vs[i]? = some c ∧ Ints (fun b => B ≤ b ∧ b < wr.heap.size ∧ o.ownBlock ≠ some b) wr c x

theorem copied_step {w wr w1 w2 : World} {o v2 : Value} {ll : List (List Int)} {k C1 : Nat} {A1 : Option Addr} {row : List Int} {vs : List Value}
    (hk : k ≤ ll.length) (htk : ll.take (k + 1) = ll.take k ++ [row]) (hkept : Kept All w wr) (hown : wr.ownsRow w.heap.size 28 1 o k vs)
    (hvs : ∀ (i : Nat) x, (ll.take k)[i]? = some x → ∃ c, vs[i]? = some c ∧ Ints (fun b => w.heap.size ≤ b ∧ b < wr.heap.size ∧ o.ownBlock ≠ some b) wr c x)
    (k1 : Kept All wr w1) (hown2 : w1.ownsRow wr.heap.size 3 1 (.slice A1 row.length C1) row.length (intCells row)) (hr : row.length * 8 ≤ 140737488355328) (hw : ∀ x ∈ row, (Lit.int .i64 x).wf = true)
    (hown4 : w2.ownsRow w.heap.size 28 1 v2 (k + 1) (vs ++ [.slice A1 row.length C1])) (hg2 : (w1.alloc (.cells #[.slice A1 row.length C1] 28)).grownBy w2 o.ownBlock)
    (hat : v2.ownBlock = o.ownBlock ∨ v2.ownBlock = some (w1.alloc (.cells #[.slice A1 row.length C1] 28)).heap.size) : Copied w.heap.size w w2 v2 ll (k + 1) := by
  have kA : Kept All wr (w1.alloc (.cells #[.slice A1 row.length C1] 28)) := k1.alloc _
  have k2 : Kept (fun b => o.ownBlock ≠ some b) wr w2 := kA.all.grown hg2 fun g hg => .inl fun h => h hg
  have k2' : Kept (fun b => o.ownBlock ≠ some b) w1 w2 := ((Kept.refl _ w1).alloc _).grown hg2 fun g hg => .inl fun h => h hg
  have hsz : w1.heap.size + 1 ≤ w2.heap.size := by have := hg2.size; simpa using this
  have hs1 := k1.size
  have hs0 := hkept.size
  have hne : ∀ b, b < w1.heap.size → o.ownBlock ≠ some b → v2.ownBlock ≠ some b := by
    intro b hb ho
    rcases hat with h | h
    · rw [h]; exact ho
    · rw [h]; simp; omega
  have hvl : vs.length = k := by have := hown.1; omega
  refine ⟨(hkept.trans kA).grown hg2 fun g hg => .inr (own_lt hown hg).1, _, hown4, fun i x hx => ?_⟩
  rw [htk] at hx
  have htl : (ll.take k).length = k := by rw [List.length_take]; omega
  by_cases hi : i < k
  · rw [List.getElem?_append_left (by omega)] at hx
    obtain ⟨c, hc, hE⟩ := hvs i x hx
    refine ⟨c, by rw [List.getElem?_append_left (by omega)]; exact hc, ?_⟩
    refine goodInts.wide (fun b hb => ⟨hb.1, by have := hb.2.1; omega, hne b (by have := hb.2.1; omega) hb.2.2⟩) (goodInts.keep (k2.mono fun b hb => hb.2.2) hE)
  · rw [List.getElem?_append_right (by omega), htl] at hx
    have hi0 : i - k = 0 := by
      rcases Nat.eq_zero_or_pos (i - k) with h | h
      · exact h
      · rw [List.getElem?_eq_none (by simp; omega)] at hx; cases hx
    rw [hi0] at hx
    cases hx
    refine ⟨.slice A1 row.length C1, by rw [List.getElem?_append_right (by omega), hvl, hi0]; rfl, ?_⟩
    have hI : Ints (fun b => wr.heap.size ≤ b ∧ b < w1.heap.size) w1 (.slice A1 row.length C1) row := ints_own hown2 rfl hr (fun g hg => own_lt hown2 hg) hw
    have hno : ∀ b, wr.heap.size ≤ b → o.ownBlock ≠ some b := fun b hb e => by have := (own_lt hown e).2; omega
    exact goodInts.wide (fun b hb => ⟨by omega, by omega, hne b hb.2 (hno b hb.1)⟩) (goodInts.keep (k2'.mono fun b hb => hno b hb.1) hI)
theorem copy_any (S : Nat → Prop) (v : Value) (ll : List (List Int)) (w : World) (hv : Rows S w v ll) :
    Calls Try.prog 9 #[v] w fun e w' => ∃ u, e = .returned u ∧ Kept All w w' ∧ Rows (fun b => w.heap.size ≤ b) w' u ll := by
  obtain ⟨a, cap, rfl, h1, h2, hbw, h⟩ := hv
  unfold maxLen at h2
  have H := Lib.hid h
  have hl : ll.length ≤ 9223372036854775807 := by omega
  clear h h1 h2
  obtain ⟨i3, hi3, hz3, hs3, hb3⟩ := info_parts info3
  obtain ⟨i28, hi28, hz28, hs28, hb28⟩ := info_parts info28
  have I3 := Lib.hid (And.intro hi3 (And.intro hz3 (And.intro hs3 hb3)))
  have I28 := Lib.hid (And.intro hi28 (And.intro hz28 (And.intro hs28 hb28)))
  clear hi3 hz3 hs3 hb3 hi28 hz28 hs28 hb28
  go_enter Try.func9, Try.ntmps9
  go_wp2
  go_loopg [3, 4] ll.length (fun g o i wr => ∃ k : Nat, k ≤ ll.length ∧ g = ll.length - k ∧ i = .int .i64 k ∧ Copied w.heap.size w wr o ll k)
  case atStart => exact ⟨0, by omega, by omega, rfl, Kept.refl _ _, [], ⟨by simp, .inl ⟨rfl, rfl⟩⟩, by simp⟩
  case round =>
    obtain ⟨k, hk, rfl, rfl, hkept, vs, hown, hvs⟩ := hrel
    by_cases hlt : k < ll.length
    · obtain ⟨b1, o1, c1, rfl, hs1, hc1, he⟩ := H.out k ll[k] (List.getElem?_eq_getElem hlt)
      have he2 : Ints All wr c1 ll[k] := goodInts.keep hkept (goodInts.wide (fun _ _ => trivial) he)
      have hd1 := hkept.cell (p := ⟨b1, o1 + k, none⟩) trivial hc1
      have htk : ll.take (k + 1) = ll.take k ++ [ll[k]] := by rw [List.take_add_one, List.getElem?_eq_getElem hlt]; rfl
      have Htk := Lib.hid htk
      clear htk hc1 he
      generalize ll[k] = row at *
      have he3 := he2
      obtain ⟨ra, rcap, rfl, r1, r2, r3, _⟩ := he2
      have hsrc := ints_src he3
      have hwfs := ints_wf he3
      clear he3
      have HS := Lib.hid (And.intro hsrc.2 hwfs)
      have HV := Lib.hid hvs
      unfold maxLen at r2
      have hown1 : (wr.alloc (.cells #[] 3)).ownsRow wr.heap.size 3 1 (.slice (some ⟨wr.heap.size, 0, none⟩) 0 0) 0 [] :=
        ⟨rfl, .inr ⟨_, 0, #[], rfl, Nat.le_refl _, Blk.new _ _ _, Nat.le_refl _, Nat.zero_le _, rfl, rfl⟩⟩
      have hB := hkept.size
      have hb1 : b1 < wr.heap.size := World.block_lt_of_cell? wr _ hd1
      clear hsrc hwfs hvs
      go_wp2_with (first
        | (at_builtin
           refine wpList_app _ rfl (.tmp 12) (.tmp 16) 28 rfl wr.heap.size 3 i3 _ 1 8 Try.underlying28 I3.out.1 I3.out.2.1 I3.out.2.2.1 I3.out.2.2.2 rfl (by decide) _ 0 [] rfl hown1 ra row.length rcap (intCells row) rfl HS.out.1.1 ?_ HS.out.1.2.2 (by unfold maxLen; omega) (by omega) (by simp) ?_
           · intro hp
             obtain ⟨b, off, e, hc⟩ := HS.out.1.2.1 hp
             exact ⟨b, off, e, fun j u hu => (Kept.alloc (Kept.refl All _) _).cell (p := ⟨b, off + j, none⟩) trivial (hc j u hu)⟩
           intro v1 w1 hown2 hg1 hat1
           obtain ⟨A1, C1, rfl⟩ := own_form hown2
           have k1 : Kept All wr w1 := (Kept.alloc (Kept.refl All wr) _).grown hg1 (fun g hg => .inr (by cases hg; exact Nat.le_refl _))
           have hown3 : (w1.alloc (.cells #[.slice A1 (0 + row.length) C1] 28)).ownsRow w.heap.size 28 1 u3 k vs := own_kept hown (k1.alloc _) (fun _ _ => trivial)
           have hs1 := k1.size
           simp only [Nat.zero_add, List.nil_append] at hown2 hown3 ⊢)
        | (at_builtin
           refine wpList_app _ rfl (.tmp 11) (.tmp 18) 22 rfl w.heap.size 28 i28 _ 1 24 Try.underlying22 I28.out.1 I28.out.2.1 I28.out.2.2.1 I28.out.2.2.2 rfl (by decide) _ k vs rfl hown3 (some ⟨w1.heap.size, 0, none⟩) 1 1 [.slice A1 row.length C1] rfl rfl ?_ ?_ (by unfold maxLen; omega) (by omega) (by simp; omega) ?_
           · intro _
             exact ⟨_, _, rfl, fun j u hu => by
               rw [Nat.zero_add, Blk.cell (Blk.new _ _ _)]; simpa using hu⟩
           · intro u hu
             rw [List.mem_singleton.1 hu]; rfl
           intro v2 w2 hown4 hg2 hat2))
      go_roundg (ll.length - (k + 1))
      case measure => omega
      case rel => exact ⟨k + 1, by omega, rfl, by go_num, copied_step hk Htk.out hkept hown HV.out k1 hown2 r3 HS.out.2 hown4 hg2 hat2⟩
    · have hkl : k = ll.length := by omega
      subst hkl
      have HV := Lib.hid hvs
      clear hvs
      go_wp2
      go_ret
      refine ⟨_, rfl, hkept, Sl.of_own hown hbw (fun g hg => (own_lt hown hg).1) fun i x hx => ?_⟩
      obtain ⟨c, hc, hE⟩ := HV.out i x (by rw [List.take_length]; exact hx)
      exact ⟨c, hc, goodInts.wide (fun b hb => hb.1) hE⟩
end Go.Proofs.Ytjfonoiclndgnaa
