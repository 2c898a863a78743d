/- Words for memory: blocks that are kept, blocks known whole, slices that read as lists. Of no program. No condition. -/
import Derived.WalkKit
import Derived.WalkSpells
import Derived.WalkLawsBesides
import Derived.Outline
import Derived.Lib.Hide
import Derived.Carry
import Derived.Maps.AppendAt
import Derived.OwnWalk
import Derived.Deep.QuietTactic
import Derived.BigQuiet
import Derived.Deep.LoopGhost
namespace Go.Proofs.Ytjfonoiclndgnaa
open Go.RowKit

/-- every block -/
def All : Nat → Prop := fun _ => True
/-- Of the blocks of S that w had, none has turned. -/
structure Kept (S : Nat → Prop) (w w' : World) : Prop where
  os : w'.os = w.os
  output : w'.output = w.output
  size : w.heap.size ≤ w'.heap.size
  block : ∀ k, k < w.heap.size → S k → w'.heap[k]? = w.heap[k]?

section
variable {S T : Nat → Prop} {w w' a b c : World}
theorem Kept.refl (S : Nat → Prop) (w : World) : Kept S w w := ⟨rfl, rfl, Nat.le_refl _, fun _ _ _ => rfl⟩
theorem Kept.trans (h : Kept S a b) (k : Kept S b c) : Kept S a c :=
  ⟨k.os.trans h.os, k.output.trans h.output, Nat.le_trans h.size k.size, fun i hi hs => (k.block i (Nat.lt_of_lt_of_le hi h.size) hs).trans (h.block i hi hs)⟩
theorem Kept.mono (h : Kept S w w') (hs : ∀ k, T k → S k) : Kept T w w' := ⟨h.os, h.output, h.size, fun k hk ht => h.block k hk (hs k ht)⟩
theorem Kept.all (h : Kept All w w') : Kept S w w' := h.mono fun _ _ => trivial
theorem Kept.drew (h : Kept S a w) : Kept S a w.drew := ⟨h.os, h.output, h.size, h.block⟩
theorem Kept.drewN (h : Kept S a w) (n : Nat) : Kept S a (w.drewN n) := ⟨h.os, h.output, h.size, h.block⟩
theorem Kept.alloc (h : Kept S a w) (o : Obj) : Kept S a (w.alloc o) :=
  h.trans ⟨rfl, rfl, by simp, fun k hk _ => by rw [World.alloc]; show (w.heap.push o)[k]? = _; rw [Array.getElem?_push, if_neg (by omega)]⟩
theorem heap_set (w : World) (p : Addr) (u : Value) (k : Nat) (h : k ≠ p.block) : (w.setCell p u).heap[k]? = w.heap[k]? := by
  simp only [World.setCell, Array.getElem?_modify]
  rw [if_neg (by omega)]
theorem Kept.setCell (h : Kept S a w) {p : Addr} (hp : ¬ S p.block ∨ a.heap.size ≤ p.block) (u : Value) : Kept S a (w.setCell p u) := by
  refine ⟨h.os, h.output, by simpa using h.size, fun k hk hs => ?_⟩
  rw [heap_set _ _ _ _ (fun e => by subst e; rcases hp with hp | hp; exact hp hs; omega)]
  exact h.block k hk hs
theorem Kept.grown (h : Kept S a w) {row : Option Nat} (g : w.grownBy w' row) (hr : ∀ k, row = some k → ¬ S k ∨ a.heap.size ≤ k) : Kept S a w' := by
  refine ⟨g.os.trans h.os, g.output.trans h.output, Nat.le_trans h.size g.size, fun k hk hs => ?_⟩
  rw [g.block k (Nat.lt_of_lt_of_le hk h.size) (fun e => by rcases hr k e.symm with hp | hp; exact hp hs; omega)]
  exact h.block k hk hs
theorem Kept.cell (h : Kept S w w') {p : Addr} {v : Value} (hs : S p.block) (hc : w.cell? p = some v) : w'.cell? p = some v := by
  have hb := World.block_lt_of_cell? w _ hc
  rw [World.cell?_of_block (h.block _ hb hs)]; exact hc
end

/-- Block g is just the cells cs of element type t, none frozen. -/
def Blk (w : World) (g : Nat) (t : TypeId) (cs : Array Value) : Prop := w.heap[g]? = some (.cells cs t (0, 0))

section
variable {S : Nat → Prop} {w w' : World} {g : Nat} {t : TypeId} {cs : Array Value}
theorem Blk.lt (h : Blk w g t cs) : g < w.heap.size := by
  rcases Nat.lt_or_ge g w.heap.size with hlt | hge
  · exact hlt
  · unfold Blk at h; rw [Array.getElem?_eq_none hge] at h; cases h
theorem Blk.cell (h : Blk w g t cs) (i : Nat) : w.cell? ⟨g, i, none⟩ = cs[i]? := by
  unfold Blk at h; simp [World.cell?, h]
theorem Blk.free (h : Blk w g t cs) (i : Nat) : w.frozen? ⟨g, i, none⟩ = false := by
  unfold Blk at h; simp [World.frozen?, h]
theorem Blk.new (w : World) (t : TypeId) (cs : Array Value) : Blk (w.alloc (.cells cs t)) w.heap.size t cs := by
  show (w.heap.push _)[w.heap.size]? = _; simp
theorem Blk.set (h : Blk w g t cs) (i : Nat) (u : Value) : Blk (w.setCell ⟨g, i, none⟩ u) g t (cs.setIfInBounds i u) := by
  unfold Blk at h ⊢
  simp [World.setCell, Array.getElem?_modify, h]
theorem Blk.far (h : Blk w g t cs) {p : Addr} (hp : g ≠ p.block) (u : Value) : Blk (w.setCell p u) g t cs := (heap_set w p u g hp).trans h
theorem Blk.alloc (h : Blk w g t cs) (o : Obj) : Blk (w.alloc o) g t cs := by
  have := h.lt
  show (w.heap.push o)[g]? = _
  rw [Array.getElem?_push, if_neg (by omega)]; exact h
theorem Blk.drew (h : Blk w g t cs) : Blk w.drew g t cs := h
theorem Blk.kept (h : Blk w g t cs) (k : Kept S w w') (hs : S g) : Blk w' g t cs := (k.block g h.lt hs).trans h
theorem Blk.grown {row : Option Nat} (h : Blk w g t cs) (hb : w.grownBy w' row) (hg : some g ≠ row) : Blk w' g t cs := (hb.block g h.lt hg).trans h
theorem Blk.ne {g' : Nat} {t' : TypeId} {cs' : Array Value} (h : Blk w g t cs) (h' : Blk w g' t' cs') (hne : t ≠ t') : g ≠ g' := by
  rintro rfl
  unfold Blk at h h'
  rw [h] at h'
  injection h' with h'
  injection h' with _ ht
  exact hne ht
end

/-- the first k+1 of two lists are the same just if the first k are, and the next -/
theorem take_same {α : Type} {la lb : List α} {k : Nat} (h1 : k < la.length) (h2 : k < lb.length) (h : la.take k = lb.take k) : (la.take (k + 1) = lb.take (k + 1)) ↔ la[k] = lb[k] := by
  rw [List.take_add_one, List.take_add_one (l := lb), List.getElem?_eq_getElem h1, List.getElem?_eq_getElem h2, h, List.append_cancel_left_eq]
  simp only [Option.toList_some, List.cons.injEq, and_true]
/-- N cells of bools -/
def boolArr (N : Nat) (p : Nat → Bool) : Array Value := ((List.range N).map fun i => Value.bool (p i)).toArray
theorem boolArr_at {N : Nat} {p : Nat → Bool} {i : Nat} (h : i < N) : (boolArr N p)[i]? = some (.bool (p i)) := by simp [boolArr, h]
theorem boolArr_size (N : Nat) (p : Nat → Bool) : (boolArr N p).size = N := by simp [boolArr]
theorem boolArr_set {N : Nat} {p q : Nat → Bool} {i : Nat} {b : Bool} (hi : q i = b) (ho : ∀ j, j < N → j ≠ i → q j = p j) : (boolArr N p).setIfInBounds i (.bool b) = boolArr N q := by
  apply Array.ext_getElem?
  intro j
  rw [Array.getElem?_setIfInBounds]
  by_cases hj : j < N
  · rw [boolArr_at hj, boolArr_at hj, boolArr_size]
    by_cases e : i = j
    · subst e; simp [hj, hi]
    · rw [if_neg e, ho j hj (fun x => e x.symm)]
  · have e1 : (boolArr N p)[j]? = none := by rw [Array.getElem?_eq_none]; rw [boolArr_size]; omega
    have e2 : (boolArr N q)[j]? = none := by rw [Array.getElem?_eq_none]; rw [boolArr_size]; omega
    rw [e1, e2]; split
    · rw [if_neg (by rw [boolArr_size]; omega)]
    · rfl
/-- What an element of a slice is, in the blocks of S. -/
abbrev Elem (α : Type) := (Nat → Prop) → World → Value → α → Prop
def IntE : Elem Int := fun _ _ c n => c = .int .i64 n ∧ (Lit.int .i64 n).wf = true
def BoolE : Elem Bool := fun _ _ c b => c = .bool b
/-- The slice value v reads as the list l: each element's cell is there, in a block of S. bw: how many bytes an element takes. -/
def Sl {α : Type} (bw : Nat) (E : Elem α) : Elem (List α) := fun S w v l =>
  ∃ a cap, v = .slice a l.length cap ∧ l.length ≤ cap ∧ cap ≤ maxLen ∧ l.length * bw ≤ 140737488355328 ∧ ∀ (i : Nat) (x : α), l[i]? = some x → ∃ b off c, a = some ⟨b, off, none⟩ ∧ S b ∧ w.cell? ⟨b, off + i, none⟩ = some c ∧ E S w c x
abbrev Ints := Sl 8 IntE
abbrev Bools := Sl 1 BoolE
abbrev Rows := Sl 24 (Sl 8 IntE)
abbrev BRows := Sl 24 (Sl 1 BoolE)

structure Elem.Good {α : Type} (E : Elem α) : Prop where
  keep : ∀ {S w w' c x}, Kept S w w' → E S w c x → E S w' c x
  wide : ∀ {S T : Nat → Prop} {w c x}, (∀ k, S k → T k) → E S w c x → E T w c x
theorem goodInt : Elem.Good IntE := ⟨fun _ h => h, fun _ h => h⟩
theorem goodBool : Elem.Good BoolE := ⟨fun _ h => h, fun _ h => h⟩
theorem goodSl {α : Type} {bw : Nat} {E : Elem α} (g : Elem.Good E) : Elem.Good (Sl bw E) := by
  constructor
  · intro S w w' v l k h
    obtain ⟨a, cap, hv, h1, h2, h3, h⟩ := h
    refine ⟨a, cap, hv, h1, h2, h3, fun i x hx => ?_⟩
    obtain ⟨b, off, c, e, hs, hc, he⟩ := h i x hx
    exact ⟨b, off, c, e, hs, k.cell (p := ⟨b, off + i, none⟩) hs hc, g.keep k he⟩
  · intro S T w v l k h
    obtain ⟨a, cap, hv, h1, h2, h3, h⟩ := h
    refine ⟨a, cap, hv, h1, h2, h3, fun i x hx => ?_⟩
    obtain ⟨b, off, c, e, hs, hc, he⟩ := h i x hx
    exact ⟨b, off, c, e, k b hs, hc, g.wide k he⟩
theorem goodInts : Elem.Good Ints := goodSl goodInt
theorem goodBools : Elem.Good Bools := goodSl goodBool
theorem goodRows : Elem.Good Rows := goodSl goodInts
theorem goodBRows : Elem.Good BRows := goodSl goodBools

theorem wf_bd {n : Int} (h : (Lit.int .i64 n).wf = true) : -9223372036854775808 ≤ n ∧ n ≤ 9223372036854775807 := by
  simp only [Lit.wf, IntKind.min, IntKind.max, IntKind.signed, IntKind.bits, Bool.and_eq_true, decide_eq_true_eq, if_true] at h
  omega

/-- A block of the call's own that reads as a list. -/
theorem Sl.of_blk {α : Type} {bw : Nat} {E : Elem α} {S : Nat → Prop} {w : World} {g : Nat} {t : TypeId} {cs : Array Value} {l : List α} {cap : Nat} (h : Blk w g t cs) (hs : S g) (h1 : l.length ≤ cap) (h2 : cap ≤ maxLen) (h3 : l.length * bw ≤ 140737488355328)
    (he : ∀ (i : Nat) (x : α), l[i]? = some x → ∃ c, cs[i]? = some c ∧ E S w c x) : Sl bw E S w (.slice (some ⟨g, 0, none⟩) l.length cap) l := by
  refine ⟨_, _, rfl, h1, h2, h3, fun i x hx => ?_⟩
  obtain ⟨c, hc, hE⟩ := he i x hx
  exact ⟨g, 0, c, rfl, hs, by rw [Nat.zero_add, h.cell]; exact hc, hE⟩
theorem Sl.nil {α : Type} {bw : Nat} {E : Elem α} {S : Nat → Prop} {w : World} : Sl bw E S w (.slice none 0 0) [] := by
  refine ⟨none, 0, rfl, Nat.le_refl _, Nat.zero_le _, by simp, fun i x hx => ?_⟩
  simp at hx
/-- A row of the call's own that reads as a list. -/
theorem Sl.of_own {α : Type} {bw : Nat} {E : Elem α} {S : Nat → Prop} {w : World} {base : Nat} {e : TypeId} {v : Value} {vs : List Value} {l : List α} (h : w.ownsRow base e 1 v l.length vs) (h3 : l.length * bw ≤ 140737488355328)
    (hs : ∀ g, v.ownBlock = some g → S g) (he : ∀ (i : Nat) (x : α), l[i]? = some x → ∃ c, vs[i]? = some c ∧ E S w c x) : Sl bw E S w v l := by
  obtain ⟨hl, h⟩ := h
  rcases h with ⟨rfl, hn⟩ | ⟨g, cap, cur, rfl, hb, hh, hc, hm, hsz, htk⟩
  · have : l = [] := List.eq_nil_of_length_eq_zero hn
    subst this
    exact Sl.nil
  · refine ⟨_, _, rfl, hc, hm, h3, fun i x hx => ?_⟩
    obtain ⟨c, hvs, hE⟩ := he i x hx
    refine ⟨g, 0, c, rfl, hs g rfl, ?_, hE⟩
    rw [Nat.zero_add, Blk.cell (w := w) (t := e) (cs := cur) hh]
    rw [← htk] at hvs
    have hi : i < l.length * 1 := by
      rcases Nat.lt_or_ge i (l.length * 1) with h | h
      · exact h
      · rw [List.getElem?_eq_none (by rw [List.length_take]; omega)] at hvs; cases hvs
    rw [List.getElem?_take_of_lt hi] at hvs
    simpa using hvs

theorem own_form {w : World} {base : Nat} {e : TypeId} {size n : Nat} {v : Value} {xs : List Value} (h : w.ownsRow base e size v n xs) : ∃ A c, v = .slice A n c := by
  rcases h.2 with ⟨rfl, rfl⟩ | ⟨g, cap, cur, rfl, _⟩
  · exact ⟨_, _, rfl⟩
  · exact ⟨_, _, rfl⟩
theorem own_lt {w : World} {base : Nat} {e : TypeId} {size n : Nat} {v : Value} {xs : List Value} (h : w.ownsRow base e size v n xs) {g : Nat} (hg : v.ownBlock = some g) : base ≤ g ∧ g < w.heap.size := by
  rcases h.2 with ⟨rfl, rfl⟩ | ⟨g', cap, cur, rfl, hb, hh, _⟩
  · cases hg
  · cases hg; exact ⟨hb, Blk.lt (w := w) (t := e) (cs := cur) hh⟩
theorem own_kept {S : Nat → Prop} {w w' : World} {base : Nat} {e : TypeId} {size n : Nat} {v : Value} {xs : List Value} (h : w.ownsRow base e size v n xs) (k : Kept S w w') (hs : ∀ g, v.ownBlock = some g → S g) : w'.ownsRow base e size v n xs := by
  refine ⟨h.1, ?_⟩
  rcases h.2 with hn | ⟨g, cap, cur, rfl, hb, hh, r⟩
  · exact .inl hn
  · exact .inr ⟨g, cap, cur, rfl, hb, Blk.kept (w := w) (t := e) (cs := cur) hh k (hs g rfl), r⟩
theorem own_base {w : World} {base base' : Nat} {e : TypeId} {size n : Nat} {v : Value} {xs : List Value} (h : w.ownsRow base e size v n xs) (hb : base' ≤ base) : w.ownsRow base' e size v n xs := by
  refine ⟨h.1, ?_⟩
  rcases h.2 with hn | ⟨g, cap, cur, rfl, hg, r⟩
  · exact .inl hn
  · exact .inr ⟨g, cap, cur, rfl, Nat.le_trans hb hg, r⟩
/-- what append lays: of the old row's block and of new ones alone -/
theorem Kept.app {S : Nat → Prop} {a w w' : World} {base : Nat} {e : TypeId} {size n : Nat} {v : Value} {xs : List Value} (h : Kept S a w) (ho : w.ownsRow base e size v n xs) (hb : ∀ g, base ≤ g → ¬ S g ∨ a.heap.size ≤ g) (g : w.grownBy w' v.ownBlock) : Kept S a w' :=
  h.grown g fun k hk => hb k (own_lt ho hk).1
section
variable {P : Program} (w : World)
/-- append onto a row of the call's own, the source nil, empty or not -/
theorem run_app (base : Nat) (t ty e : TypeId) (i : TypeInfo) (z : Value) (size bytes : Nat) (ht : P.underlying t = some (.slice e)) (hi : P.info? e = some i) (hz : i.zero = some z)
    (hsize : i.size = size) (hby : i.bytes = bytes) (hzs : z.cells.size = size) (hsz : 0 < size)
    (v : Value) (n : Nat) (xs : List Value) (hown : w.ownsRow base e size v n xs)
    (A : Option Addr) (m c : Nat) (news : List Value) (hl : news.length = m * size) (hA : 0 < m → ∃ b off, A = some ⟨b, off, none⟩ ∧ ∀ (j : Nat) u, news[j]? = some u → w.cell? ⟨b, off + j, none⟩ = some u)
    (h1 : ∀ u ∈ news, u.oneCell' = true) (h63 : n + m ≤ maxLen) (hbytes : (n + m) * bytes ≤ 140737488355328) (hbase : base ≤ w.heap.size) :
    ∃ v' w', (Builtin.append_ #[t, t] ty #[v, .slice A m c]).run P w = .ok v' w' ∧ w'.ownsRow base e size v' (n + m) (xs ++ news) ∧ w.grownBy w' v.ownBlock ∧
      (v'.ownBlock = v.ownBlock ∨ v'.ownBlock = some w.heap.size) := by
  rcases Nat.eq_zero_or_pos m with h0 | h0
  · subst h0
    have hn : news = [] := List.eq_nil_of_length_eq_zero (by simpa using hl)
    subst hn
    cases A with
    | none =>
      refine ⟨v, w, ?_, by simpa using hown, World.grownBy.refl w _, .inl rfl⟩
      rcases hown.2 with ⟨rfl, rfl⟩ | ⟨g, cap, cur, rfl, _, _, hnc, _⟩
      · simp [Builtin.append_, run_underlying ht, sizeOf, typeInfo, hi, Builtin.lenOf, Builtin.firstCells]
      · simp [Builtin.append_, run_underlying ht, sizeOf, typeInfo, hi, Builtin.lenOf, Builtin.firstCells, hnc, storeCells]
    | some ad =>
      obtain ⟨v', w', hrun, h2, h3, _, h5⟩ := run_append_own_at (P := P) w base t ty e i z size bytes ht hi hz hsize hby hzs hsz v n xs hown ad 0 c [] (by simp) (fun j u hu => by simp at hu) h1 h63 hbytes hbase
      exact ⟨v', w', hrun, h2, h3, h5⟩
  · obtain ⟨b, off, rfl, hc⟩ := hA h0
    obtain ⟨v', w', hrun, h2, h3, _, h5⟩ := run_append_own_at (P := P) w base t ty e i z size bytes ht hi hz hsize hby hzs hsz v n xs hown ⟨b, off, none⟩ m c news hl (fun j u hu => by
      have := hc j u hu
      unfold Addr.add
      split
      · rename_i h; subst h; exact this
      · exact this) h1 h63 hbytes hbase
    exact ⟨v', w', hrun, h2, h3, h5⟩
theorem wpList_app {ops : Array Oper} {rest : List Oper} {o : Oper} {a : Act} {Q : Exit → Act → World → Prop} (hgd : o.guard = none) (s x : Operand) (t : TypeId)
    (ho : o.op = .call { callee := .builtin .append, args := #[s, x], argTypes := #[t, t] })
    (base : Nat) (e : TypeId) (i : TypeInfo) (z : Value) (size bytes : Nat) (ht : P.underlying t = some (.slice e)) (hi : P.info? e = some i) (hz : i.zero = some z)
    (hsize : i.size = size) (hby : i.bytes = bytes) (hzs : z.cells.size = size) (hsz : 0 < size)
    (v : Value) (n : Nat) (xs : List Value) (hs : a.eval s = v) (hown : w.ownsRow base e size v n xs)
    (A : Option Addr) (m c : Nat) (news : List Value) (hx : a.eval x = .slice A m c) (hl : news.length = m * size) (hA : 0 < m → ∃ b off, A = some ⟨b, off, none⟩ ∧ ∀ (j : Nat) u, news[j]? = some u → w.cell? ⟨b, off + j, none⟩ = some u)
    (h1 : ∀ u ∈ news, u.oneCell' = true) (h63 : n + m ≤ maxLen) (hbytes : (n + m) * bytes ≤ 140737488355328) (hbase : base ≤ w.heap.size)
    (h : ∀ v' w', w'.ownsRow base e size v' (n + m) (xs ++ news) → w.grownBy w' v.ownBlock → (v'.ownBlock = v.ownBlock ∨ v'.ownBlock = some w.heap.size) → wpList P ops Q rest (a.put o.dst v') w') : wpList P ops Q (o :: rest) a w := by
  refine wpList_plain hgd fun K hK => ?_
  obtain ⟨v', w', hrun, h2, h3, h4⟩ := run_app (P := P) w base t o.type e i z size bytes ht hi hz hsize hby hzs hsz v n xs hown A m c news hl hA h1 h63 hbytes hbase
  unfold Oper.wp execOp
  simp only [ho, resolve, invoke, builtin, Sem.run_bind, Sem.run_pure, Result.andThen_ok, List.map_toArray, List.map_cons, List.map_nil, hs, hx, hrun]
  exact hK _ _ (h v' w' h2 h3 h4)
end
end Go.Proofs.Ytjfonoiclndgnaa
