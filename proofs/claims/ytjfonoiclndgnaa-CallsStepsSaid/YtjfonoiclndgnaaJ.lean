/- What calls.Groups answers: the groups, in the chapter's order. No condition. -/
import Derived.Test.YtjfonoiclndgnaaI
import Derived.Laws.EntriesVeiled
namespace Go.Proofs.Ytjfonoiclndgnaa
open Go.RowKit

/-- a row of rows of the call's own, from block B on -/
def OutRows (B : Nat) (wr : World) (o : Value) (L : List (List Int)) : Prop :=
  ∃ vs : List Value, wr.ownsRow B 28 1 o L.length vs ∧ ∀ (i : Nat) x, L[i]? = some x → ∃ c, vs[i]? = some c ∧ Ints (fun b => B ≤ b ∧ b < wr.heap.size ∧ o.ownBlock ≠ some b) wr c x
theorem OutRows.nil {B : Nat} {w : World} : OutRows B w (.slice none 0 0) [] := ⟨[], ⟨rfl, .inl ⟨rfl, rfl⟩⟩, fun i x hx => by simp at hx⟩
theorem OutRows.keep {B : Nat} {wr w' : World} {o : Value} {L : List (List Int)} (h : OutRows B wr o L) (k : Kept (fun b => B ≤ b ∧ b < wr.heap.size) wr w') : OutRows B w' o L := by
  obtain ⟨vs, h1, h2⟩ := h
  refine ⟨vs, own_kept h1 k fun g hg => own_lt h1 hg, fun i x hx => ?_⟩
  obtain ⟨c, hc, hE⟩ := h2 i x hx
  exact ⟨c, hc, goodInts.wide (fun b hb => ⟨hb.1, Nat.lt_of_lt_of_le hb.2.1 k.size, hb.2.2⟩) (goodInts.keep (k.mono fun b hb => ⟨hb.1, hb.2.1⟩) hE)⟩
theorem OutRows.app {B : Nat} {w1 w2 : World} {o v2 c : Value} {L : List (List Int)} {row : List Int} {vs : List Value}
    (hvs : ∀ (i : Nat) x, L[i]? = some x → ∃ c, vs[i]? = some c ∧ Ints (fun b => B ≤ b ∧ b < w1.heap.size ∧ o.ownBlock ≠ some b) w1 c x) (hown : w1.ownsRow B 28 1 o L.length vs)
    (hr : Ints (fun b => B ≤ b ∧ b < w1.heap.size ∧ o.ownBlock ≠ some b) w1 c row)
    (hown4 : w2.ownsRow B 28 1 v2 (L.length + 1) (vs ++ [c])) (hg2 : (w1.alloc (.cells #[c] 28)).grownBy w2 o.ownBlock)
    (hat : v2.ownBlock = o.ownBlock ∨ v2.ownBlock = some (w1.alloc (.cells #[c] 28)).heap.size) : OutRows B w2 v2 (L ++ [row]) := by
  have k2 : Kept (fun b => o.ownBlock ≠ some b) w1 w2 := ((Kept.refl _ w1).alloc _).grown hg2 fun g hg => .inl fun h => h hg
  have hsz : w1.heap.size + 1 ≤ w2.heap.size := by have := hg2.size; simpa using this
  have hne : ∀ b, b < w1.heap.size → o.ownBlock ≠ some b → v2.ownBlock ≠ some b := by
    intro b hb ho
    rcases hat with h | h
    · rw [h]; exact ho
    · rw [h]; simp; omega
  have hvl : vs.length = L.length := by have := hown.1; omega
  refine ⟨vs ++ [c], by simpa using hown4, fun i x hx => ?_⟩
  by_cases hi : i < L.length
  · rw [List.getElem?_append_left hi] at hx
    obtain ⟨c', hc, hE⟩ := hvs i x hx
    refine ⟨c', by rw [List.getElem?_append_left (by omega)]; exact hc, ?_⟩
    exact goodInts.wide (fun b hb => ⟨hb.1, by have := hb.2.1; omega, hne b hb.2.1 hb.2.2⟩) (goodInts.keep (k2.mono fun b hb => hb.2.2) hE)
  · rw [List.getElem?_append_right (by omega)] at hx
    have hi0 : i - L.length = 0 := by
      rcases Nat.eq_zero_or_pos (i - L.length) with h | h
      · exact h
      · rw [List.getElem?_eq_none (by simp; omega)] at hx; cases hx
    rw [hi0] at hx
    cases hx
    refine ⟨c, by rw [List.getElem?_append_right (by omega), hvl, hi0]; rfl, ?_⟩
    exact goodInts.wide (fun b hb => ⟨hb.1, by have := hb.2.1; omega, hne b hb.2.1 hb.2.2⟩) (goodInts.keep (k2.mono fun b hb => hb.2.2) hr)
theorem OutRows.rows {B : Nat} {w : World} {o : Value} {L : List (List Int)} (h : OutRows B w o L) (hl : L.length ≤ 1048576) : Rows (fun b => B ≤ b) w o L := by
  obtain ⟨vs, h1, h2⟩ := h
  refine Sl.of_own h1 (by omega) (fun g hg => (own_lt h1 hg).1) fun i x hx => ?_
  obtain ⟨c, hc, hE⟩ := h2 i x hx
  exact ⟨c, hc, goodInts.wide (fun b hb => hb.1) hE⟩

theorem brows_lt {S : Nat → Prop} {w : World} {v : Value} {ll : List (List Bool)} (h : BRows S w v ll) : BRows (fun b => b < w.heap.size) w v ll := by
  obtain ⟨a, cap, hv, h1, h2, h3, h⟩ := h
  refine ⟨a, cap, hv, h1, h2, h3, fun i x hx => ?_⟩
  obtain ⟨b, off, c, e, hs, hc, a', cap', hv', h1', h2', h3', h'⟩ := h i x hx
  refine ⟨b, off, c, e, World.block_lt_of_cell? w _ hc, hc, a', cap', hv', h1', h2', h3', fun j y hy => ?_⟩
  obtain ⟨b2, off2, c2, e2, hs2, hc2, he2⟩ := h' j y hy
  exact ⟨b2, off2, c2, e2, World.block_lt_of_cell? w _ hc2, hc2, he2⟩
theorem own_cap {w : World} {base : Nat} {e : TypeId} {size n c : Nat} {A : Option Addr} {xs : List Value} (h : w.ownsRow base e size (.slice A n c) n xs) : n ≤ c ∧ c ≤ maxLen := by
  rcases h.2 with ⟨h1, h2⟩ | ⟨g, cap, cur, h1, _, _, h2, h3, _⟩
  · cases h1; exact ⟨Nat.le_refl _, Nat.zero_le _⟩
  · cases h1; exact ⟨h2, h3⟩
theorem ints_clip {S : Nat → Prop} {w : World} {A : Option Addr} {n c : Nat} {l : List Int} (h : Ints S w (.slice A n c) l) : Ints S w (.slice A n n) l := by
  obtain ⟨a, cap, hv, h1, h2, h3, h⟩ := h
  injection hv with e1 e2 e3
  subst e1; subst e2
  exact ⟨_, _, rfl, Nat.le_refl _, Nat.le_trans h1 h2, h3, h⟩
/-- what holds at the head of calls.Groups' loop -/
structure GInv (ll : List (List Int)) (A : Option Addr) (c : Nat) (vb : Value) (xt xb g xs B : Nat) (w : World) (told : Nat → Bool) (o : Value) (L : List (List Int)) (wr : World) : Prop where
  to : Blk wr xt 22 #[.slice A ll.length c]
  been : Blk wr xb 34 #[vb]
  told : Blk wr g 37 (boolArr 256 told)
  same : Blk wr xs 36 #[.func (.func 20) #[] #[.pointer (some ⟨xb, 0, none⟩)]]
  rows : BRows (fun b => b ≠ g ∧ b < B) wr vb (reachM ll)
  lt : xt < B ∧ xb < B ∧ g < B ∧ xs < B
  ne : xt ≠ g ∧ xb ≠ g ∧ xs ≠ g
  low : w.heap.size ≤ g
  size : B ≤ wr.heap.size
  kept : Kept (fun b => b < w.heap.size) w wr
  out : OutRows B wr o L
theorem GInv.env {ll : List (List Int)} {A : Option Addr} {c : Nat} {vb : Value} {xt xb g xs B : Nat} {w : World} {told : Nat → Bool} {o : Value} {L : List (List Int)} {wr : World} (h : GInv ll A c vb xt xb g xs B w told o L wr) : GEnv ll A c vb xt xb g xs told wr :=
  ⟨h.to, h.been, h.told, h.same, goodBRows.wide (fun _ hb => hb.1) h.rows⟩
/-- telling a group keeps it -/
theorem GInv.tell {ll : List (List Int)} {A : Option Addr} {c : Nat} {vb : Value} {xt xb g xs B : Nat} {w : World} {told told' : Nat → Bool} {o : Value} {L : List (List Int)} {wr w' : World} (h : GInv ll A c vb xt xb g xs B w told o L wr)
    (k : Kept (fun b => b ≠ g ∧ b < wr.heap.size) wr w') (ht : Blk w' g 37 (boolArr 256 told')) : GInv ll A c vb xt xb g xs B w told' o L w' := by
  have hsz := h.size
  have hw := h.kept.size
  exact ⟨h.to.kept k ⟨h.ne.1, by have := h.lt.1; omega⟩, h.been.kept k ⟨h.ne.2.1, by have := h.lt.2.1; omega⟩, ht, h.same.kept k ⟨h.ne.2.2, by have := h.lt.2.2.2; omega⟩,
    goodBRows.keep (k.mono fun b hb => ⟨hb.1, by omega⟩) h.rows, h.lt, h.ne, h.low, Nat.le_trans hsz k.size,
    h.kept.trans (k.mono fun b hb => ⟨by have := h.low; omega, by omega⟩), h.out.keep (k.mono fun b hb => ⟨by have := h.lt.2.2.1; omega, hb.2⟩)⟩
/-- appending to what is put out keeps it -/
theorem GInv.put {ll : List (List Int)} {A : Option Addr} {c : Nat} {vb : Value} {xt xb g xs B : Nat} {w : World} {told : Nat → Bool} {o o' : Value} {L L' : List (List Int)} {wr w' : World} (h : GInv ll A c vb xt xb g xs B w told o L wr)
    (k : Kept (fun b => b < B) wr w') (ho : OutRows B w' o' L') : GInv ll A c vb xt xb g xs B w told o' L' w' := by
  have hlow := h.low
  have hlt := h.lt
  exact ⟨h.to.kept k h.lt.1, h.been.kept k h.lt.2.1, h.told.kept k h.lt.2.2.1, h.same.kept k h.lt.2.2.2,
    goodBRows.keep (k.mono fun b hb => hb.2) h.rows, h.lt, h.ne, h.low, Nat.le_trans h.size k.size, h.kept.trans (k.mono fun b hb => by omega), ho⟩
/-- what is told when the first k of a group's nodes are -/
noncomputable def toldK (ll : List (List Int)) (told : Nat → Bool) (a k : Nat) : Nat → Bool := fun x => told x || (decide (x < k) && sameB ll a x)
theorem toldK_end (ll : List (List Int)) (told : Nat → Bool) (a : Nat) : toldK ll told a ll.length = toldWith ll told a := rfl
theorem toldK_0 (ll : List (List Int)) (told : Nat → Bool) (a : Nat) : toldK ll told a 0 = told := by funext x; simp [toldK]
theorem toldK_no {ll : List (List Int)} {told : Nat → Bool} {a k : Nat} (h : sameB ll a k = false) : toldK ll told a (k + 1) = toldK ll told a k := by
  funext x
  unfold toldK
  by_cases e : x = k
  · subst e; simp [h]
  · have : (x < k + 1) ↔ (x < k) := by omega
    simp [this]
theorem toldK_yes {ll : List (List Int)} {told : Nat → Bool} {a k : Nat} (h : sameB ll a k = true) : (boolArr 256 (toldK ll told a k)).setIfInBounds k (.bool true) = boolArr 256 (toldK ll told a (k + 1)) := by
  refine boolArr_set (by simp [toldK, h]) (fun j _ hj => ?_)
  unfold toldK
  have : (j < k + 1) ↔ (j < k) := by omega
  simp [this]

theorem groups_no (S : Nat → Prop) (v : Value) (ll : List (List Int)) (w : World) (hv : Rows S w v ll) (hR : ¬ RightP ll) :
    Calls Try.prog 8 #[v] w fun e w' => e = .returned (.slice none 0 0) ∧ Kept All w w' := by
  have hright := fun w1 (hk : Kept All w w1) => right_any S v ll w1 (goodRows.keep hk.all hv)
  rw [decide_eq_false hR] at hright
  obtain ⟨a, cap, rfl, h1, h2, hbw, h⟩ := hv
  have HR := Lib.hid hright
  clear h h1 h2 hbw hright hR
  go_enter Try.func8, Try.ntmps8
  go_wp2_with fail
  refine (HR.out _ ((Kept.refl _ _).alloc _)).mono ?_
  rintro e w1 ⟨rfl, hk1⟩
  have HK := Lib.hid hk1
  clear hk1
  go_wp2_with fail
  go_ret
  exact ⟨rfl, ((Kept.refl _ _).alloc _).trans HK.out⟩

theorem groups_own (S : Nat → Prop) (v : Value) (ll : List (List Int)) (w : World) (hv : Rows S w v ll) (hR : RightP ll) :
    Calls Try.prog 8 #[v] w fun e w' => ∃ u B, e = .returned u ∧ Kept All w w' ∧ w.heap.size ≤ B ∧ OutRows B w' u (groupsAll ll) ∧ (groupsAll ll).length ≤ 256 := by
  have hl : ll.length ≤ 256 := hR.2.1
  have hright := fun w1 (hk : Kept All w w1) => right_any S v ll w1 (goodRows.keep hk.all hv)
  rw [decide_eq_true hR] at hright
  have hreach := fun w1 (hk : Kept All w w1) => reaches_any S v ll w1 (goodRows.keep hk.all hv) hR
  obtain ⟨A, cap, rfl, h1, h2, hbw, h⟩ := hv
  obtain ⟨i3, hi3, hz3, hs3, hb3⟩ := info_parts info3
  obtain ⟨i28, hi28, hz28, hs28, hb28⟩ := info_parts info28
  have I3 := Lib.hid (And.intro hi3 (And.intro hz3 (And.intro hs3 hb3)))
  have I28 := Lib.hid (And.intro hi28 (And.intro hz28 (And.intro hs28 hb28)))
  have HR := Lib.hid (And.intro hright (And.intro hreach hR))
  clear h h1 h2 hbw hright hreach hR hi3 hz3 hs3 hb3 hi28 hz28 hs28 hb28
  go_enter Try.func8, Try.ntmps8
  go_wp2_with fail
  refine (HR.out.1 _ ((Kept.refl _ _).alloc _)).mono ?_
  rintro e w1 ⟨rfl, hk1⟩
  have hbx : Blk w1 w.heap.size 22 #[.slice A ll.length cap] := (Blk.new _ _ _).kept hk1 trivial
  have hc1 := hbx.cell 0
  simp only [List.getElem?_toArray, List.getElem?_cons_zero] at hc1
  have hkk1 : Kept All w w1 := ((Kept.refl _ _).alloc _).trans hk1
  have HK := Lib.hid (And.intro hkk1 hbx)
  clear hk1 hbx hkk1
  go_wp2_with fail
  refine (HR.out.2.1 _ HK.out.1).mono ?_
  rintro e w2 ⟨vb, rfl, hk2, hb2⟩
  have hb2' := hb2
  obtain ⟨Ab, cb, rfl, _⟩ := hb2
  have HB := Lib.hid (And.intro hk2 hb2')
  clear hk2 hb2' hc1
  have hz37 := zero37_run
  go_wp2_with fail
  have hg0 : GInv ll A cap (.slice Ab (reachM ll).length cb) w.heap.size w2.heap.size (w2.heap.size + 1 + 1) (w2.heap.size + 1) (w2.heap.size + 1 + 1 + 1) w (fun _ => false) (.slice none 0 0) []
      (((w2.alloc (.cells #[.slice Ab (reachM ll).length cb] 34)).alloc (.cells #[.func (.func 20) #[] #[.pointer (some ⟨w2.heap.size, 0, none⟩)]] 36)).alloc (.cells zs256 37)) := by
    have hk3 : Kept All w2 (((w2.alloc (.cells #[.slice Ab (reachM ll).length cb] 34)).alloc (.cells #[.func (.func 20) #[] #[.pointer (some ⟨w2.heap.size, 0, none⟩)]] 36)).alloc (.cells zs256 37)) := (((Kept.refl _ _).alloc _).alloc _).alloc _
    have e1 := HK.out.1.size
    have e2 := HB.out.1.size
    have e3 : w.heap.size < w1.heap.size := HK.out.2.lt
    exact ⟨(HK.out.2.kept HB.out.1 trivial).kept hk3 trivial, ((Blk.new _ _ _).alloc _).alloc _, blk_new' (by simp), (blk_new' (by simp)).alloc _,
      goodBRows.wide (fun b hb => by omega) (goodBRows.keep hk3.all (brows_lt HB.out.2)), by omega, by omega, by omega, by simp, ((HK.out.1.trans HB.out.1).trans hk3).all, OutRows.nil⟩
  have HG0 := Lib.hid hg0
  clear hg0 hz37
  rename_i hjunk
  clear hjunk
  go_loopg [7] (ll.length + 1) (fun gg o wr => ∃ (m : Nat) (told : Nat → Bool) (L : List (List Int)), m = gg ∧ unv ll.length told < m ∧ L.length + unv ll.length told ≤ ll.length ∧ L ++ groupsM ll m told = groupsAll ll ∧
    GInv ll A cap (.slice Ab (reachM ll).length cb) w.heap.size w2.heap.size (w2.heap.size + 1 + 1) (w2.heap.size + 1) (w2.heap.size + 1 + 1 + 1) w told o L wr)
  case atStart => exact ⟨ll.length + 1, fun _ => false, [], rfl, Nat.lt_succ_of_le (unv_bd _ _), by simpa using unv_bd _ _, rfl, HG0.out⟩
  case round =>
    clear HG0
    obtain ⟨m, told, L, rfl, hm, hL, heq, hinv⟩ := hrel
    have hto := hinv.to.cell 0
    simp only [List.getElem?_toArray, List.getElem?_cons_zero] at hto
    have hready := fun a ha => ready_any ll A cap _ _ _ _ _ a told wr hinv.env ha hl
    have HI := Lib.hid (And.intro heq (And.intro hinv hready))
    clear heq hinv hready
    go_wp2_with fail
    obtain ⟨wo, rfl⟩ : ∃ wo : World, wo = wr := ⟨_, rfl⟩
    go_loopg [8, 21] ll.length (fun gg at_ i wr => ∃ k : Nat, k ≤ ll.length ∧ gg = ll.length - k ∧ i = .int .i64 k ∧ at_ = .int .i64 (-1) ∧ wo = wr ∧ ∀ a, a < k → readyB ll told a = false)
    case atStart => exact ⟨0, by omega, by omega, rfl, rfl, rfl, fun a ha => by omega⟩
    case round =>
      obtain ⟨k, hk, rfl, rfl, rfl, rfl, hno⟩ := hrel
      have HN := Lib.hid hno
      clear hno
      by_cases hlt : k < ll.length
      · have hcall := HI.out.2.2 k hlt
        cases hr : readyB ll told k with
        | false =>
          rw [hr] at hcall
          have HC := Lib.hid (And.intro hcall hr)
          clear hcall hr
          go_wp2_with (go_at_call 21; refine HC.out.1.mono ?_; rintro e w' ⟨rfl, rfl⟩)
          go_roundg (ll.length - (k + 1))
          case measure => omega
          case rel =>
            refine ⟨k + 1, by omega, rfl, by go_num, rfl, rfl, fun a ha => ?_⟩
            by_cases e : a = k
            · subst e; exact HC.out.2
            · exact HN.out a (by omega)
        | true =>
          rw [hr] at hcall
          have HC := Lib.hid (And.intro hcall hr)
          clear hcall hr
          have hpos : decide ((k : Int) < 0) = false := by simp
          go_wp2_with (go_at_call 21; refine HC.out.1.mono ?_; rintro e w' ⟨rfl, rfl⟩)
          have hinv := HI.out.2.1
          have hB := hinv.size
          have hlow := hinv.low
          clear hinv
          go_loopg [10, 34] ll.length (fun gg o2 i wr => ∃ j : Nat, j ≤ ll.length ∧ gg = ll.length - j ∧ i = .int .i64 j ∧ Kept (fun b => b ≠ w2.heap.size + 1 + 1 ∧ b < wo.heap.size) wo wr ∧ Blk wr (w2.heap.size + 1 + 1) 37 (boolArr 256 (toldK ll told k j)) ∧
            wr.ownsRow wo.heap.size 3 1 o2 (grp ll k j).length (intCells (grp ll k j)))
          case atStart => exact ⟨0, by omega, by omega, rfl, Kept.refl _ _, by rw [toldK_0]; exact HI.out.2.1.told, by simp [intCells, grp], .inl ⟨rfl, by simp [grp]⟩⟩
          case round =>
            obtain ⟨j, hj, rfl, rfl, hkept, htold, hown⟩ := hrel
            have hgl := grp_len ll k j
            have hinv := (HI.out.2.1).tell hkept htold
            have henv := hinv.env
            have hsame := hinv.same.cell 0
            simp only [List.getElem?_toArray, List.getElem?_cons_zero] at hsame
            have HJ := Lib.hid (And.intro hkept (And.intro htold (And.intro hown hinv)))
            clear hkept htold hown hinv
            by_cases hlt2 : j < ll.length
            · have hcall := same_pair _ ll _ _ k j wr henv.been henv.rows hlt hlt2 hl
              clear henv
              cases hs : sameB ll k j with
              | false =>
                rw [hs] at hcall
                have HS := Lib.hid (And.intro hcall hs)
                clear hcall hs
                go_wp2_with (go_at_call 20; refine HS.out.1.mono ?_; rintro e w' ⟨rfl, rfl⟩)
                go_roundg (ll.length - (j + 1))
                case measure => omega
                case rel => exact ⟨j + 1, by omega, rfl, by go_num, HJ.out.1, by rw [toldK_no HS.out.2]; exact HJ.out.2.1, by rw [grp_no HS.out.2]; exact HJ.out.2.2.1⟩
              | true =>
                rw [hs] at hcall
                have hown1 : (wr.alloc (.cells #[.int .i64 j] 3)).ownsRow wo.heap.size 3 1 u10 (grp ll k j).length (intCells (grp ll k j)) := own_kept HJ.out.2.2.1 ((Kept.refl All wr).alloc _) (fun _ _ => trivial)
                have HS := Lib.hid (And.intro hcall (And.intro hs hown1))
                have hwo := HJ.out.1.size
                clear hcall hs hown1
                go_wp2_with (first
                  | (go_at_call 20; refine HS.out.1.mono ?_; rintro e w' ⟨rfl, rfl⟩)
                  | (at_builtin
                     refine wpList_app _ rfl (.tmp 41) (.tmp 43) 28 rfl wo.heap.size 3 i3 _ 1 8 Try.underlying28 I3.out.1 I3.out.2.1 I3.out.2.2.1 I3.out.2.2.2 rfl (by decide) _ _ _ rfl HS.out.2.2 (some ⟨wr.heap.size, 0, none⟩) 1 1 [.int .i64 j] rfl rfl ?_ ?_ (by unfold maxLen; omega) (by omega) (by simp; omega) ?_
                     · intro _
                       exact ⟨_, _, rfl, fun j u hu => by
                         rw [Nat.zero_add, Blk.cell (Blk.new _ _ _)]; simpa using hu⟩
                     · intro u hu
                       rw [List.mem_singleton.1 hu]; rfl
                     intro v3 w3 hown4 hg2 hat2
                     have hk3 : Kept (fun b => b < wo.heap.size) wr w3 := ((Kept.refl _ wr).alloc _).grown hg2 fun g hg => .inl fun h => by have := (own_lt HS.out.2.2 hg).1; omega
                     have htold3 := HJ.out.2.1.kept hk3 (by omega)
                     have hcell := htold3.cell j
                     rw [boolArr_at (by omega)] at hcell
                     have hfree := htold3.free j
                     have H3 := Lib.hid (And.intro hown4 (And.intro hk3 htold3))
                     clear hown4 hg2 hat2 hk3 htold3))
                go_roundg (ll.length - (j + 1))
                case measure => omega
                case rel =>
                  have e : grp ll k (j + 1) = grp ll k j ++ [(j : Int)] := grp_yes HS.out.2.1
                  refine ⟨j + 1, by omega, rfl, by go_num, (HJ.out.1.trans (H3.out.2.1.mono fun b hb => hb.2)).setCell (p := ⟨w2.heap.size + 1 + 1, j, none⟩) (.inl fun h => h.1 rfl) _, ?_, ?_⟩
                  · rw [← toldK_yes HS.out.2.1]; exact H3.out.2.2.set _ _
                  · rw [e]
                    have h4 := H3.out.1
                    have h5 : (w3.setCell ⟨w2.heap.size + 1 + 1, j, none⟩ (.bool true)).ownsRow wo.heap.size 3 1 v3 ((grp ll k j).length + 1) (intCells (grp ll k j) ++ [.int .i64 j]) :=
                      own_kept (S := fun b => wo.heap.size ≤ b) h4 ((Kept.refl _ _).setCell (p := ⟨w2.heap.size + 1 + 1, j, none⟩) (.inl fun h => by
                        have : wo.heap.size ≤ w2.heap.size + 1 + 1 := h
                        omega) _) fun g hg => (own_lt h4 hg).1
                    simpa [intCells] using h5
            · have hjn : j = ll.length := by omega
              subst hjn
              obtain ⟨Ag, cg, rfl⟩ := own_form HJ.out.2.2.1
              have hcap := own_cap HJ.out.2.2.1
              obtain ⟨vs, hown_o, hvs⟩ := HJ.out.2.2.2.out
              have hown1 : (wr.alloc (.cells #[.slice Ag (grp ll k ll.length).length (grp ll k ll.length).length] 28)).ownsRow (w2.heap.size + 1 + 1 + 1) 28 1 u7 L.length vs := own_kept hown_o ((Kept.refl All wr).alloc _) (fun _ _ => trivial)
              have hr := ints_own (S := fun b => wo.heap.size ≤ b ∧ b < wr.heap.size) HJ.out.2.2.1 rfl (by omega) (fun g hg => own_lt HJ.out.2.2.1 hg) (grp_wf hl)
              have HO := Lib.hid (And.intro hown_o (And.intro hvs (And.intro hown1 hr)))
              have hszr := HJ.out.2.2.2.size
              have hclip := clip_any Ag (grp ll k ll.length).length cg wr hcap.1 (by have := hcap.2; unfold maxLen at this; omega)
              have HCL := Lib.hid hclip
              clear hown_o hvs hown1 hr hcap hclip henv hsame
              go_wp2_with (first
                | (go_at_call 22; refine HCL.out.mono ?_; rintro e w' ⟨rfl, rfl⟩)
                | (at_builtin
                   refine wpList_app _ rfl (.tmp 48) (.tmp 51) 22 rfl (w2.heap.size + 1 + 1 + 1) 28 i28 _ 1 24 Try.underlying22 I28.out.1 I28.out.2.1 I28.out.2.2.1 I28.out.2.2.2 rfl (by decide) _ _ _ rfl HO.out.2.2.1 (some ⟨wr.heap.size, 0, none⟩) 1 1 [.slice Ag (grp ll k ll.length).length (grp ll k ll.length).length] rfl rfl ?_ ?_ (by unfold maxLen; omega) (by omega) (by simp; omega) ?_
                   · intro _
                     exact ⟨_, _, rfl, fun j u hu => by
                       rw [Nat.zero_add, Blk.cell (Blk.new _ _ _)]; simpa using hu⟩
                   · intro u hu
                     rw [List.mem_singleton.1 hu]; rfl
                   intro v4 w4 hown4 hg2 hat2))
              obtain ⟨m', rfl⟩ : ∃ m', m = m' + 1 := ⟨m - 1, by omega⟩
              go_roundg m'
              case measure => omega
              case rel =>
                have hnt : told k = false := (readyB_iff.1 HC.out.2).1
                have hun := toldWith_unv hlt hnt
                have hfind : (List.range ll.length).find? (readyB ll told) = some k := by
                  rcases find_spec (n := ll.length) (p := readyB ll told) with ⟨_, h⟩ | ⟨a, h1, h2, h3, h4⟩
                  · have h5 := HC.out.2; rw [h k hlt] at h5; cases h5
                  · rcases Nat.lt_trichotomy a k with h5 | h5 | h5
                    · rw [HN.out a h5] at h3; cases h3
                    · rw [h1, h5]
                    · have h6 := HC.out.2; rw [h4 k h5] at h6; cases h6
                have hu7 : ∀ b, wo.heap.size ≤ b → u7.ownBlock ≠ some b := fun b hb e => by
                  obtain ⟨vs', ho', _⟩ := HI.out.2.1.out
                  have := (own_lt ho' e).2; omega
                have hr : Ints (fun b => w2.heap.size + 1 + 1 + 1 ≤ b ∧ b < wr.heap.size ∧ u7.ownBlock ≠ some b) wr (.slice Ag (grp ll k ll.length).length (grp ll k ll.length).length) (groupL ll k) :=
                  goodInts.wide (fun b hb => ⟨by have := hb.1; omega, hb.2, hu7 b hb.1⟩) (ints_clip HO.out.2.2.2)
                have hout : OutRows (w2.heap.size + 1 + 1 + 1) w4 v4 (L ++ [groupL ll k]) := OutRows.app HO.out.2.1 HO.out.1 hr hown4 hg2 hat2
                have hk4 : Kept (fun b => b < w2.heap.size + 1 + 1 + 1) wr w4 := ((Kept.refl _ wr).alloc _).grown hg2 fun g hg => .inl fun h => by have := (own_lt HO.out.1 hg).1; omega
                refine ⟨m', toldWith ll told k, L ++ [groupL ll k], rfl, by omega, by rw [List.length_append]; simp; omega, ?_, HJ.out.2.2.2.put hk4 hout⟩
                rw [← HI.out.1, groupsM_some hfind, List.append_assoc]; rfl
      · go_wp2_with fail
        go_ret
        have hf : (List.range ll.length).find? (readyB ll told) = none := by
          rw [List.find?_eq_none]
          intro a ha
          rw [HN.out a (by have := List.mem_range.1 ha; omega)]; simp
        have he := HI.out.1
        rw [groupsM_none hf, List.append_nil] at he
        subst he
        refine ⟨_, _, rfl, ⟨HI.out.2.1.kept.os, HI.out.2.1.kept.output, HI.out.2.1.kept.size, fun b hb _ => HI.out.2.1.kept.block b hb hb⟩, ?_, HI.out.2.1.out, by omega⟩
        have := HI.out.2.1.low
        omega

theorem groups_yes (S : Nat → Prop) (v : Value) (ll : List (List Int)) (w : World) (hv : Rows S w v ll) (hR : RightP ll) :
    Calls Try.prog 8 #[v] w fun e w' => ∃ u, e = .returned u ∧ Kept All w w' ∧ Rows (fun b => w.heap.size ≤ b) w' u (groupsAll ll) := by
  refine (groups_own S v ll w hv hR).mono ?_
  rintro e w' ⟨u, B, rfl, hk, hB, ho, hl⟩
  exact ⟨u, rfl, hk, goodRows.wide (fun b hb => Nat.le_trans hB hb) (ho.rows (by omega))⟩
end Go.Proofs.Ytjfonoiclndgnaa
