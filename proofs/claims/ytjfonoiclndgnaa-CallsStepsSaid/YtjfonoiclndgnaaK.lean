/- What interdictref18.Groups answers: the groups, in the chapter's order. No condition. -/
import Derived.Test.YtjfonoiclndgnaaJ
import Derived.Test.YtjfonoiclndgnaaA
namespace Go.Proofs.Ytjfonoiclndgnaa
open Go.RowKit

/-- what holds at the head of the reference's loop -/
structure RInv (ll : List (List Int)) (vb : Value) (g B : Nat) (w : World) (told : Nat → Bool) (o : Value) (L : List (List Int)) (wr : World) : Prop where
  told : Blk wr g 4 (boolArr ll.length told)
  rows : BRows (fun b => b ≠ g ∧ b < B) wr vb (reachM ll)
  lt : g < B
  low : w.heap.size ≤ g
  size : B ≤ wr.heap.size
  kept : Kept (fun b => b < w.heap.size) w wr
  out : OutRows B wr o L
theorem RInv.tell {ll : List (List Int)} {vb : Value} {g B : Nat} {w : World} {told told' : Nat → Bool} {o : Value} {L : List (List Int)} {wr w' : World} (h : RInv ll vb g B w told o L wr)
    (k : Kept (fun b => b ≠ g ∧ b < wr.heap.size) wr w') (ht : Blk w' g 4 (boolArr ll.length told')) : RInv ll vb g B w told' o L w' := by
  have hsz := h.size
  have hw := h.kept.size
  exact ⟨ht, goodBRows.keep (k.mono fun b hb => ⟨hb.1, by omega⟩) h.rows, h.lt, h.low, Nat.le_trans hsz k.size,
    h.kept.trans (k.mono fun b hb => ⟨by have := h.low; omega, by omega⟩), h.out.keep (k.mono fun b hb => ⟨by have := h.lt; omega, hb.2⟩)⟩
theorem RInv.put {ll : List (List Int)} {vb : Value} {g B : Nat} {w : World} {told : Nat → Bool} {o o' : Value} {L L' : List (List Int)} {wr w' : World} (h : RInv ll vb g B w told o L wr)
    (k : Kept (fun b => b < B) wr w') (ho : OutRows B w' o' L') : RInv ll vb g B w told o' L' w' := by
  have hlow := h.low
  have hlt := h.lt
  exact ⟨h.told.kept k h.lt, goodBRows.keep (k.mono fun b hb => hb.2) h.rows, h.lt, h.low, Nat.le_trans h.size k.size, h.kept.trans (k.mono fun b hb => by omega), ho⟩
theorem RInv.all {ll : List (List Int)} {vb : Value} {g B : Nat} {w : World} {told : Nat → Bool} {o : Value} {L : List (List Int)} {wr w' : World} (h : RInv ll vb g B w told o L wr) (k : Kept All wr w') : RInv ll vb g B w told o L w' :=
  h.tell k.all (h.told.kept k trivial)
theorem in_group {ll : List (List Int)} {a b : Nat} (hb : b < ll.length) : ((b : Int) ∈ groupL ll a) ↔ sameB ll a b = true := by
  simp only [groupL, groupN, List.mem_map, List.mem_filter, List.mem_range]
  constructor
  · rintro ⟨n, ⟨_, hs⟩, he⟩
    have : n = b := by omega
    subst this; exact hs
  · intro h; exact ⟨b, ⟨hb, h⟩, rfl⟩
theorem ints_both {S : Nat → Prop} {w : World} {v : Value} {l : List Int} (h : Ints S w v l) : Ints (fun b => S b ∧ b < w.heap.size) w v l := by
  obtain ⟨a, cap, hv, h1, h2, h3, h⟩ := h
  refine ⟨a, cap, hv, h1, h2, h3, fun i x hx => ?_⟩
  obtain ⟨b, off, c, e, hs, hc, he⟩ := h i x hx
  exact ⟨b, off, c, e, ⟨hs, World.block_lt_of_cell? w _ hc⟩, hc, he⟩
theorem group_mem {ll : List (List Int)} {a : Nat} {x : Int} (hx : x ∈ groupL ll a) : ∃ n : Nat, x = n ∧ n < ll.length ∧ sameB ll a n = true := by
  simp only [groupL, groupN, List.mem_map, List.mem_filter, List.mem_range] at hx
  obtain ⟨n, ⟨h1, h2⟩, rfl⟩ := hx
  exact ⟨n, rfl, h1, h2⟩
/-- told, and the first i of a list -/
def toldG (told : Nat → Bool) (l : List Int) (i : Nat) : Nat → Bool := fun x => told x || decide ((x : Int) ∈ l.take i)
theorem toldG_step {n : Nat} {told : Nat → Bool} {l : List Int} {i k : Nat} (h : l[i]? = some (k : Int)) : (boolArr n (toldG told l i)).setIfInBounds k (.bool true) = boolArr n (toldG told l (i + 1)) := by
  have e : l.take (i + 1) = l.take i ++ [(k : Int)] := by rw [List.take_add_one, h]; rfl
  refine boolArr_set (by simp [toldG, e]) (fun j _ hj => ?_)
  have : ¬ (j : Int) = (k : Int) := by omega
  simp [toldG, e, this]
theorem toldG_end {ll : List (List Int)} {told : Nat → Bool} {a : Nat} : boolArr ll.length (toldG told (groupL ll a) (groupL ll a).length) = boolArr ll.length (toldWith ll told a) := by
  apply Array.ext_getElem?
  intro j
  by_cases hj : j < ll.length
  · rw [boolArr_at hj, boolArr_at hj]
    simp only [toldG, toldWith, List.take_length]
    have := in_group (a := a) hj
    cases hs : sameB ll a j with
    | true => simp [this.2 hs, hj]
    | false => have h2 : (j : Int) ∉ groupL ll a := fun h => by rw [this.1 h] at hs; cases hs
               simp [h2]
  · rw [Array.getElem?_eq_none (by rw [boolArr_size]; omega), Array.getElem?_eq_none (by rw [boolArr_size]; omega)]
theorem groupL_len (ll : List (List Int)) (a : Nat) : (groupL ll a).length ≤ ll.length := by rw [← grp_end]; exact grp_len _ _ _

theorem refgroups_no (S : Nat → Prop) (v : Value) (ll : List (List Int)) (w : World) (hv : Rows S w v ll) (hR : ¬ RightP ll) :
    Calls Try.prog 10 #[v] w fun e w' => e = .returned (.slice none 0 0) ∧ Kept All w w' := by
  have hright := refright_any S v ll w hv
  rw [decide_eq_false hR] at hright
  obtain ⟨a, cap, rfl, h1, h2, hbw, h⟩ := hv
  have HR := Lib.hid hright
  clear h h1 h2 hbw hright hR
  go_enter Try.func10, Try.ntmps10
  go_wp2_with fail
  refine HR.out.mono ?_
  rintro e w1 ⟨rfl, hk1⟩
  have HK := Lib.hid hk1
  clear hk1
  go_wp2_with fail
  go_ret
  exact ⟨rfl, HK.out⟩

set_option maxRecDepth 100000 in
theorem refgroups_yes (S : Nat → Prop) (v : Value) (ll : List (List Int)) (w : World) (hv : Rows S w v ll) (hR : RightP ll) :
    Calls Try.prog 10 #[v] w fun e w' => ∃ u, e = .returned u ∧ Kept All w w' ∧ Rows (fun b => w.heap.size ≤ b) w' u (groupsAll ll) := by
  have hl : ll.length ≤ 256 := hR.2.1
  have hright := refright_any S v ll w hv
  rw [decide_eq_true hR] at hright
  have hreach := fun w1 (hk : Kept All w w1) => refreaches_any S v ll w1 (goodRows.keep hk.all hv) hR
  obtain ⟨A, cap, rfl, h1, h2, hbw, h⟩ := hv
  obtain ⟨i28, hi28, hz28, hs28, hb28⟩ := info_parts info28
  have I28 := Lib.hid (And.intro hi28 (And.intro hz28 (And.intro hs28 hb28)))
  have HR := Lib.hid (And.intro hright (And.intro hreach hR))
  clear h h1 h2 hbw hright hreach hR hi28 hz28 hs28 hb28
  have hmk := fun w => mk_bools ll.length (by omega) w
  go_enter Try.func10, Try.ntmps10
  go_wp2_with fail
  refine HR.out.1.mono ?_
  rintro e w1 ⟨rfl, hk1⟩
  have HK := Lib.hid hk1
  clear hk1
  go_wp2_with fail
  refine (HR.out.2.1 _ HK.out).mono ?_
  rintro e w2 ⟨vb, rfl, hk2, hb2⟩
  have hb2' := hb2
  obtain ⟨Ab, cb, rfl, _⟩ := hb2
  rw [reachM_len] at hb2'
  rw [reachM_len]
  have HB := Lib.hid (And.intro hk2 hb2')
  clear hk2 hb2'
  rename_i hjunk
  clear hjunk
  go_wp2_with fail
  have hg0 : RInv ll (.slice Ab ll.length cb) w2.heap.size (w2.heap.size + 1) w (fun _ => false) (.slice none 0 0) [] (w2.alloc (.cells (boolArr ll.length fun _ => false) 4)) := by
    have hk3 : Kept All w2 (w2.alloc (.cells (boolArr ll.length fun _ => false) 4)) := (Kept.refl _ _).alloc _
    have e1 := HK.out.size
    have e2 := HB.out.1.size
    exact ⟨Blk.new _ _ _, goodBRows.wide (fun b hb => by omega) (goodBRows.keep hk3.all (brows_lt HB.out.2)), by omega, by omega, by simp, ((HK.out.trans HB.out.1).trans hk3).all, OutRows.nil⟩
  have HG0 := Lib.hid hg0
  clear hg0 hmk
  go_loopg [5, 6] (ll.length + 1) (fun gg o n wr => ∃ (m : Nat) (told : Nat → Bool) (L : List (List Int)) (c : Nat), m = gg ∧ n = .int .i64 c ∧ c + unv ll.length told = ll.length ∧ unv ll.length told < m ∧ L.length ≤ c ∧ Whole ll told ∧ L ++ groupsM ll m told = groupsAll ll ∧
    RInv ll (.slice Ab ll.length cb) w2.heap.size (w2.heap.size + 1) w told o L wr)
  case atStart =>
    have hu : unv ll.length (fun _ => false) = ll.length := by
      have : ∀ n, unv n (fun _ => false) = n := by
        intro n; induction n with
        | zero => rfl
        | succ n ih => simp [unv, ih]
      exact this _
    exact ⟨ll.length + 1, fun _ => false, [], 0, rfl, rfl, by omega, by omega, by simp, (fun x y _ h => by cases h), rfl, HG0.out⟩
  case round =>
    clear HG0
    obtain ⟨m, told, L, c, rfl, rfl, hcu, hm, hL, hwhole, heq, hinv⟩ := hrel
    have HI := Lib.hid (And.intro hwhole (And.intro heq hinv))
    have hcu1 : c + unv ll.length told ≤ ll.length := by omega
    have hcu2 : ll.length ≤ c + unv ll.length told := by omega
    clear hwhole heq hinv hcu
    by_cases hc : c < ll.length
    · go_wp2_with fail
      obtain ⟨wo, rfl⟩ : ∃ wo : World, wo = wr := ⟨_, rfl⟩
      go_loopg [5, 6, 7] ll.length (fun gg o n i wr => ∃ k : Nat, k ≤ ll.length ∧ gg = ll.length - k ∧ i = .int .i64 k ∧ o = u5 ∧ n = .int .i64 c ∧ Kept All wo wr ∧ ∀ a, a < k → readyB ll told a = false)
      case atStart => exact ⟨0, by omega, by omega, rfl, rfl, rfl, Kept.refl _ _, fun a ha => by omega⟩
      case round =>
        obtain ⟨k, hk, rfl, rfl, rfl, rfl, hkept, hno⟩ := hrel
        obtain ⟨wq, rfl⟩ : ∃ wq : World, wq = wr := ⟨_, rfl⟩
        have hinv := HI.out.2.2.all hkept
        have HN := Lib.hid (And.intro hno (And.intro hkept hinv))
        clear hno hkept hinv
        by_cases hlt : k < ll.length
        · have hcall := group_any _ ll _ k wq HN.out.2.2.rows hlt hl
          have HC := Lib.hid hcall
          clear hcall
          go_wp2_with fail
          refine HC.out.mono ?_
          rintro e w3 ⟨vg, rfl, hk3, hgr⟩
          have hgr' := hgr
          obtain ⟨Ag, cg, rfl, _, _, _, hgc⟩ := hgr
          have hinv3 := HN.out.2.2.all hk3
          have hglen := groupL_len ll k
          have htc := fun x (hx : x < ll.length) => (hinv3.told.cell x).trans (boolArr_at hx)
          have H3 := Lib.hid (And.intro hk3 (And.intro hgr' (And.intro hinv3 (And.intro htc hgc))))
          clear hk3 hgr' hinv3 htc hgc
          have h4 := H3.out.2.2.2.1 k hlt
          go_wp2_with fail
          clear h4
          go_loopg [9, 10] ll.length (fun gg s b wr => ∃ (b0 : Nat) (isb : Bool), b0 ≤ ll.length ∧ gg = ll.length - b0 ∧ b = .int .i64 b0 ∧ s = .bool isb ∧ w3 = wr ∧ (isb = true → told k = false ∧ ∀ x, x < b0 → reachB ll k x = true → told x = true ∨ sameB ll k x = true) ∧ (isb = false → readyB ll told k = false))
          case atStart =>
            refine ⟨0, !told k, by omega, by omega, rfl, rfl, rfl, fun h => ⟨by simpa using h, fun x hx => by omega⟩, fun h => ?_⟩
            have : told k = true := by simpa using h
            simp [readyB, this]
          case round =>
            obtain ⟨b0, isb, hb0, rfl, rfl, rfl, rfl, hyes, hnot⟩ := hrel
            have HY := Lib.hid (And.intro hyes hnot)
            clear hyes hnot
            cases isb with
            | false =>
              have hnr := Lib.hid (HY.out.2 rfl)
              by_cases hlt3 : b0 < ll.length
              all_goals
                go_wp2_with fail
                go_roundg (ll.length - (k + 1))
                case measure => omega
                case rel =>
                  refine ⟨k + 1, by omega, rfl, by go_num, rfl, rfl, HN.out.2.1.trans H3.out.1, fun a ha => ?_⟩
                  by_cases e : a = k
                  · subst e; exact hnr.out
                  · exact HN.out.1 a (by omega)
            | true =>
              by_cases hlt3 : b0 < ll.length
              · obtain ⟨b1, o1, b2, o2, c2, rfl, _, h1, h1', _, h2⟩ := brow_at H3.out.2.2.1.rows hlt hlt3
                have h6 := H3.out.2.2.2.1 b0 hlt3
                cases hp : reachB ll k b0 with
                | false =>
                  rw [hp] at h2
                  have Hp := Lib.hid hp
                  clear hp
                  go_wp2_with fail
                  go_roundg (ll.length - (b0 + 1))
                  case measure => omega
                  case rel =>
                    refine ⟨b0 + 1, true, by omega, rfl, by go_num, rfl, rfl, fun _ => ⟨(HY.out.1 (by trivial)).1, fun x hx hr => ?_⟩, fun h => by cases h⟩
                    by_cases e : x = b0
                    · subst e; rw [Hp.out] at hr; cases hr
                    · exact (HY.out.1 (by trivial)).2 x (by omega) hr
                | true =>
                  rw [hp] at h2
                  have Hp := Lib.hid hp
                  clear hp
                  cases ht : told b0 with
                  | true =>
                    rw [ht] at h6
                    have Ht := Lib.hid ht
                    clear ht
                    go_wp2_with fail
                    go_roundg (ll.length - (b0 + 1))
                    case measure => omega
                    case rel =>
                      refine ⟨b0 + 1, true, by omega, rfl, by go_num, rfl, rfl, fun _ => ⟨(HY.out.1 (by trivial)).1, fun x hx hr => ?_⟩, fun h => by cases h⟩
                      by_cases e : x = b0
                      · subst e; exact .inl Ht.out
                      · exact (HY.out.1 (by trivial)).2 x (by omega) hr
                  | false =>
                    rw [ht] at h6
                    have hin := in_any _ _ _ (b0 : Int) w3 H3.out.2.1
                    have e : decide ((b0 : Int) ∈ groupL ll k) = sameB ll k b0 := by
                      rw [Bool.eq_iff_iff, decide_eq_true_eq, in_group hlt3]
                    rw [e] at hin
                    have Ht := Lib.hid (And.intro ht hin)
                    clear ht hin e
                    go_wp2_with fail
                    refine Ht.out.2.mono ?_
                    rintro e w' ⟨rfl, rfl⟩
                    go_wp2_with fail
                    go_roundg (ll.length - (b0 + 1))
                    case measure => omega
                    case rel =>
                      refine ⟨b0 + 1, sameB ll k b0, by omega, rfl, by go_num, rfl, rfl, fun hs => ⟨(HY.out.1 (by trivial)).1, fun x hx hr => ?_⟩, fun hs => ?_⟩
                      · by_cases e : x = b0
                        · subst e; exact .inr hs
                        · exact (HY.out.1 (by trivial)).2 x (by omega) hr
                      · cases h : readyB ll told k with
                        | false => rfl
                        | true =>
                          rcases (readyB_iff.1 h).2 b0 hlt3 Hp.out with h | h
                          · rw [Ht.out.1] at h; cases h
                          · rw [hs] at h; cases h
              · have hready : readyB ll told k = true := readyB_iff.2 ⟨(HY.out.1 (by trivial)).1, fun x hx hr => (HY.out.1 (by trivial)).2 x (by omega) hr⟩
                have HRD := Lib.hid hready
                clear hready
                go_wp2_with fail
                have hB3 := H3.out.2.2.1.size
                have hlow3 := H3.out.2.2.1.low
                have hw3 := H3.out.1.size
                have hw1 := HN.out.2.1.size
                have hwr := HN.out.2.2.size
                go_loopg [11] (groupL ll k).length (fun gg i w4 => ∃ i0 : Nat, i0 ≤ (groupL ll k).length ∧ gg = (groupL ll k).length - i0 ∧ i = .int .i64 i0 ∧ Kept (fun b => b ≠ w2.heap.size) w3 w4 ∧ Blk w4 w2.heap.size 4 (boolArr ll.length (toldG told (groupL ll k) i0)))
                case atStart =>
                  have e : toldG told (groupL ll k) 0 = told := by funext x; simp [toldG]
                  exact ⟨0, by omega, by omega, rfl, Kept.refl _ _, by rw [e]; exact H3.out.2.2.1.told⟩
                case round =>
                  obtain ⟨i0, hi0, rfl, rfl, hk4, ht4⟩ := hrel
                  by_cases hlt4 : i0 < (groupL ll k).length
                  · obtain ⟨b5, o5, c5, rfl, hs5, hc5, rfl, hwf5⟩ := H3.out.2.2.2.2 i0 (groupL ll k)[i0] (List.getElem?_eq_getElem hlt4)
                    have hd5 := hk4.cell (p := ⟨b5, o5 + i0, none⟩) (by have h8 : wq.heap.size ≤ b5 := hs5; show b5 ≠ _; omega) hc5
                    have hget : (groupL ll k)[i0]? = some (groupL ll k)[i0] := List.getElem?_eq_getElem hlt4
                    obtain ⟨q, hq, hqn, _⟩ := group_mem (List.getElem_mem hlt4)
                    rw [hq] at hd5 hget
                    have hcell := ht4.cell q
                    rw [boolArr_at hqn] at hcell
                    have hfree := ht4.free q
                    have H4 := Lib.hid (And.intro hk4 (And.intro ht4 hget))
                    clear hk4 ht4 hget hq hc5
                    go_wp2_with fail
                    go_roundg ((groupL ll k).length - (i0 + 1))
                    case measure => omega
                    case rel => exact ⟨i0 + 1, by omega, rfl, by go_num, H4.out.1.setCell (p := ⟨w2.heap.size, q, none⟩) (.inl fun h => h rfl) _, by rw [← toldG_step H4.out.2.2]; exact H4.out.2.1.set _ _⟩
                  · have hie : i0 = (groupL ll k).length := by omega
                    subst hie
                    rw [toldG_end] at ht4
                    have hinv4 := H3.out.2.2.1.tell (hk4.mono fun b hb => hb.1) ht4
                    obtain ⟨vs, hown_o, hvs⟩ := hinv4.out
                    have hown1 : (wr.alloc (.cells #[.slice Ag (groupL ll k).length cg] 28)).ownsRow (w2.heap.size + 1) 28 1 u5 L.length vs := own_kept hown_o ((Kept.refl All wr).alloc _) (fun _ _ => trivial)
                    have H4 := Lib.hid (And.intro hk4 (And.intro hinv4 (And.intro hown_o (And.intro hvs hown1))))
                    have hsz4 := hinv4.size
                    have hlen := unv_group HI.out.1 hlt (readyB_iff.1 HRD.out).1 ll.length (Nat.le_refl _)
                    have hgl2 : (groupL ll k).length = ((List.range ll.length).filter (sameB ll k)).length := by simp [groupL, groupN]
                    have hcl : c + (groupL ll k).length + unv ll.length (toldWith ll told k) = ll.length := by omega
                    have hcl2 : c + (groupL ll k).length ≤ 256 := by omega
                    have HCL := Lib.hid hcl
                    clear hk4 ht4 hinv4 hown_o hvs hown1 hlen hgl2 hcl
                    go_wp2_with (at_builtin
                                 refine wpList_app _ rfl (.tmp 80) (.tmp 82) 22 rfl (w2.heap.size + 1) 28 i28 _ 1 24 Try.underlying22 I28.out.1 I28.out.2.1 I28.out.2.2.1 I28.out.2.2.2 rfl (by decide) _ _ _ rfl H4.out.2.2.2.2 (some ⟨wr.heap.size, 0, none⟩) 1 1 [.slice Ag (groupL ll k).length cg] rfl rfl ?_ ?_ (by unfold maxLen; omega) (by omega) (by simp; omega) ?_
                                 · intro _
                                   exact ⟨_, _, rfl, fun j u hu => by
                                     rw [Nat.zero_add, Blk.cell (Blk.new _ _ _)]; simpa using hu⟩
                                 · intro u hu
                                   rw [List.mem_singleton.1 hu]; rfl
                                 intro v4 w4 hown4 hg2 hat2)
                    obtain ⟨m', rfl⟩ : ∃ m', m = m' + 1 := ⟨m - 1, by omega⟩
                    go_roundg m'
                    case measure => omega
                    case rel =>
                      have hnt : told k = false := (readyB_iff.1 HRD.out).1
                      have hun := toldWith_unv hlt hnt
                      have hfind : (List.range ll.length).find? (readyB ll told) = some k := by
                        rcases find_spec (n := ll.length) (p := readyB ll told) with ⟨_, h⟩ | ⟨a, h1, h2, h3, h4⟩
                        · have h5 := HRD.out; rw [h k hlt] at h5; cases h5
                        · rcases Nat.lt_trichotomy a k with h5 | h5 | h5
                          · rw [HN.out.1 a h5] at h3; cases h3
                          · rw [h1, h5]
                          · have h6 := HRD.out; rw [h4 k h5] at h6; cases h6
                      have hu5 : ∀ b, wq.heap.size ≤ b → u5.ownBlock ≠ some b := fun b hb e => by
                        obtain ⟨vs', ho', _⟩ := HN.out.2.2.out
                        have := (own_lt ho' e).2; omega
                      have hr : Ints (fun b => w2.heap.size + 1 ≤ b ∧ b < wr.heap.size ∧ u5.ownBlock ≠ some b) wr (.slice Ag (groupL ll k).length cg) (groupL ll k) := by
                        have h7 : Ints (fun b => wq.heap.size ≤ b ∧ b < w3.heap.size) w3 (.slice Ag (groupL ll k).length cg) (groupL ll k) := ints_both H3.out.2.1
                        exact goodInts.wide (fun b hb => ⟨by have := hb.1; omega, by have := hb.2; have := H4.out.1.size; omega, hu5 b hb.1⟩) (goodInts.keep (H4.out.1.mono fun b hb => by have h8 := hb.1; show b ≠ _; omega) h7)
                      have hout : OutRows (w2.heap.size + 1) w4 v4 (L ++ [groupL ll k]) := OutRows.app H4.out.2.2.2.1 H4.out.2.2.1 hr hown4 hg2 hat2
                      have hk4 : Kept (fun b => b < w2.heap.size + 1) wr w4 := ((Kept.refl _ wr).alloc _).grown hg2 fun g hg => .inl fun h => by have := (own_lt H4.out.2.2.1 hg).1; omega
                      have hne0 : 0 < (groupL ll k).length := by
                        have h9 : (k : Int) ∈ groupL ll k := (in_group hlt).2 (sameB_self k)
                        cases hgg : groupL ll k with
                        | nil => rw [hgg] at h9; cases h9
                        | cons a l => simp
                      refine ⟨m', toldWith ll told k, L ++ [groupL ll k], c + (groupL ll k).length, rfl, by go_num, HCL.out, by omega, by rw [List.length_append]; simp; omega, whole_with HI.out.1, ?_, H4.out.2.1.put hk4 hout⟩
                      rw [← HI.out.2.1, groupsM_some hfind, List.append_assoc]; rfl
        · exfalso
          obtain ⟨x, hx, ht⟩ := unv_pos ll.length (p := told) (by omega)
          obtain ⟨a, _, ha, hr, _⟩ := ready_find hx ht
          have h5 := HN.out.1 a (by omega)
          rw [h5] at hr
          cases hr
    · go_wp2_with fail
      go_ret
      have hu : unv ll.length told = 0 := by omega
      have hf : (List.range ll.length).find? (readyB ll told) = none := by
        rw [List.find?_eq_none]
        intro a ha h
        have := (readyB_iff.1 h).1
        rw [unv_zero _ hu a (List.mem_range.1 ha)] at this; cases this
      have he := HI.out.2.1
      rw [groupsM_none hf, List.append_nil] at he
      subst he
      refine ⟨_, rfl, ⟨HI.out.2.2.kept.os, HI.out.2.2.kept.output, HI.out.2.2.kept.size, fun b hb _ => HI.out.2.2.kept.block b hb hb⟩, goodRows.wide (fun b hb => ?_) (HI.out.2.2.out.rows (by omega))⟩
      have := HI.out.2.2.low
      omega
end Go.Proofs.Ytjfonoiclndgnaa
