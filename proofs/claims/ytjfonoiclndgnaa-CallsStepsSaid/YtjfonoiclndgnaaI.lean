/- Contracts of the small functions that the groups stand on. No condition but that nodes are nodes. -/
import Derived.Test.YtjfonoiclndgnaaH
import Derived.Test.YtjfonoiclndgnaaGP
namespace Go.Proofs.Ytjfonoiclndgnaa
open Go.RowKit

theorem reachM_at {ll : List (List Int)} {a : Nat} (ha : a < ll.length) : (reachM ll)[a]? = some (reachL ll a) := by
  simp [reachM, ha]
theorem reachL_at {ll : List (List Int)} {a b : Nat} (hb : b < ll.length) : (reachL ll a)[b]? = some (reachB ll a b) := by
  simp [reachL, hb]
theorem reachM_len (ll : List (List Int)) : (reachM ll).length = ll.length := by simp [reachM]
theorem reachL_len (ll : List (List Int)) (a : Nat) : (reachL ll a).length = ll.length := by simp [reachL]
/-- a cell of a table of bools -/
theorem brow_at {S : Nat → Prop} {w : World} {A : Option Addr} {n c : Nat} {ll : List (List Int)} (h : BRows S w (.slice A n c) (reachM ll)) {a b : Nat} (ha : a < ll.length) (hb : b < ll.length) :
    ∃ b1 o1 b2 o2 c2, A = some ⟨b1, o1, none⟩ ∧ S b1 ∧ w.cell? ⟨b1, o1 + a, none⟩ = some (.slice (some ⟨b2, o2, none⟩) ll.length c2) ∧ ll.length ≤ c2 ∧ S b2 ∧ w.cell? ⟨b2, o2 + b, none⟩ = some (.bool (reachB ll a b)) := by
  obtain ⟨A', cap, hv, _, _, _, h⟩ := h
  injection hv with e1 e2 e3
  subst e1
  obtain ⟨b1, o1, c1, hA, hs1, hc1, A2, cap2, rfl, hl2, _, _, h2⟩ := h a _ (reachM_at ha)
  obtain ⟨b2, o2, c2, hA2, hs2, hc2, hE⟩ := h2 b _ (reachL_at hb)
  subst hA2
  rw [reachL_len] at hc1 hl2
  exact ⟨b1, o1, b2, o2, cap2, hA, hs1, hc1, hl2, hs2, by rw [hc2]; exact congrArg some hE⟩

theorem same_pair (S : Nat → Prop) (ll : List (List Int)) (vb : Value) (x3 a b : Nat) (w : World) (hbox : Blk w x3 34 #[vb]) (hv : BRows S w vb (reachM ll)) (ha : a < ll.length) (hb : b < ll.length) (_ : ll.length ≤ 256) :
    Calls Try.prog 20 #[.int .i64 a, .int .i64 b, .pointer (some ⟨x3, 0, none⟩)] w fun e w' => e = .returned (.bool (sameB ll a b)) ∧ w = w' := by
  have hc := hbox.cell 0
  have hv' := hv
  obtain ⟨A, cap, rfl, _⟩ := hv
  rw [reachM_len] at hv' hc
  obtain ⟨b1, o1, b2, o2, c2, rfl, _, h1, h1', _, h2⟩ := brow_at hv' ha hb
  obtain ⟨b1', o1', b3, o3, c3, he, _, h3, h3', _, h4⟩ := brow_at hv' hb ha
  cases he
  simp only [List.getElem?_toArray, List.getElem?_cons_zero] at hc
  have hs : sameB ll a b = (reachB ll a b && reachB ll b a) := rfl
  have HS := Lib.hid hs
  clear hv' hs hbox
  generalize reachB ll a b = p at *
  generalize reachB ll b a = q at *
  cases p
  · go_enter Try.func20, Try.ntmps20
    go_wp2
    go_ret
    exact ⟨by rw [HS.out]; rfl, rfl⟩
  · go_enter Try.func20, Try.ntmps20
    go_wp2
    go_ret
    exact ⟨by rw [HS.out]; rfl, rfl⟩

theorem clip_any (A : Option Addr) (n cap : Nat) (w : World) (h1 : n ≤ cap) (h2 : cap ≤ 9223372036854775807) : Calls Try.prog 22 #[.slice A n cap] w fun e w' => e = .returned (.slice A n n) ∧ w = w' := by
  have hl : n ≤ 9223372036854775807 := by omega
  go_enter Try.func22, Try.ntmps22
  go_wp2
  go_ret
  exact ⟨rfl, rfl⟩

/-- a group's nodes among the first k -/
noncomputable def grp (ll : List (List Int)) (a k : Nat) : List Int := ((List.range k).filter (sameB ll a)).map fun (n : Nat) => (n : Int)
theorem grp_0 (ll : List (List Int)) (a : Nat) : grp ll a 0 = [] := rfl
theorem grp_end (ll : List (List Int)) (a : Nat) : grp ll a ll.length = groupL ll a := rfl
theorem grp_yes {ll : List (List Int)} {a k : Nat} (h : sameB ll a k = true) : grp ll a (k + 1) = grp ll a k ++ [(k : Int)] := by
  simp [grp, List.range_succ, List.filter_append, h]
theorem grp_no {ll : List (List Int)} {a k : Nat} (h : sameB ll a k = false) : grp ll a (k + 1) = grp ll a k := by
  simp [grp, List.range_succ, List.filter_append, h]
theorem grp_len (ll : List (List Int)) (a k : Nat) : (grp ll a k).length ≤ k := by
  unfold grp
  rw [List.length_map]
  exact Nat.le_trans (List.length_filter_le _ _) (by simp)
theorem grp_wf {ll : List (List Int)} {a k : Nat} (hk : k ≤ 256) : ∀ x ∈ grp ll a k, (Lit.int .i64 x).wf = true := by
  intro x hx
  simp only [grp, List.mem_map, List.mem_filter, List.mem_range] at hx
  obtain ⟨n, ⟨hn, _⟩, rfl⟩ := hx
  exact WalkArith.wf_i64 (by omega)

theorem group_any (S : Nat → Prop) (ll : List (List Int)) (vb : Value) (a : Nat) (w : World) (hv : BRows S w vb (reachM ll)) (ha : a < ll.length) (hl : ll.length ≤ 256) :
    Calls Try.prog 25 #[vb, .int .i64 a] w fun e w' => ∃ u, e = .returned u ∧ Kept All w w' ∧ Ints (fun b => w.heap.size ≤ b) w' u (groupL ll a) := by
  have hv' := hv
  obtain ⟨A, cap, rfl, _⟩ := hv
  rw [reachM_len] at hv' ⊢
  obtain ⟨i3, hi3, hz3, hs3, hb3⟩ := info_parts info3
  have I3 := Lib.hid (And.intro hi3 (And.intro hz3 (And.intro hs3 hb3)))
  have HV := Lib.hid hv'
  clear hv' hi3 hz3 hs3 hb3
  go_enter Try.func25, Try.ntmps25
  go_wp2
  go_loopg [5, 6] ll.length (fun g o i wr => ∃ k : Nat, k ≤ ll.length ∧ g = ll.length - k ∧ i = .int .i64 k ∧ Kept All w wr ∧ wr.ownsRow w.heap.size 3 1 o (grp ll a k).length (intCells (grp ll a k)))
  case atStart => exact ⟨0, by omega, by omega, rfl, Kept.refl _ _, by simp [intCells, grp], .inl ⟨rfl, by simp [grp]⟩⟩
  case round =>
    obtain ⟨k, hk, rfl, rfl, hkept, hown⟩ := hrel
    have hgl := grp_len ll a k
    by_cases hlt : k < ll.length
    · have hvr := goodBRows.keep hkept (goodBRows.wide (fun _ _ => trivial) HV.out)
      obtain ⟨b1, o1, b2, o2, c2, rfl, _, h1, h1', _, h2⟩ := brow_at hvr ha hlt
      obtain ⟨b1', o1', b3, o3, c3, he, _, h3, h3', _, h4⟩ := brow_at hvr hlt ha
      cases he
      have hs : sameB ll a k = (reachB ll a k && reachB ll k a) := rfl
      have HS := Lib.hid hs
      clear hvr hs
      generalize reachB ll a k = p at *
      generalize reachB ll k a = q at *
      cases hp : p with
      | false =>
        subst hp
        go_wp2
        go_roundg (ll.length - (k + 1))
        case measure => omega
        case rel => exact ⟨k + 1, by omega, rfl, by go_num, hkept, by rw [grp_no (by rw [HS.out]; rfl)]; exact hown⟩
      | true =>
        subst hp
        cases hq : q with
        | false =>
          subst hq
          go_wp2
          go_roundg (ll.length - (k + 1))
          case measure => omega
          case rel => exact ⟨k + 1, by omega, rfl, by go_num, hkept, by rw [grp_no (by rw [HS.out]; rfl)]; exact hown⟩
        | true =>
          subst hq
          have hown1 : (wr.alloc (.cells #[.int .i64 k] 3)).ownsRow w.heap.size 3 1 u5 (grp ll a k).length (intCells (grp ll a k)) := own_kept hown ((Kept.refl All wr).alloc _) (fun _ _ => trivial)
          have hB := hkept.size
          go_wp2_with (at_builtin
                       refine wpList_app _ rfl (.tmp 29) (.tmp 31) 28 rfl w.heap.size 3 i3 _ 1 8 Try.underlying28 I3.out.1 I3.out.2.1 I3.out.2.2.1 I3.out.2.2.2 rfl (by decide) _ _ _ rfl hown1 (some ⟨wr.heap.size, 0, none⟩) 1 1 [.int .i64 k] rfl rfl ?_ ?_ (by unfold maxLen; omega) (by omega) (by simp; omega) ?_
                       · intro _
                         exact ⟨_, _, rfl, fun j u hu => by
                           rw [Nat.zero_add, Blk.cell (Blk.new _ _ _)]; simpa using hu⟩
                       · intro u hu
                         rw [List.mem_singleton.1 hu]; rfl
                       intro v2 w2 hown4 hg2 hat2)
          go_roundg (ll.length - (k + 1))
          case measure => omega
          case rel =>
            have e : grp ll a (k + 1) = grp ll a k ++ [(k : Int)] := grp_yes (by rw [HS.out]; rfl)
            refine ⟨k + 1, by omega, rfl, by go_num, (hkept.alloc _).grown hg2 fun g hg => .inr (own_lt hown hg).1, ?_⟩
            rw [e]
            simpa [intCells] using hown4
    · have hkl : k = ll.length := by omega
      subst hkl
      go_wp2
      go_ret
      exact ⟨_, rfl, hkept, ints_own hown rfl (by rw [← grp_end]; omega) (fun g hg => (own_lt hown hg).1) (grp_wf hl)⟩

/-- what the closures of calls.Groups have captured -/
structure GEnv (ll : List (List Int)) (A : Option Addr) (c : Nat) (vb : Value) (xt xb g xs : Nat) (told : Nat → Bool) (w : World) : Prop where
  to : Blk w xt 22 #[.slice A ll.length c]
  been : Blk w xb 34 #[vb]
  told : Blk w g 37 (boolArr 256 told)
  same : Blk w xs 36 #[.func (.func 20) #[] #[.pointer (some ⟨xb, 0, none⟩)]]
  rows : BRows (fun b => b ≠ g) w vb (reachM ll)
theorem ready_any (ll : List (List Int)) (A : Option Addr) (c : Nat) (vb : Value) (xt xb g xs a : Nat) (told : Nat → Bool) (w : World) (env : GEnv ll A c vb xt xb g xs told w) (ha : a < ll.length) (hl : ll.length ≤ 256) :
    Calls Try.prog 21 #[.int .i64 a, .pointer (some ⟨xt, 0, none⟩), .pointer (some ⟨xb, 0, none⟩), .pointer (some ⟨g, 0, none⟩), .pointer (some ⟨xs, 0, none⟩)] w fun e w' => e = .returned (.bool (readyB ll told a)) ∧ w = w' := by
  have hto := env.to.cell 0
  have hbe := env.been.cell 0
  have hsa := env.same.cell 0
  have hrows := env.rows
  have hrows' := hrows
  obtain ⟨Ab, cb, rfl, _⟩ := hrows
  rw [reachM_len] at hrows' hbe
  simp only [List.getElem?_toArray, List.getElem?_cons_zero] at hto hbe hsa
  have hcall := fun b (hb : b < ll.length) => same_pair _ ll _ xb a b w env.been env.rows ha hb hl
  have htold := fun k (hk : k < 256) => (env.told.cell k).trans (boolArr_at hk)
  have HE := Lib.hid (And.intro env (And.intro hrows' (And.intro hcall htold)))
  clear env hrows' hcall htold
  go_enter Try.func21, Try.ntmps21
  go_wp2
  go_loopg [10] ll.length (fun gg i wr => ∃ k : Nat, k ≤ ll.length ∧ gg = ll.length - k ∧ i = .int .i64 k ∧ w = wr ∧ ∀ b, b < k → reachB ll a b = true → told b = true ∨ sameB ll a b = true)
  case atStart => exact ⟨0, by omega, by omega, rfl, rfl, fun b hb => by omega⟩
  case round =>
    obtain ⟨k, hk, rfl, rfl, rfl, hdone⟩ := hrel
    have HD := Lib.hid hdone
    clear hdone
    by_cases hlt : k < ll.length
    · obtain ⟨b1, o1, b2, o2, c2, rfl, _, h1, h1', _, h2⟩ := brow_at HE.out.2.1 ha hlt
      have h3 := HE.out.2.2.2 k (by omega)
      cases hp : reachB ll a k with
      | false =>
        rw [hp] at h2
        have Hp := Lib.hid hp
        clear hp
        go_wp2
        go_roundg (ll.length - (k + 1))
        case measure => omega
        case rel =>
          refine ⟨k + 1, by omega, rfl, by go_num, rfl, fun b hb hr => ?_⟩
          by_cases e : b = k
          · subst e; rw [Hp.out] at hr; cases hr
          · exact HD.out b (by omega) hr
      | true =>
        rw [hp] at h2
        have Hp := Lib.hid hp
        clear hp
        cases ht : told k with
        | true =>
          rw [ht] at h3
          have Ht := Lib.hid ht
          clear ht
          go_wp2
          go_roundg (ll.length - (k + 1))
          case measure => omega
          case rel =>
            refine ⟨k + 1, by omega, rfl, by go_num, rfl, fun b hb hr => ?_⟩
            by_cases e : b = k
            · subst e; exact .inl Ht.out
            · exact HD.out b (by omega) hr
        | false =>
          rw [ht] at h3
          have Ht := Lib.hid ht
          clear ht
          have hcl := HE.out.2.2.1 k hlt
          cases hs : sameB ll a k with
          | true =>
            rw [hs] at hcl
            have HC := Lib.hid (And.intro hcl hs)
            clear hcl hs
            go_wp2_with (go_at_call 20; refine HC.out.1.mono ?_; rintro e w' ⟨rfl, rfl⟩)
            go_roundg (ll.length - (k + 1))
            case measure => omega
            case rel =>
              refine ⟨k + 1, by omega, rfl, by go_num, rfl, fun b hb hr => ?_⟩
              by_cases e : b = k
              · subst e; exact .inr HC.out.2
              · exact HD.out b (by omega) hr
          | false =>
            rw [hs] at hcl
            have HC := Lib.hid (And.intro hcl hs)
            clear hcl hs
            go_wp2_with (go_at_call 20; refine HC.out.1.mono ?_; rintro e w' ⟨rfl, rfl⟩)
            go_ret
            have hn : readyB ll told a = false := by
              cases h : readyB ll told a with
              | false => rfl
              | true =>
                rcases (readyB_iff.1 h).2 k hlt Hp.out with h | h
                · rw [Ht.out] at h; cases h
                · rw [HC.out.2] at h; cases h
            exact ⟨by rw [hn]; rfl, rfl⟩
    · have h3 := HE.out.2.2.2 a (by omega)
      cases ht : told a with
      | true =>
        rw [ht] at h3
        have hn : readyB ll told a = false := by simp [readyB, ht]
        have Hn := Lib.hid hn
        clear ht hn
        go_wp2
        go_ret
        exact ⟨by rw [Hn.out]; rfl, rfl⟩
      | false =>
        rw [ht] at h3
        have hn : readyB ll told a = true := readyB_iff.2 ⟨ht, fun b hb hr => HD.out b (by omega) hr⟩
        have Hn := Lib.hid hn
        clear ht hn
        go_wp2
        go_ret
        exact ⟨by rw [Hn.out]; rfl, rfl⟩
end Go.Proofs.Ytjfonoiclndgnaa
