/- Plain laws on the entries of a graph: walks, their lengths, and the order of groups. No program in sight. No condition. -/
import Derived.Test.YtjfonoiclndgnaaGP
namespace Go.Proofs.Ytjfonoiclndgnaa

section
variable {ll : List (List Int)}
/-- is a node in a circle? -/
def Circ (ll : List (List Int)) (k : Nat) : Prop := ∃ j, Adj ll k j ∧ Reach ll j k
/-- does a circle that s reaches reach it? -/
def Bad (ll : List (List Int)) (s i : Nat) : Prop := ∃ k, k < ll.length ∧ Reach ll s k ∧ Circ ll k ∧ Reach ll k i
/-- a way from s of so many nodes -/
inductive Way (ll : List (List Int)) (s : Nat) : Nat → Nat → Prop
  | one : Way ll s 1 s
  | step {m b c : Nat} : Way ll s m b → Adj ll b c → Way ll s (m + 1) c
theorem Way.reach {s m i : Nat} (h : Way ll s m i) : Reach ll s i := by
  induction h with
  | one => exact .refl
  | step _ e ih => exact .step ih e
theorem Way.pos {s m i : Nat} (h : Way ll s m i) : 1 ≤ m := by cases h <;> omega
theorem way_of {s i : Nat} (h : Reach ll s i) : ∃ m, Way ll s m i := by
  induction h with
  | refl => exact ⟨1, .one⟩
  | step _ e ih => obtain ⟨m, hm⟩ := ih; exact ⟨m + 1, .step hm e⟩
theorem Bad.on {s i j : Nat} (h : Bad ll s i) (k : Reach ll i j) : Bad ll s j := by
  obtain ⟨x, h1, h2, h3, h4⟩ := h
  exact ⟨x, h1, h2, h3, h4.trans k⟩
theorem Bad.reach {s i : Nat} (h : Bad ll s i) : Reach ll s i := by
  obtain ⟨x, h1, h2, h3, h4⟩ := h
  exact h2.trans h4
/-- a node in a circle that is reached -/
theorem bad_circ {s i j : Nat} (hi : i < ll.length) (h : Reach ll s i) (e : Adj ll i j) (k : Reach ll j i) : Bad ll s i := ⟨i, hi, h, ⟨j, e, k⟩, .refl⟩
theorem cntR_bd (a : Nat) : ∀ n, cntR ll n a ≤ n
  | 0 => Nat.le_refl _
  | n + 1 => by have := cntR_bd a n; unfold cntR; split <;> omega
theorem cntR_pos {x : Nat} : ∀ n, x < n → 0 < cntR ll n x := by
  intro n
  induction n with
  | zero => intro h; omega
  | succ n ih =>
    intro h
    unfold cntR
    by_cases e : x = n
    · subst e; rw [reachB_refl]; simp
    · have := ih (by omega); omega
/-- nodes are nodes -/
def Closed (ll : List (List Int)) : Prop := ∀ a b, a < ll.length → Adj ll a b → b < ll.length
theorem reach_closed_lt {s i : Nat} (hC : Closed ll) (hs : s < ll.length) (h : Reach ll s i) : i < ll.length := by
  induction h with
  | refl => exact hs
  | step _ e ih => exact hC _ _ ih e
/-- the ways to a node that is not bad are short -/
theorem way_cnt {s : Nat} (hC : Closed ll) (hs : s < ll.length) {m i : Nat} (h : Way ll s m i) (hb : ¬ Bad ll s i) : cntR ll ll.length i + m ≤ cntR ll ll.length s + 1 := by
  induction h with
  | one => omega
  | @step m b c h e ih =>
    have hb' : ¬ Bad ll s b := fun x => hb (x.on (.step .refl e))
    have hbn := reach_closed_lt hC hs h.reach
    have h1 : reachB ll b c = true := reachB_iff.2 (.step .refl e)
    have h2 : reachB ll c b = false := by
      cases hr : reachB ll c b with
      | false => rfl
      | true => exact absurd (bad_circ hbn h.reach e (reachB_iff.1 hr)) hb'
    have := cntR_lt h1 h2 ll.length hbn
    have := ih hb'
    omega
theorem way_le {s : Nat} (hC : Closed ll) (hs : s < ll.length) {m i : Nat} (h : Way ll s m i) (hb : ¬ Bad ll s i) : m ≤ ll.length := by
  have h1 := way_cnt hC hs h hb
  have h2 := cntR_bd (ll := ll) s ll.length
  have h3 := cntR_pos (ll := ll) ll.length (reach_closed_lt hC hs h.reach)
  omega

/-- what a node's entry is -/
def EntryIs (ll : List (List Int)) (s i : Nat) (v : Int) : Prop :=
  (Bad ll s i → v = -1) ∧ (¬ Reach ll s i → v = 0) ∧ (Reach ll s i → ¬ Bad ll s i → ∃ m : Nat, v = m ∧ Way ll s m i ∧ ∀ m', Way ll s m' i → m' ≤ m)
theorem entry_unique {s i : Nat} {v u : Int} (h : EntryIs ll s i v) (k : EntryIs ll s i u) : v = u := by
  by_cases hb : Bad ll s i
  · rw [h.1 hb, k.1 hb]
  · by_cases hr : Reach ll s i
    · obtain ⟨m, rfl, h1, h2⟩ := h.2.2 hr hb
      obtain ⟨m', rfl, k1, k2⟩ := k.2.2 hr hb
      have := h2 _ k1
      have := k2 _ h1
      omega
    · rw [h.2.1 hr, k.2.1 hr]
theorem max_ex {p : Nat → Prop} (n : Nat) (hb : ∀ m, p m → m ≤ n) (h : ∃ m, p m) : ∃ m, p m ∧ ∀ m', p m' → m' ≤ m := by
  induction n with
  | zero => obtain ⟨m, hm⟩ := h; exact ⟨m, hm, fun m' h' => by have := hb m' h'; omega⟩
  | succ n ih =>
    by_cases hp : p (n + 1)
    · exact ⟨n + 1, hp, hb⟩
    · exact ih fun m hm => by
        have := hb m hm
        have : m ≠ n + 1 := fun e => hp (e ▸ hm)
        omega
theorem entry_ex {s : Nat} (hC : Closed ll) (hs : s < ll.length) (i : Nat) : ∃ v, EntryIs ll s i v := by
  by_cases hb : Bad ll s i
  · exact ⟨-1, fun _ => rfl, fun h => absurd hb.reach h, fun _ h => absurd hb h⟩
  · by_cases hr : Reach ll s i
    · obtain ⟨m, h1, h2⟩ := max_ex ll.length (fun m (hm : Way ll s m i) => way_le hC hs hm hb) (way_of hr)
      exact ⟨m, fun h => absurd h hb, fun h => absurd hr h, fun _ _ => ⟨m, rfl, h1, h2⟩⟩
    · exact ⟨0, fun h => absurd h hb, fun _ => rfl, fun h => absurd h hr⟩
open Classical in
/-- a node's entry -/
noncomputable def entry (ll : List (List Int)) (s i : Nat) : Int := if h : ∃ v, EntryIs ll s i v then Classical.choose h else 0
theorem entry_is {s i : Nat} (h : ∃ v, EntryIs ll s i v) : EntryIs ll s i (entry ll s i) := by
  unfold entry
  rw [dif_pos h]
  exact Classical.choose_spec h
theorem entry_eq {s i : Nat} {v : Int} (h : EntryIs ll s i v) : entry ll s i = v := entry_unique (entry_is ⟨v, h⟩) h

/-! ### the order of groups -/
/-- told nodes lead to told ones alone -/
def Shut (ll : List (List Int)) (told : Nat → Bool) : Prop := ∀ x y, y < ll.length → told x = true → Reach ll x y → told y = true
theorem shut_with {told : Nat → Bool} {a : Nat} (h : Shut ll told) (hr : readyB ll told a = true) : Shut ll (toldWith ll told a) := by
  intro x y hy hx hxy
  unfold toldWith at hx ⊢
  simp only [Bool.or_eq_true, Bool.and_eq_true, decide_eq_true_eq] at hx ⊢
  rcases hx with hx | ⟨_, hx⟩
  · exact .inl (h x y hy hx hxy)
  · rcases (readyB_iff.1 hr).2 y hy (reachB_trans (sameB_iff.1 hx).1 (reachB_iff.2 hxy)) with h1 | h1
    · exact .inl h1
    · exact .inr ⟨hy, h1⟩
theorem mem_groupL {a : Nat} {x : Int} : x ∈ groupL ll a ↔ ∃ n : Nat, x = n ∧ n < ll.length ∧ sameB ll a n = true := by
  simp only [groupL, groupN, List.mem_map, List.mem_filter, List.mem_range]
  constructor
  · rintro ⟨n, ⟨h1, h2⟩, rfl⟩
    exact ⟨n, rfl, h1, h2⟩
  · rintro ⟨n, rfl, h1, h2⟩
    exact ⟨n, ⟨h1, h2⟩, rfl⟩
/-- each node is told, or is to be -/
theorem groups_cover (m : Nat) : ∀ told, unv ll.length told < m → ∀ x, x < ll.length → told x = true ∨ ∃ g ∈ groupsM ll m told, (x : Int) ∈ g := by
  induction m with
  | zero => intro told h; omega
  | succ m ih =>
    intro told hm x hx
    cases ht : told x with
    | true => exact .inl rfl
    | false =>
      right
      obtain ⟨a, hf, ha, hr, _⟩ := ready_find hx ht
      rw [groupsM_some hf]
      have hn := (readyB_iff.1 hr).1
      have hu := toldWith_unv ha hn
      rcases ih (toldWith ll told a) (by omega) x hx with h | ⟨g, hg, hxg⟩
      · unfold toldWith at h
        simp only [ht, Bool.false_or, Bool.and_eq_true, decide_eq_true_eq] at h
        exact ⟨_, List.mem_cons_self, mem_groupL.2 ⟨x, rfl, hx, h.2⟩⟩
      · exact ⟨g, List.mem_cons_of_mem _ hg, hxg⟩
/-- those that lead to a group's nodes are in it, or in one behind -/
theorem groups_order (m : Nat) : ∀ told, unv ll.length told < m → Shut ll told → Whole ll told → ∀ L1 g L2, groupsM ll m told = L1 ++ g :: L2 → ∀ i p : Nat, (i : Int) ∈ g → p < ll.length → Reach ll p i → ∃ g' ∈ g :: L2, (p : Int) ∈ g' := by
  induction m with
  | zero => intro told h; omega
  | succ m ih =>
    intro told hm hsh hw L1 g L2 he i p hi hp hpi
    rcases find_spec (n := ll.length) (p := readyB ll told) with ⟨hf, _⟩ | ⟨a, hf, ha, hr, _⟩
    · rw [groupsM_none hf] at he
      cases L1 <;> cases he
    · have hcov := groups_cover (m + 1) told hm p hp
      rw [groupsM_some hf] at he hcov
      have hn := (readyB_iff.1 hr).1
      have hu := toldWith_unv ha hn
      cases L1 with
      | nil =>
        rw [he] at hcov
        injection he with h1 h2
        subst h1
        rcases hcov with h | h
        · obtain ⟨n, hin, hnl, hs⟩ := mem_groupL.1 hi
          obtain rfl : i = n := by omega
          have ht := hsh p i hnl h hpi
          have := hw i a ha ht (sameB_symm hs)
          rw [hn] at this; cases this
        · exact h
      | cons g0 L1 =>
        injection he with h1 h2
        exact ih _ (by omega) (shut_with hsh hr) (whole_with hw) L1 g L2 h2 i p hi hp hpi
/-- what groups hold are nodes -/
theorem groups_nodes (m : Nat) : ∀ told, ∀ g ∈ groupsM ll m told, ∀ x ∈ g, ∃ n : Nat, x = n ∧ n < ll.length := by
  induction m with
  | zero => intro told g hg; cases hg
  | succ m ih =>
    intro told g hg x hx
    rcases find_spec (n := ll.length) (p := readyB ll told) with ⟨hf, _⟩ | ⟨a, hf, _⟩
    · rw [groupsM_none hf] at hg; cases hg
    · rw [groupsM_some hf] at hg
      rcases List.mem_cons.1 hg with rfl | hg
      · obtain ⟨n, h1, h2, _⟩ := mem_groupL.1 hx
        exact ⟨n, h1, h2⟩
      · exact ih _ g hg x hx
/-- two nodes of one group reach one another -/
theorem groups_same (m : Nat) : ∀ told, ∀ g ∈ groupsM ll m told, ∀ x y : Nat, (x : Int) ∈ g → (y : Int) ∈ g → Reach ll x y := by
  induction m with
  | zero => intro told g hg; cases hg
  | succ m ih =>
    intro told g hg x y hx hy
    rcases find_spec (n := ll.length) (p := readyB ll told) with ⟨hf, _⟩ | ⟨a, hf, _⟩
    · rw [groupsM_none hf] at hg; cases hg
    · rw [groupsM_some hf] at hg
      rcases List.mem_cons.1 hg with rfl | hg
      · obtain ⟨n, h1, h2, h3⟩ := mem_groupL.1 hx
        obtain ⟨n', k1, k2, k3⟩ := mem_groupL.1 hy
        obtain rfl : x = n := by omega
        obtain rfl : y = n' := by omega
        exact reachB_iff.1 (reachB_trans (sameB_iff.1 h3).2 (sameB_iff.1 k3).1)
      · exact ih _ g hg x y hx hy

/-! ### the entries by groups, those that lead to others first -/
/-- what holds of the numbers when some nodes are done -/
def EInv (ll : List (List Int)) (s : Nat) (done : Nat → Prop) (out : Nat → Int) : Prop :=
  ∀ j, j < ll.length → (Bad ll s j → out j = -1) ∧ (¬ Bad ll s j → 0 ≤ out j ∧ (out j = 0 ∨ Way ll s (out j).toNat j) ∧ (j = s → 1 ≤ out j) ∧
    ∀ p, done p → Adj ll p j → ∀ m, Way ll s m p → (m : Int) + 1 ≤ out j)
/-- a node whose predecessors are done has its number -/
theorem einv_full {s : Nat} {done : Nat → Prop} {out : Nat → Int} (h : EInv ll s done out) {i : Nat} (hi : i < ll.length) (hb : ¬ Bad ll s i) (hd : ∀ p, Reach ll s p → Adj ll p i → done p) : ∀ m, Way ll s m i → (m : Int) ≤ out i := by
  intro m hm
  obtain ⟨h1, h2, h3, h4⟩ := (h i hi).2 hb
  cases hm with
  | one => exact h3 rfl
  | @step m b _ hw e => exact h4 b (hd b hw.reach e) e m hw
theorem einv_end {s : Nat} {out : Nat → Int} (h : EInv ll s (fun _ => True) out) {i : Nat} (hi : i < ll.length) : EntryIs ll s i (out i) := by
  refine ⟨(h i hi).1, fun hr => ?_, fun hr hb => ?_⟩
  · have hb : ¬ Bad ll s i := fun x => hr x.reach
    rcases ((h i hi).2 hb).2.1 with h1 | h1
    · exact h1
    · exact absurd h1.reach hr
  · have hf := einv_full h hi hb (fun _ _ _ => trivial)
    obtain ⟨h0, h1, _⟩ := (h i hi).2 hb
    obtain ⟨m, hm⟩ := way_of hr
    have := hf m hm
    have := hm.pos
    rcases h1 with h1 | h1
    · omega
    · exact ⟨(out i).toNat, by omega, h1, fun m' hm' => by have := hf m' hm'; omega⟩
end
end Go.Proofs.Ytjfonoiclndgnaa
