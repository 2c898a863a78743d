/- A law on regions that draw their order: one walk in the order of the text serves every order, where the operations keep a class of worlds; what a call hands back may hang on the world, and what is said of it stays so. Of no program. No condition. -/
import Derived.Still
import Derived.Deep.Draws
import Derived.Deep.Quiet
namespace Go.Proofs.Ytjfonoiclndgnaa
open Go

section
variable {P : Program} {ops : Array Oper} {md : Region.Mode} {S : World → Prop} {T : List Tmp} {F : Tmp → Value → World → Prop} {L : Nat → Option (Value → Prop)}

/-- what is said of the marked slots that an operation looks at -/
def RPre (ops : Array Oper) (T : List Tmp) (F : Tmp → Value → World → Prop) (o : Oper) (a : Act) (w : World) : Prop :=
  ∀ t ∈ o.looksAt ops, t ∈ T → ∀ v, a.tmps[t]? = some v → F t v w
/-- the value u, laid in a world w' that w has become -/
def RGood (S : World → Prop) (T : List Tmp) (F : Tmp → Value → World → Prop) (o : Oper) (w w' : World) (u : Value) : Prop :=
  S w' ∧ (∀ t ∈ T, ∀ v, F t v w → F t v w') ∧ ∀ d, o.dst = some d → d ∈ T → F d u w'
def RUpon (P : Program) (S : World → Prop) (T : List Tmp) (F : Tmp → Value → World → Prop) (V : Value → Prop) (o : Oper) (w : World) : Result Next → Prop
  | .ok (.value u) w' => V u ∧ RGood S T F o w w' u
  | .ok (.enter f args) w' => Calls P f args w' (fun e w'' => ∃ u, e = .returned u ∧ V u ∧ RGood S T F o w w'' u)
  | _ => False
/-- an operation that yields one value, and leaves the world -/
def RVal (P : Program) (ops : Array Oper) (S : World → Prop) (T : List Tmp) (F : Tmp → Value → World → Prop) (o : Oper) (a : Act) (v : Value) : Prop :=
  ∀ w, S w → RPre ops T F o a w → (execOp a.eval o).run P w = .ok (.value v) w ∧ ∀ d, o.dst = some d → d ∈ T → F d v w
def RYields (P : Program) (ops : Array Oper) (S : World → Prop) (T : List Tmp) (F : Tmp → Value → World → Prop) (o : Oper) (lab : Option (Value → Prop)) (a : Act) (V : Value → Prop) : Prop :=
  (Region.wanted o (yielded ops a.tmps) = true ∧ lab = none ∧ ∃ v, V = (· = v) ∧ RVal P ops S T F o a v) ∨
  (Region.wanted o (yielded ops a.tmps) = true ∧ lab = some V ∧ ∀ w, S w → RPre ops T F o a w → RUpon P S T F V o w ((execOp a.eval o).run P w)) ∨
  (Region.wanted o (yielded ops a.tmps) = false ∧ V = (· = undef) ∧ ∀ d, o.dst = some d → d ∉ T)

theorem RYields.unique {o : Oper} {lab : Option (Value → Prop)} {a : Act} {V V' : Value → Prop} (h : RYields P ops S T F o lab a V) (h' : RYields P ops S T F o lab a V') {w : World} (hw : S w) (hp : RPre ops T F o a w) : V = V' := by
  rcases h with ⟨h1, h2, v, rfl, h3⟩ | ⟨h1, h2, _⟩ | ⟨h1, rfl, _⟩
  · rcases h' with ⟨k1, k2, v', rfl, k3⟩ | ⟨k1, k2, _⟩ | ⟨k1, _⟩
    · have e1 := (h3 w hw hp).1
      rw [(k3 w hw hp).1] at e1
      injection e1 with e1
      injection e1 with e1
      subst e1; rfl
    · rw [h2] at k2; cases k2
    · rw [h1] at k1; cases k1
  · rcases h' with ⟨k1, k2, _⟩ | ⟨k1, k2, _⟩ | ⟨k1, _⟩
    · rw [h2] at k2; cases k2
    · rw [h2] at k2; injection k2
    · rw [h1] at k1; cases k1
  · rcases h' with ⟨k1, _⟩ | ⟨k1, _⟩ | ⟨_, rfl, _⟩
    · rw [h1] at k1; cases k1
    · rw [h1] at k1; cases k1
    · rfl
theorem RYields.some_ {o : Oper} {lab : Option (Value → Prop)} {a : Act} {V : Value → Prop} (h : RYields P ops S T F o lab a V) {w : World} (hw : S w) (hp : RPre ops T F o a w) : ∃ u w', V u ∧ RGood S T F o w w' u := by
  rcases h with ⟨_, _, v, rfl, h3⟩ | ⟨_, _, h3⟩ | ⟨_, rfl, h3⟩
  · exact ⟨v, w, rfl, hw, fun _ _ _ h => h, (h3 w hw hp).2⟩
  · have h := h3 w hw hp
    generalize (execOp a.eval o).run P w = r at h
    cases r with
    | ok n w' =>
      cases n <;> simp only [RUpon] at h
      case value u => exact ⟨u, w', h⟩
      case enter f args =>
        obtain ⟨e, w'', _, ⟨u, _, hv, hg⟩, _⟩ := h []
        exact ⟨u, w'', hv, hg⟩
    | halt x w' => simp only [RUpon] at h
  · exact ⟨undef, w, rfl, hw, fun _ _ _ h => h, fun d hd ht => absurd ht (h3 d hd)⟩
theorem RPre.put {o : Oper} {a : Act} {w : World} {dst : Option Tmp} {u : Value} (h : ∀ d, dst = some d → d ∉ o.looksAt ops) : RPre ops T F o (a.put dst u) w ↔ RPre ops T F o a w := by
  unfold RPre
  constructor
  · intro hp t ht hT v hv
    refine hp t ht hT v ?_
    cases dst with
    | none => exact hv
    | some d =>
      have hne : d ≠ t := fun e => h d rfl (e ▸ ht)
      simpa [Act.put, Array.getElem?_setIfInBounds_ne hne] using hv
  · intro hp t ht hT v hv
    refine hp t ht hT v ?_
    cases dst with
    | none => exact hv
    | some d =>
      have hne : d ≠ t := fun e => h d rfl (e ▸ ht)
      simpa [Act.put, Array.getElem?_setIfInBounds_ne hne] using hv
theorem RYields.put {o : Oper} {lab : Option (Value → Prop)} {a : Act} {V : Value → Prop} {dst : Option Tmp} {u : Value} (hs : ∀ cs b, o.op ≠ .select cs b) (h : ∀ d, dst = some d → d ∉ o.looksAt ops) :
    RYields P ops S T F o lab (a.put dst u) V ↔ RYields P ops S T F o lab a V := by
  unfold RYields RVal
  rw [execOp_put o hs a dst u h, wanted_put o a dst u h]
  simp only [RPre.put h]

/-- what is said of the marked slots that are written -/
def RFacts (ops : Array Oper) (T : List Tmp) (F : Tmp → Value → World → Prop) (listed : Array Bool) (a : Act) (w : World) : Prop :=
  ∀ k o d, listed.getD k false = true → ops[k]? = some o → o.dst = some d → d ∈ T → ∀ v, a.tmps[d]? = some v → F d v w
/-- a marked slot is written once, and read only behind that -/
def RMarks (md : Region.Mode) (ops : Array Oper) (T : List Tmp) : Prop :=
  (∀ (i j : Nat) (x y : Oper) (t : Tmp), ops[i]? = some x → ops[j]? = some y → x.dst = some t → y.dst = some t → t ∈ T → i = j) ∧
  (∀ (j : Nat) (y : Oper) (t : Tmp), ops[j]? = some y → t ∈ y.looksAt ops → t ∈ T → ∃ (k : Nat) (x : Oper), ops[k]? = some x ∧ x.dst = some t ∧ ∃ e ∈ y.after, Region.binds md e = true ∧ e.on = k) ∧
  (∀ t ∈ T, ∃ (k : Nat) (x : Oper), ops[k]? = some x ∧ x.dst = some t)
def marksB (md : Region.Mode) (ops : Array Oper) (T : List Tmp) : Bool :=
  (List.range ops.size).all (fun i => (List.range ops.size).all fun j => match ops[i]?, ops[j]? with
    | some x, some y => (match x.dst, y.dst with | some t, some u => !(t == u) || !T.contains t || i == j | _, _ => true)
    | _, _ => true) &&
  (List.range ops.size).all (fun j => match ops[j]? with
    | some y => (y.looksAt ops).all fun t => !T.contains t || (List.range ops.size).any fun k => match ops[k]? with
      | some x => x.dst == some t && y.after.any fun e => Region.binds md e && e.on == k
      | none => false
    | none => true) &&
  T.all fun t => (List.range ops.size).any fun k => match ops[k]? with | some x => x.dst == some t | none => false
theorem marks_of (h : marksB md ops T = true) : RMarks md ops T := by
  unfold marksB at h
  simp only [Bool.and_eq_true, List.all_eq_true, List.mem_range] at h
  obtain ⟨⟨h1, h2⟩, h3⟩ := h
  refine ⟨fun i j x y t hi hj hx hy ht => ?_, fun j y t hj hl ht => ?_, fun t ht => ?_⟩
  · have := h1 i (Array.getElem?_eq_some_iff.1 hi).1 j (Array.getElem?_eq_some_iff.1 hj).1
    simp only [hi, hj, hx, hy] at this
    simpa [ht] using this
  · have := h2 j (Array.getElem?_eq_some_iff.1 hj).1
    simp only [hj, List.all_eq_true] at this
    have := this t hl
    simp only [Bool.or_eq_true, Bool.not_eq_true', List.contains_eq_mem, decide_eq_false_iff_not, ht, not_true_eq_false, false_or, List.any_eq_true, List.mem_range] at this
    obtain ⟨k, hk, h⟩ := this
    cases hx : ops[k]? with
    | none => simp [hx] at h
    | some x =>
      simp only [hx, Bool.and_eq_true, beq_iff_eq] at h
      obtain ⟨hd, he⟩ := h
      obtain ⟨e, he, hb⟩ := Array.any_eq_true'.1 he
      simp only [Bool.and_eq_true, beq_iff_eq] at hb
      exact ⟨k, x, hx, hd, e, he, hb.1, hb.2⟩
  · have := h3 t ht
    simp only [List.any_eq_true, List.mem_range] at this
    obtain ⟨k, _, h⟩ := this
    cases hx : ops[k]? with
    | none => simp [hx] at h
    | some x =>
      simp only [hx, beq_iff_eq] at h
      exact ⟨k, x, hx, h⟩

theorem RFacts.pre {listed : Array Bool} {a : Act} {w : World} (hm : RMarks md ops T) (h : RFacts ops T F listed a w) {j : Nat} {y : Oper} (hj : j ∈ Region.ready md ops listed) (hy : ops[j]? = some y) : RPre ops T F y a w := by
  intro t ht hT v hv
  obtain ⟨k, x, hx, hd, e, he, hb, hk⟩ := hm.2.1 j y t hy ht hT
  obtain ⟨_, o, ho, hall⟩ := mem_ready.1 hj
  rw [hy] at ho
  cases ho
  have := hall e he hb
  rw [hk] at this
  exact h k x t this hx hd hT v hv
theorem listed_set {listed : Array Bool} {i k : Nat} (h : (listed.setIfInBounds i true).getD k false = true) : k = i ∨ listed.getD k false = true := by
  by_cases e : i = k
  · exact .inl e.symm
  · rw [getD_set_ne false e] at h; exact .inr h
/-- behind an operation -/
theorem RFacts.next {listed : Array Bool} {a : Act} {w w' : World} {i : Nat} {o : Oper} {u : Value} (h : RFacts ops T F listed a w) (hi : ops[i]? = some o) (g : RGood S T F o w w' u) : RFacts ops T F (listed.setIfInBounds i true) (a.put o.dst u) w' := by
  intro k x d hk hx hd hT v hv
  by_cases e : o.dst = some d
  · have hv' : v = u := by
      rw [e] at hv
      simp only [Act.put, Array.getElem?_setIfInBounds] at hv
      split at hv
      · split at hv
        · exact (Option.some.inj hv).symm
        · cases hv
      · rename_i h; exact absurd trivial h
    subst hv'
    exact g.2.2 d e hT
  · have hv' : a.tmps[d]? = some v := by
      cases hod : o.dst with
      | none => rw [hod] at hv; exact hv
      | some d' =>
        rw [hod] at hv e
        have hne : d' ≠ d := fun x => e (by rw [x])
        simpa [Act.put, Array.getElem?_setIfInBounds_ne hne] using hv
    rcases listed_set hk with rfl | hk
    · rw [hi] at hx; cases hx; exact absurd hd e
    · exact g.2.1 d hT v (h k x d hk hx hd hT v hv')
/-- one operation less -/
theorem RFacts.less {listed : Array Bool} {a : Act} {w : World} {j : Nat} {y : Oper} {u : Value} (hm : RMarks md ops T) (hj : ops[j]? = some y) (hun : listed.getD j true = false) (h : RFacts ops T F (listed.setIfInBounds j true) (a.put y.dst u) w) : RFacts ops T F listed a w := by
  intro k x d hk hx hd hT v hv
  have hkj : k ≠ j := by
    rintro rfl
    rcases Nat.lt_or_ge k listed.size with h' | h'
    · simp [h'] at hk hun; rw [hk] at hun; cases hun
    · simp [Array.getElem?_eq_none h'] at hk
  have hne : y.dst ≠ some d := fun e => hkj (hm.1 k j x y d hx hj hd e hT)
  refine h k x d (getD_set_true hk) hx hd hT v ?_
  cases hod : y.dst with
  | none => exact hv
  | some d' =>
    rw [hod] at hne
    have : d' ≠ d := fun x => hne (by rw [x])
    simpa [Act.put, Array.getElem?_setIfInBounds_ne this] using hv

/-- whatever order is picked from here on, if there is a world to begin with -/
def wpAnyR (P : Program) (md : Region.Mode) (ops : Array Oper) (S : World → Prop) (T : List Tmp) (F : Tmp → Value → World → Prop) (L : Nat → Option (Value → Prop)) (Q : Act → Prop) : Nat → Array Bool → Act → Prop
  | 0, listed, a => (∃ w, S w ∧ RFacts ops T F listed a w) → Region.ready md ops listed = [] ∧ Q a
  | fuel + 1, listed, a => (∃ w, S w ∧ RFacts ops T F listed a w) → (Region.ready md ops listed = [] → Q a) ∧
    ∀ i ∈ Region.ready md ops listed, ∀ o, ops[i]? = some o → ∃ V, RYields P ops S T F o (L i) a V ∧ ∀ v, V v → wpAnyR P md ops S T F L Q fuel (listed.setIfInBounds i true) (a.put o.dst v)

theorem wpAny_of_rel {Q : Act → Prop} {Q' : Exit → Act → World → Prop} (hm : RMarks md ops T)
    (hQ : ∀ listed a w, listed.size = ops.size → Region.ready md ops listed = [] → S w → RFacts ops T F listed a w → Q a → Q' .normal a w) : ∀ (fuel : Nat) (listed : Array Bool) (a : Act) (w : World), listed.size = ops.size → S w → RFacts ops T F listed a w →
    wpAnyR P md ops S T F L Q fuel listed a → wpAny P md ops Q' fuel listed a w
  | 0, listed, a, w, hz, hw, hf, h => ⟨(h ⟨w, hw, hf⟩).1, hQ _ _ _ hz (h ⟨w, hw, hf⟩).1 hw hf (h ⟨w, hw, hf⟩).2⟩
  | fuel + 1, listed, a, w, hz, hw, hf, h => by
    refine ⟨fun h0 => hQ _ _ _ hz h0 hw hf ((h ⟨w, hw, hf⟩).1 h0), fun i hi => ?_⟩
    have hz' : (listed.setIfInBounds i true).size = ops.size := by rw [Array.size_setIfInBounds]; exact hz
    obtain ⟨_, o, ho, _⟩ := mem_ready.1 hi
    obtain ⟨V, hy, hn⟩ := (h ⟨w, hw, hf⟩).2 i hi o ho
    have hp := hf.pre hm hi ho
    unfold wpOp
    simp only [ho]
    rcases hy with ⟨h1, _, v, rfl, h3⟩ | ⟨h1, _, h3⟩ | ⟨h1, rfl, h3⟩
    · rw [if_pos h1]
      left
      obtain ⟨hr, hd⟩ := h3 w hw hp
      unfold Oper.wp
      rw [hr]
      exact wpAny_of_rel hm hQ fuel _ _ w hz' hw (hf.next ho ⟨hw, fun _ _ _ h => h, hd⟩) (hn v rfl)
    · rw [if_pos h1]
      left
      have hr := h3 w hw hp
      unfold Oper.wp
      generalize (execOp a.eval o).run P w = r at hr
      cases r with
      | ok n w' =>
        cases n <;> simp only [RUpon] at hr <;> simp only [Oper.upon]
        case value u => exact wpAny_of_rel hm hQ fuel _ _ w' hz' hr.2.1 (hf.next ho hr.2) (hn u hr.1)
        case enter f args =>
          refine hr.mono ?_
          rintro e w'' ⟨u, rfl, hv, hg⟩
          exact wpAny_of_rel hm hQ fuel _ _ w'' hz' hg.1 (hf.next ho hg) (hn u hv)
      | halt x w' => simp only [RUpon] at hr
    · rw [if_neg (by rw [h1]; exact Bool.false_ne_true)]
      exact wpAny_of_rel hm hQ fuel _ _ w hz' hw (hf.next ho ⟨hw, fun _ _ _ h => h, fun d hd ht => absurd ht (h3 d hd)⟩) (hn undef rfl)

theorem wpAnyR_first {Q : Act → Prop} {i : Nat} {oi : Oper} {V : Value → Prop} (hm : RMarks md ops T) (hi : ops[i]? = some oi) (hsel : ∀ (j : Nat) (o : Oper) cs b, ops[j]? = some o → o.op ≠ .select cs b) :
    ∀ (fuel : Nat) (listed : Array Bool) (a : Act),
      (∀ j oj, ops[j]? = some oj → j ≠ i → listed.getD j true = false → (∀ e ∈ oj.after, Region.binds md e = true → e.on ≠ i) → oi.apart ops oj = true) →
      i ∈ Region.ready md ops listed → RYields P ops S T F oi (L i) a V →
      (∀ v, V v → wpAnyR P md ops S T F L Q fuel (listed.setIfInBounds i true) (a.put oi.dst v)) → wpAnyR P md ops S T F L Q (fuel + 1) listed a := by
  intro fuel
  induction fuel with
  | zero =>
    intro listed a _ hr hy H hne
    obtain ⟨w0, hw0, hf0⟩ := hne
    obtain ⟨v0, w1, hv0, hg⟩ := hy.some_ hw0 (hf0.pre hm hr hi)
    have h1 := H v0 hv0 ⟨w1, hg.1, hf0.next hi hg⟩
    refine ⟨fun h => (by rw [h] at hr; cases hr), fun j hj o ho => ?_⟩
    by_cases hji : j = i
    · subst hji
      rw [hi] at ho; cases ho
      exact ⟨V, hy, H⟩
    · have := ready_mono hj hji
      rw [h1.1] at this
      cases this
  | succ fuel ih =>
    intro listed a hfree hr hy H hne
    obtain ⟨w0, hw0, hf0⟩ := hne
    obtain ⟨v0, w1, hv0, hg⟩ := hy.some_ hw0 (hf0.pre hm hr hi)
    have h1 := H v0 hv0 ⟨w1, hg.1, hf0.next hi hg⟩
    refine ⟨fun h => (by rw [h] at hr; cases hr), fun j hj oj hoj => ?_⟩
    by_cases hji : j = i
    · subst hji
      rw [hi] at hoj; cases hoj
      exact ⟨V, hy, H⟩
    · obtain ⟨hjun, oj', hoj', hall⟩ := mem_ready.1 hj
      rw [hoj] at hoj'
      cases hoj'
      have hnot : ∀ e ∈ oj.after, Region.binds md e = true → e.on ≠ i := fun e he hb heq => by
        have h1 := hall e he hb
        have h0 := (mem_ready.1 hr).1
        rw [heq] at h1
        rcases Nat.lt_or_ge i listed.size with h' | h'
        · simp [h'] at h0 h1; rw [h0] at h1; cases h1
        · simp [Array.getElem?_eq_none h'] at h1
      obtain ⟨a1, a2, a3⟩ := Oper.apart_spec (hfree j oj hoj hji hjun hnot)
      obtain ⟨Vj, hyj, _⟩ := h1.2 j (ready_mono hj hji) oj hoj
      have hyj' := (RYields.put (fun cs b => hsel j oj cs b hoj) a1).1 hyj
      have hpj := hf0.pre hm hj hoj
      have hfree' : ∀ k ok, ops[k]? = some ok → k ≠ i → (listed.setIfInBounds j true).getD k true = false →
          (∀ e ∈ ok.after, Region.binds md e = true → e.on ≠ i) → oi.apart ops ok = true := fun k ok hk hki hun hno => by
        refine hfree k ok hk hki ?_ hno
        by_cases hjk : j = k
        · subst hjk; exact hjun
        · rw [getD_set_ne true hjk] at hun; exact hun
      refine ⟨Vj, hyj', fun u hu => ih (listed.setIfInBounds j true) (a.put oj.dst u) hfree' (ready_mono hr (Ne.symm hji)) ((RYields.put (fun cs b => hsel i oi cs b hi) a3).2 hy) fun v hv => ?_⟩
      have comm := Act.put_comm a v u a2
      have key : (∃ w, S w ∧ RFacts ops T F ((listed.setIfInBounds j true).setIfInBounds i true) ((a.put oj.dst u).put oi.dst v) w) → wpAnyR P md ops S T F L Q fuel ((listed.setIfInBounds j true).setIfInBounds i true) ((a.put oj.dst u).put oi.dst v) := by
        rintro ⟨w2, hw2, hf2⟩
        rw [← comm, Array.setIfInBounds_comm _ _ hji] at hf2 ⊢
        have hjun' : (listed.setIfInBounds i true).getD j true = false := by rw [getD_set_ne true (Ne.symm hji)]; exact hjun
        have hf3 := hf2.less hm hoj hjun'
        obtain ⟨V2, hy2, hn2⟩ := (H v hv ⟨w2, hw2, hf3⟩).2 j (ready_mono hj hji) oj hoj
        have hy2' := (RYields.put (fun cs b => hsel j oj cs b hoj) a1).1 hy2
        have := hyj'.unique hy2' hw0 hpj
        subst this
        exact hn2 u hu
      cases fuel with
      | zero => exact fun hne => key hne hne
      | succ fuel => exact fun hne => key hne hne

/-- the walk in the order of the text -/
def wpRel (P : Program) (ops : Array Oper) (S : World → Prop) (T : List Tmp) (F : Tmp → Value → World → Prop) (L : Nat → Option (Value → Prop)) (Q : Act → Prop) : List Oper → Nat → Act → Prop
  | [], _, a => Q a
  | o :: rest, k, a => ∃ V, RYields P ops S T F o (L k) a V ∧ ∀ v, V v → wpRel P ops S T F L Q rest (k + 1) (a.put o.dst v)
theorem wpAnyR_lex {Q : Act → Prop} (hm : RMarks md ops T) (hs : Region.noSelect ops = true) : ∀ (l : List Oper) (k : Nat) (listed : Array Bool) (a : Act), (∀ j, l[j]? = ops[k + j]?) →
    Region.lexFrom md ops l.length k listed = true → wpRel P ops S T F L Q l k a → wpAnyR P md ops S T F L Q l.length listed a
  | [], _, _, _, _, hB, h => fun _ => ⟨by simpa [Region.lexFrom] using hB, h⟩
  | o :: l, k, listed, a, hl, hB, h => by
    have h0 : ops[k]? = some o := by simpa using (hl 0).symm
    simp only [List.length_cons, Region.lexFrom, Bool.and_eq_true] at hB
    obtain ⟨⟨hr, hf⟩, hB'⟩ := hB
    obtain ⟨V, hy, hK⟩ := h
    exact wpAnyR_first hm h0 (Region.noSelect_spec hs) l.length listed a (Region.free_spec h0 hf) (by simpa using hr) hy
      fun v hv => wpAnyR_lex hm hs l (k + 1) _ _ (fun j => by have := hl (j + 1); simpa [Nat.add_assoc, Nat.add_comm 1 j] using this) hB' (hK v hv)
theorem ready_nil {listed : Array Bool} (hz : listed.size = ops.size) (h : Region.ready md ops listed = []) (hB : ∀ (k : Nat) o, ops[k]? = some o → ∀ e ∈ o.after, Region.binds md e = true → e.on < k) : ∀ n k, k ≤ n → k < ops.size → listed.getD k false = true := by
  intro n
  induction n with
  | zero =>
    intro k hk hs
    obtain rfl : k = 0 := by omega
    cases hl : listed.getD 0 true with
    | true => simpa [hz, hs] using hl
    | false =>
      have : 0 ∈ Region.ready md ops listed := mem_ready.2 ⟨hl, _, Array.getElem?_eq_getElem hs, fun e he hb => by have := hB 0 _ (Array.getElem?_eq_getElem hs) e he hb; omega⟩
      rw [h] at this; cases this
  | succ n ih =>
    intro k hk hs
    cases hl : listed.getD k true with
    | true => simpa [hz, hs] using hl
    | false =>
      have : k ∈ Region.ready md ops listed := mem_ready.2 ⟨hl, _, Array.getElem?_eq_getElem hs, fun e he hb => by
        have hlt := hB k _ (Array.getElem?_eq_getElem hs) e he hb
        exact ih e.on (by omega) (by omega)⟩
      rw [h] at this; cases this
def backB (md : Region.Mode) (ops : Array Oper) : Bool := (List.range ops.size).all fun k => match ops[k]? with | some o => o.after.all fun e => !Region.binds md e || decide (e.on < k) | none => true
theorem back_of (h : backB md ops = true) : ∀ (k : Nat) o, ops[k]? = some o → ∀ e ∈ o.after, Region.binds md e = true → e.on < k := by
  intro k o hk e he hb
  unfold backB at h
  simp only [List.all_eq_true, List.mem_range] at h
  have := h k (Array.getElem?_eq_some_iff.1 hk).1
  simp only [hk] at this
  have := Array.all_eq_true_iff_forall_mem.1 this e he
  simpa [hb] using this
/-- THE LAW -/
theorem wp_region_rel {id : Nat} {Q : Exit → Act → World → Prop} {a : Act} {w : World} {l : List Oper} (S : World → Prop) (T : List Tmp) (F : Tmp → Value → World → Prop) (L : Nat → Option (Value → Prop)) (hm : P.follows .mixedOrders = true) (hB : Region.lexB .any l.toArray = true) (hT : marksB .any l.toArray T = true) (hA : backB .any l.toArray = true)
    (hS : S w.drew) (h : wpRel P l.toArray S T F L (fun a' => ∀ w', S w' → (∀ t ∈ T, ∀ v, a'.tmps[t]? = some v → F t v w') → Q .normal a' w') l 0 a) : (Code.region id l.toArray true).wp P Q a w := by
  simp only [Region.lexB, Bool.and_eq_true] at hB
  have hmk := marks_of hT
  refine wp_region_any hm (wpAny_of_rel (S := S) (T := T) (F := F) (L := L) (Q := fun a' => ∀ w', S w' → (∀ t ∈ T, ∀ v, a'.tmps[t]? = some v → F t v w') → Q .normal a' w') hmk (fun listed a' w' hz hr hw' hf h => h w' hw' fun t ht v hv => ?_) _ _ _ _ (by simp) hS (fun k o d hk => by
    exfalso
    simp only [Array.getD_eq_getD_getElem?, Array.getElem?_replicate] at hk
    split at hk <;> simp at hk) ?_)
  · obtain ⟨k, x, hx, hd⟩ := hmk.2.2 t ht
    exact hf k x t (ready_nil hz hr (back_of hA) _ k (Nat.le_refl _) (Array.getElem?_eq_some_iff.1 hx).1) hx hd ht v hv
  · have := wpAnyR_lex (P := P) (S := S) (F := F) (L := L) hmk hB.1 l 0 (Array.replicate l.toArray.size false) a (by simp) (by simpa using hB.2) h
    simpa using this

section steps
variable {Q : Act → Prop} {o : Oper} {rest : List Oper} {k : Nat} {a : Act}
theorem wpRel_nil (h : Q a) : wpRel P ops S T F L Q [] k a := h
/-- an operation that yields one value, unmarked -/
theorem wpRel_val {v : Value} (hw : Region.wanted o (yielded ops a.tmps) = true) (hl : L k = none) (ht : ∀ d, o.dst = some d → d ∉ T) (h : ∀ w, S w → RPre ops T F o a w → (execOp a.eval o).run P w = .ok (.value v) w) (hk : wpRel P ops S T F L Q rest (k + 1) (a.put o.dst v)) : wpRel P ops S T F L Q (o :: rest) k a :=
  ⟨_, .inl ⟨hw, hl, v, rfl, fun w hs hp => ⟨h w hs hp, fun d hd hT => absurd hT (ht d hd)⟩⟩, fun _ e => by subst e; exact hk⟩
/-- .. marked -/
theorem wpRel_mark {v : Value} (hw : Region.wanted o (yielded ops a.tmps) = true) (hl : L k = none) (h : ∀ w, S w → RPre ops T F o a w → (execOp a.eval o).run P w = .ok (.value v) w ∧ ∀ d, o.dst = some d → d ∈ T → F d v w) (hk : wpRel P ops S T F L Q rest (k + 1) (a.put o.dst v)) : wpRel P ops S T F L Q (o :: rest) k a :=
  ⟨_, .inl ⟨hw, hl, v, rfl, h⟩, fun _ e => by subst e; exact hk⟩
/-- a call, or whatever makes memory -/
theorem wpRel_loose {V : Value → Prop} (hw : Region.wanted o (yielded ops a.tmps) = true) (hl : L k = some V) (h : ∀ w, S w → RPre ops T F o a w → RUpon P S T F V o w ((execOp a.eval o).run P w)) (hk : ∀ v, V v → wpRel P ops S T F L Q rest (k + 1) (a.put o.dst v)) : wpRel P ops S T F L Q (o :: rest) k a :=
  ⟨V, .inr (.inl ⟨hw, hl, h⟩), hk⟩
theorem wpRel_skip (hw : Region.wanted o (yielded ops a.tmps) = false) (ht : ∀ d, o.dst = some d → d ∉ T) (hk : wpRel P ops S T F L Q rest (k + 1) (a.put o.dst undef)) : wpRel P ops S T F L Q (o :: rest) k a :=
  ⟨_, .inr (.inr ⟨hw, rfl, ht⟩), fun _ e => by subst e; exact hk⟩
end steps
end
end Go.Proofs.Ytjfonoiclndgnaa
