/- A region whose order is open, read by a plan: rows of operations that end in a value which is the same in any order. -/
import Derived.Test.YthhcmoknppljpaaDoorEng3
set_option linter.unusedVariables false
set_option linter.unusedSimpArgs false
namespace Go.Sh
noncomputable section

/-! ### what is asked of an operation may be weakened -/
theorem okV_mono {r : Result Value} {K K' : K1} (h : ∀ v w, K v w → K' v w) (hr : okV r K) : okV r K' := by
  cases r with
  | ok v w => exact h _ _ hr
  | halt x w => exact hr
theorem okU_mono {r : Result Unit} {K K' : K1} (h : ∀ v w, K v w → K' v w) (hr : okU r K) : okU r K' := by
  cases r with
  | ok v w => exact h _ _ hr
  | halt x w => exact hr
theorem okN_mono {P : Program} {r : Result Next} {K K' : K1} (h : ∀ v w, K v w → K' v w) (hr : okN P r K) : okN P r K' := by
  cases r with
  | halt x w => exact hr
  | ok n w =>
    cases n with
    | value v => exact h _ _ hr
    | skip => exact h _ _ hr
    | enter f args => exact Calls.mono hr fun e w' ⟨v, he, hK⟩ => ⟨v, he, h _ _ hK⟩
    | _ => exact hr

theorem vcOp_mono {P : Program} {e : Env} {op : Op} {ty : TypeId} {w : World} {K K' : K1} (h : ∀ v w, K v w → K' v w) (hr : vcOp P e op ty w K) : vcOp P e op ty w K' := by
  cases op with
  | move x => exact h _ _ hr
  | assign x => exact h _ _ hr
  | pick c a b =>
    have hr := hr.out
    refine ⟨?_⟩
    cases hc : opd e c with
    | bool t => rw [hc] at hr; exact h _ _ hr
    | _ => rw [hc] at hr; exact hr
  | store t a x => exact ⟨okU_mono h hr.out⟩
  | mapUpdate t m k x => exact ⟨okU_mono h hr.out⟩
  | insert t m k x => exact ⟨okU_mono h hr.out⟩
  | entryStore t m s x => exact ⟨okU_mono h hr.out⟩
  | nilCheck x =>
    have hr := hr.out
    refine ⟨?_⟩
    cases hx : opd e x with
    | pointer p =>
      cases p with
      | none => rw [hx] at hr; exact hr
      | some p => rw [hx] at hr; exact h _ _ hr
    | _ => rw [hx] at hr; exact hr
  | call c =>
    obtain ⟨callee, args, argTypes⟩ := c
    cases callee with
    | value f => exact ⟨okN_mono h hr.out⟩
    | builtin b => exact ⟨okN_mono h hr.out⟩
    | invoke r m => exact hr
  | alloc _ => exact ⟨okV_mono h hr.out⟩
  | box _ _ => exact ⟨okV_mono h hr.out⟩
  | build _ _ => exact ⟨okV_mono h hr.out⟩
  | buildSlice _ _ _ => exact ⟨okV_mono h hr.out⟩
  | load _ _ => exact ⟨okV_mono h hr.out⟩
  | binOp _ _ _ _ _ => exact ⟨okV_mono h hr.out⟩
  | unOp _ _ _ => exact ⟨okV_mono h hr.out⟩
  | convert _ _ _ => exact ⟨okV_mono h hr.out⟩
  | makeInterface _ _ => exact ⟨okV_mono h hr.out⟩
  | makeFunc _ _ _ => exact ⟨okV_mono h hr.out⟩
  | makeMap _ _ => exact ⟨okV_mono h hr.out⟩
  | makeSlice _ _ _ => exact ⟨okV_mono h hr.out⟩
  | slice _ _ _ _ _ => exact ⟨okV_mono h hr.out⟩
  | fieldAddr _ _ _ => exact ⟨okV_mono h hr.out⟩
  | field _ _ _ => exact ⟨okV_mono h hr.out⟩
  | indexAddr _ _ _ => exact ⟨okV_mono h hr.out⟩
  | index _ _ _ => exact ⟨okV_mono h hr.out⟩
  | lookup _ _ _ _ => exact ⟨okV_mono h hr.out⟩
  | mapEntry _ _ _ => exact ⟨okV_mono h hr.out⟩
  | range _ _ => exact ⟨okV_mono h hr.out⟩
  | next _ _ => exact ⟨okV_mono h hr.out⟩
  | entry _ => exact ⟨okV_mono h hr.out⟩
  | extract _ _ => exact ⟨okV_mono h hr.out⟩
  | _ => exact hr

theorem vcO_mono {P : Program} {ops : Array Oper} {e : Env} {o : Oper} {w : World} {K K' : K1} (h : ∀ v w, K v w → K' v w) (hr : vcO P ops e o w K) : vcO P ops e o w K' := by
  unfold vcO at *
  cases hg : o.guard with
  | none => rw [hg] at hr; exact vcOp_mono h hr
  | some jw =>
    obtain ⟨j, want⟩ := jw
    rw [hg] at hr
    have hr := hr.out
    refine ⟨?_⟩
    cases hv : guardVal ops e j with
    | bool b =>
      rw [hv] at hr
      simp only at hr ⊢
      split
      · rename_i hb; rw [if_pos hb] at hr; exact vcOp_mono h hr
      · rename_i hb; rw [if_neg hb] at hr; exact h _ _ hr
    | _ => rw [hv] at hr; exact h _ _ hr

/-! ### what is checked, for the kernel -/
def rowsL (t : Told) (j : Nat) : Option Row := List.rec (motive := fun _ => Option Row) none (fun p _ ih => bif Nat.beq p.1 j then some p.2.2 else ih) t
def eqL (l : List Nat) : List Nat → Bool :=
  List.rec (motive := fun _ => List Nat → Bool) (fun m => match m with | [] => true | _ :: _ => false) (fun a _ ih m => match m with | [] => false | b :: m => bif Nat.beq a b then ih m else false) l
def flatL (l : List (List Nat)) : List Nat := List.rec (motive := fun _ => List Nat) [] (fun s _ ih => s ++ ih) l
def eqB (a b : Bool) : Bool := bif a then b else (bif b then false else true)
def seesB (t : Told) (vis j : Nat) (r : Row) : Bool := allL (fun q => match q.2.2.dst with
  | some d => bif hasBit r.look d then (bif Nat.beq q.1 j then true else eqB (hasBit vis q.1) (hasBit r.dep q.1)) else true
  | none => true) t
def prevB (prev : Option Nat) (r : Row) : Bool := match prev with | none => true | some p => hasBit r.dep p
def strandB (t : Told) (l : List Nat) : Option Nat → Nat → Bool :=
  List.rec (motive := fun _ => Option Nat → Nat → Bool) (fun _ _ => true) (fun j _ ih prev vis => match rowsL t j with
    | none => false
    | some r => bif prevB prev r then (bif seesB t vis j r then ih (some j) (Nat.lor (Nat.pow 2 j) vis) else false) else false) l
def itemsB (t : Told) (kd : List (Nat × Nat)) (l : List (List Nat)) : Nat → Bool :=
  List.rec (motive := fun _ => Nat → Bool) (fun _ => true) (fun s _ ih vis => match s with
    | [] => false
    | j :: r => bif strandB t (j :: r) none vis then ih (bif Nat.beq (kindL kd (lastD (j :: r))) 2 then vis else Nat.lor (Nat.pow 2 (lastD (j :: r))) vis) else false) l
def seqB (t : Told) (l : List Nat) : Option Nat → Bool :=
  List.rec (motive := fun _ => Option Nat → Bool) (fun _ => true) (fun j _ ih prev => match rowsL t j with
    | none => false
    | some r => bif prevB prev r then ih (some j) else false) l
def distB (t : Told) : Bool := allL (fun p => match p.2.2.dst with
  | none => true
  | some d => allL (fun q => match q.2.2.dst with | none => true | some d' => bif Nat.beq d d' then Nat.beq p.1 q.1 else true) t) t
def orDepL (t : Told) (l : List Nat) : Nat := List.rec (motive := fun _ => Nat) 0 (fun j _ ih => match rowsL t j with | some r => Nat.lor r.dep ih | none => ih) l
def sinkB (t : Told) (fl tail : List Nat) : Bool := allL (fun j => bif hasBit (orDepL t fl) j then true else match tail with
  | [] => true
  | t1 :: _ => match rowsL t t1 with | some r => hasBit r.dep j | none => false) fl
def innB (t : Told) (kd : List (Nat × Nat)) (inner : List Nat) (items : List (List Nat)) : Bool := allL (fun s => allL (fun j => bif (bif Nat.beq j (lastD s) then (bif Nat.beq (kindL kd j) 2 then false else true) else false) then true else match rowsL t j with
  | some r => (match r.dst with | some d => bitL inner d | none => bif Nat.beq (kindL kd j) 2 then false else true)
  | none => false) s) items
def okPlan (t : Told) (p : Plan) : Bool :=
  bif eqL (flatL p.items ++ p.tail) (List.rec (motive := fun _ => List Nat) [] (fun p _ ih => p.1 :: ih) t) then
    bif distB t then bif itemsB t p.kinds p.items 0 then bif seqB t p.tail none then bif sinkB t (flatL p.items) p.tail then innB t p.kinds p.inner p.items else false else false else false else false else false

/-! ### what that says -/
variable {P : Program} {ops : Array Oper} {n : Nat} {le : World → World → Prop} {k : Env → World → Prop}
def Sees (ops : Array Oper) (vis : List Nat) (j : Nat) : Prop := ∀ l, l ≠ j → clash ops j l = true → (l ∈ vis ↔ dep ops j l = true)
def SeqDep (ops : Array Oper) : Option Nat → List Nat → Prop
  | _, [] => True
  | prev, j :: r => (∀ p, prev = some p → dep ops j p = true) ∧ SeqDep ops (some j) r
def StrandOk (ops : Array Oper) : List Nat → List Nat → Prop
  | _, [] => True
  | vis, j :: r => Sees ops vis j ∧ StrandOk ops (j :: vis) r
def nextV (kd : Nat → Nat) (s vis : List Nat) : List Nat := bif Nat.beq (kd (lastD s)) 2 then vis else lastD s :: vis
theorem mem_nextV {kd : Nat → Nat} {s vis : List Nat} {l : Nat} : l ∈ nextV kd s vis ↔ (l = lastD s ∧ kd l ≠ 2) ∨ l ∈ vis := by
  unfold nextV
  cases hb : Nat.beq (kd (lastD s)) 2 with
  | true =>
    have := Nat.eq_of_beq_eq_true hb
    exact ⟨.inr, fun h => h.elim (fun ⟨e, h⟩ => absurd (e ▸ this) h) id⟩
  | false =>
    have hne : kd (lastD s) ≠ 2 := fun e => by rw [e] at hb; cases hb
    show l ∈ lastD s :: vis ↔ _
    rw [List.mem_cons]
    exact ⟨fun h => h.elim (fun e => .inl ⟨e, e ▸ hne⟩) .inr, fun h => h.elim (fun h => .inl h.1) .inr⟩
def ItemsOk (ops : Array Oper) (kd : Nat → Nat) : List Nat → List (List Nat) → Prop
  | _, [] => True
  | vis, s :: rest => s ≠ [] ∧ SeqDep ops none s ∧ StrandOk ops vis s ∧ ItemsOk ops kd (nextV kd s vis) rest
structure PlanOk (ops : Array Oper) (p : Plan) : Prop where
  lt : ∀ i ∈ flatL p.items ++ p.tail, i < ops.size
  all : ∀ i, i < ops.size → i ∈ flatL p.items ++ p.tail
  nodup : (flatL p.items ++ p.tail).Nodup
  topo : ∀ A i B, flatL p.items ++ p.tail = A ++ i :: B → ∀ j, dep ops i j = true → j ∈ A
  clash : ∀ i j, clash ops i j = true → i = j ∨ dep ops i j = true ∨ dep ops j i = true
  dist : ∀ i j t, dstAt ops i = some t → dstAt ops j = some t → i = j
  items : ItemsOk ops (kindL p.kinds) [] p.items
  tail : SeqDep ops none p.tail
  sink : ∀ j ∈ flatL p.items, (∃ l ∈ flatL p.items, dep ops l j = true) ∨ ∀ t1 r, p.tail = t1 :: r → dep ops t1 j = true
  inn : ∀ s ∈ p.items, ∀ j ∈ s, (j ≠ lastD s ∨ kindL p.kinds j = 2) → ∀ t, dstAt ops j = some t → p.inner.contains t = true
  open2 : ∀ s ∈ p.items, s ≠ [] → kindL p.kinds (lastD s) = 2 → ∃ t, dstAt ops (lastD s) = some t

theorem rowsL_mem {t : Told} {j : Nat} {r : Row} : rowsL t j = some r → ∃ p ∈ t, p.1 = j ∧ p.2.2 = r := by
  induction t with
  | nil => intro h; cases h
  | cons p t ih =>
    intro h
    have h' : (bif Nat.beq p.1 j then some p.2.2 else rowsL t j) = some r := h
    cases hb : Nat.beq p.1 j with
    | true =>
      rw [hb] at h'
      exact ⟨p, List.mem_cons_self .., Nat.eq_of_beq_eq_true hb, Option.some.inj h'⟩
    | false =>
      rw [hb] at h'
      obtain ⟨q, hq, e⟩ := ih h'
      exact ⟨q, List.mem_cons_of_mem _ hq, e⟩
theorem eqL_spec : ∀ {l m : List Nat}, eqL l m = true → l = m
  | [], [], _ => rfl
  | [], _ :: _, h => by cases h
  | _ :: _, [], h => by cases h
  | a :: l, b :: m, h => by
    have h' : (bif Nat.beq a b then eqL l m else false) = true := h
    cases hb : Nat.beq a b with
    | true => rw [hb] at h'; rw [Nat.eq_of_beq_eq_true hb, eqL_spec (l := l) (m := m) h']
    | false => rw [hb] at h'; cases h'
theorem hasBit_set {vis j l : Nat} : hasBit (Nat.lor (Nat.pow 2 j) vis) l = true ↔ l = j ∨ hasBit vis l = true := by
  rw [hasBit_testBit, hasBit_testBit]
  have e : (Nat.lor (Nat.pow 2 j) vis) = (2 ^ j ||| vis) := rfl
  rw [e, Nat.testBit_or, Bool.or_eq_true, Nat.testBit_two_pow, decide_eq_true_iff]
  exact ⟨fun h => h.elim (fun h => .inl h.symm) .inr, fun h => h.elim (fun h => .inl h.symm) .inr⟩
theorem seesB_spec {t : Told} (hrow : ∀ p ∈ t, rowOf ops p.1 = some p.2.2) (hall : ∀ i, i < ops.size → ∃ p ∈ t, p.1 = i) {vis j : Nat} {visL : List Nat} {r : Row} (hr : rowOf ops j = some r)
    (hv : ∀ l, hasBit vis l = true ↔ l ∈ visL) (h : seesB t vis j r = true) : Sees ops visL j := by
  intro l hlj hc
  have hd : ∃ d, dstAt ops l = some d := by
    unfold Go.Sh.clash at hc
    cases hi : dstAt ops l with
    | none => rw [hi] at hc; cases ops[j]? <;> simp at hc
    | some d => exact ⟨d, rfl⟩
  obtain ⟨d, hd⟩ := hd
  have hl : l < ops.size := by
    rcases Nat.lt_or_ge l ops.size with h | h
    · exact h
    · exfalso; unfold dstAt at hd; rw [Array.getElem?_eq_none h] at hd; cases hd
  obtain ⟨q, hq, hql⟩ := hall l hl
  have h1 := allL_mem h q hq
  have h2 := rowOf_dst (hrow q hq)
  rw [hql, hd] at h2
  rw [← h2] at h1
  simp only [rowOf_clash hr hd hc, cond_true] at h1
  have h3 : Nat.beq q.1 j = false := by rw [Bool.eq_false_iff]; exact fun hb => hlj (by rw [← hql]; exact Nat.eq_of_beq_eq_true hb)
  rw [h3, hql] at h1
  simp only [cond_false] at h1
  rw [← hv l, ← rowOf_dep hr]
  unfold eqB at h1
  cases ha : hasBit vis l <;> cases hb : hasBit r.dep l <;> rw [ha, hb] at h1 <;> simp at h1 ⊢
theorem strandB_spec {t : Told} (hrow : ∀ p ∈ t, rowOf ops p.1 = some p.2.2) (hall : ∀ i, i < ops.size → ∃ p ∈ t, p.1 = i) : ∀ {l : List Nat} {prev : Option Nat} {vis : Nat} {visL : List Nat},
    (∀ l, hasBit vis l = true ↔ l ∈ visL) → strandB t l prev vis = true → SeqDep ops prev l ∧ StrandOk ops visL l
  | [], _, _, _, _, _ => ⟨trivial, trivial⟩
  | j :: l, prev, vis, visL, hv, h => by
    have h' : (match rowsL t j with
      | none => false
      | some r => bif prevB prev r then (bif seesB t vis j r then strandB t l (some j) (Nat.lor (Nat.pow 2 j) vis) else false) else false) = true := h
    cases hr : rowsL t j with
    | none => rw [hr] at h'; cases h'
    | some r =>
      rw [hr] at h'
      obtain ⟨p, hp, e1, e2⟩ := rowsL_mem hr
      have hr' : rowOf ops j = some r := by rw [← e1, ← e2]; exact hrow p hp
      simp only at h'
      cases hb : prevB prev r with
      | false => rw [hb] at h'; cases h'
      | true =>
        rw [hb] at h'
        simp only [cond_true] at h'
        cases hs : seesB t vis j r with
        | false => rw [hs] at h'; cases h'
        | true =>
          rw [hs] at h'
          have ih := strandB_spec hrow hall (l := l) (prev := some j) (vis := Nat.lor (Nat.pow 2 j) vis) (visL := j :: visL) (fun l => by rw [hasBit_set, List.mem_cons, hv]) h'
          exact ⟨⟨fun p hp => by subst hp; exact (rowOf_dep hr').1 hb, ih.1⟩, seesB_spec hrow hall hr' hv hs, ih.2⟩
theorem itemsB_spec {kd : List (Nat × Nat)} {t : Told} (hrow : ∀ p ∈ t, rowOf ops p.1 = some p.2.2) (hall : ∀ i, i < ops.size → ∃ p ∈ t, p.1 = i) : ∀ {l : List (List Nat)} {vis : Nat} {visL : List Nat},
    (∀ l, hasBit vis l = true ↔ l ∈ visL) → itemsB t kd l vis = true → ItemsOk ops (kindL kd) visL l
  | [], _, _, _, _ => trivial
  | [] :: _, _, _, _, h => by cases h
  | (j :: r) :: rest, vis, visL, hv, h => by
    have h' : (bif strandB t (j :: r) none vis then itemsB t kd rest (bif Nat.beq (kindL kd (lastD (j :: r))) 2 then vis else Nat.lor (Nat.pow 2 (lastD (j :: r))) vis) else false) = true := h
    cases hs : strandB t (j :: r) none vis with
    | false => rw [hs] at h'; cases h'
    | true =>
      rw [hs] at h'
      have h1 := strandB_spec hrow hall hv hs
      refine ⟨by simp, h1.1, h1.2, itemsB_spec hrow hall (fun l => ?_) h'⟩
      unfold nextV
      cases Nat.beq (kindL kd (lastD (j :: r))) 2 with
      | true => exact hv l
      | false =>
        show hasBit (Nat.lor (Nat.pow 2 (lastD (j :: r))) vis) l = true ↔ l ∈ lastD (j :: r) :: visL
        rw [hasBit_set, List.mem_cons, hv]
theorem seqB_spec {t : Told} (hrow : ∀ p ∈ t, rowOf ops p.1 = some p.2.2) : ∀ {l : List Nat} {prev : Option Nat}, seqB t l prev = true → SeqDep ops prev l
  | [], _, _ => trivial
  | j :: l, prev, h => by
    have h' : (match rowsL t j with
      | none => false
      | some r => bif prevB prev r then seqB t l (some j) else false) = true := h
    cases hr : rowsL t j with
    | none => rw [hr] at h'; cases h'
    | some r =>
      rw [hr] at h'
      obtain ⟨p, hp, e1, e2⟩ := rowsL_mem hr
      have hr' : rowOf ops j = some r := by rw [← e1, ← e2]; exact hrow p hp
      simp only at h'
      cases hb : prevB prev r with
      | false => rw [hb] at h'; cases h'
      | true =>
        rw [hb] at h'
        exact ⟨fun p hp => by subst hp; exact (rowOf_dep hr').1 hb, seqB_spec hrow h'⟩
theorem orDepL_bit {t : Told} (hrow : ∀ p ∈ t, rowOf ops p.1 = some p.2.2) {j : Nat} : ∀ {l : List Nat}, hasBit (orDepL t l) j = true → ∃ q ∈ l, dep ops q j = true
  | [], h => by
    rw [hasBit_testBit] at h
    have : (0 : Nat).testBit j = true := h
    simp at this
  | i :: l, h => by
    have h' : hasBit (match rowsL t i with | some r => Nat.lor r.dep (orDepL t l) | none => orDepL t l) j = true := h
    cases hr : rowsL t i with
    | none =>
      rw [hr] at h'
      obtain ⟨q, hq, e⟩ := orDepL_bit hrow h'
      exact ⟨q, List.mem_cons_of_mem _ hq, e⟩
    | some r =>
      rw [hr] at h'
      obtain ⟨p, hp, e1, e2⟩ := rowsL_mem hr
      have hr' : rowOf ops i = some r := by rw [← e1, ← e2]; exact hrow p hp
      rw [hasBit_testBit] at h'
      have h2 : (r.dep ||| orDepL t l).testBit j = true := h'
      rw [Nat.testBit_or, Bool.or_eq_true] at h2
      rcases h2 with h2 | h2
      · exact ⟨i, List.mem_cons_self .., (rowOf_dep hr').1 (by rw [hasBit_testBit]; exact h2)⟩
      · obtain ⟨q, hq, e⟩ := orDepL_bit hrow (l := l) (by rw [hasBit_testBit]; exact h2)
        exact ⟨q, List.mem_cons_of_mem _ hq, e⟩
theorem planOk_of {t : Told} {p : Plan} (ht : okTold ops t = true) (h : okPlan t p = true) : PlanOk ops p := by
  obtain ⟨hrow, hall⟩ := told_rows ht
  have hord := okOrd_told ht
  have hmap : ∀ l : Told, (List.rec (motive := fun _ => List Nat) [] (fun p _ ih => p.1 :: ih) l : List Nat) = l.map (·.1) := by
    intro l
    induction l with
    | nil => rfl
    | cons p l ih => rw [List.map_cons, ← ih]
  have hmap2 : (ordOf t).map (·.1) = t.map (·.1) := by
    clear h hord hrow hall ht
    induction t with
    | nil => rfl
    | cons p l ih => rw [List.map_cons, ← ih]; rfl
  unfold okPlan at h
  rw [hmap] at h
  cases h1 : eqL (flatL p.items ++ p.tail) (t.map (·.1)) with
  | false => rw [h1] at h; cases h
  | true =>
  rw [h1] at h
  simp only [cond_true] at h
  cases h2 : distB t with
  | false => rw [h2] at h; cases h
  | true =>
  rw [h2] at h
  simp only [cond_true] at h
  cases h3 : itemsB t p.kinds p.items 0 with
  | false => rw [h3] at h; cases h
  | true =>
  rw [h3] at h
  simp only [cond_true] at h
  cases h4 : seqB t p.tail none with
  | false => rw [h4] at h; cases h
  | true =>
  rw [h4] at h
  simp only [cond_true] at h
  cases h5 : sinkB t (flatL p.items) p.tail with
  | false => rw [h5] at h; cases h
  | true =>
  rw [h5] at h
  simp only [cond_true] at h
  have e := eqL_spec h1
  have key : ∀ (l : List (Nat × Bool)) (seen : List Nat), okOrd ops seen l = true → (∀ i ∈ l.map (·.1), i < ops.size) ∧ (l.map (·.1)).Nodup ∧ (∀ i ∈ seen, i ∉ l.map (·.1)) ∧
      (∀ A i B, l.map (·.1) = A ++ i :: B → ∀ j, dep ops i j = true → j ∈ A ∨ j ∈ seen) ∧ ∀ i ∈ l.map (·.1), ∀ j, clash ops i j = true → i = j ∨ dep ops i j = true ∨ dep ops j i = true := by
    intro l
    induction l with
    | nil => intro seen _; refine ⟨by simp, by simp, by simp, ?_, by simp⟩; intro A i B h; simp at h
    | cons q l ih =>
      obtain ⟨i, non⟩ := q
      intro seen h
      have ho := okOrd_cons h
      obtain ⟨a1, a2, a3, a4, a5⟩ := ih (i :: seen) ho.2.2.2.2.2
      refine ⟨?_, ?_, ?_, ?_, ?_⟩
      · intro j hj
        simp only [List.map_cons, List.mem_cons] at hj
        rcases hj with e | e
        · subst e; exact ho.1
        · exact a1 j e
      · rw [List.map_cons, List.nodup_cons]
        exact ⟨a3 i (List.mem_cons_self ..), a2⟩
      · intro j hj hm
        simp only [List.map_cons, List.mem_cons] at hm
        rcases hm with e | e
        · subst e; exact ho.2.1 hj
        · exact a3 j (List.mem_cons_of_mem _ hj) e
      · intro A j B hA l' hl'
        cases A with
        | nil =>
          simp only [List.map_cons, List.nil_append, List.cons.injEq] at hA
          obtain ⟨rfl, _⟩ := hA
          exact .inr (ho.2.2.1 l' hl')
        | cons b A =>
          simp only [List.map_cons, List.cons_append, List.cons.injEq] at hA
          obtain ⟨rfl, hA⟩ := hA
          rcases a4 A j B hA l' hl' with h | h
          · exact .inl (List.mem_cons_of_mem _ h)
          · rcases List.mem_cons.1 h with e | e
            · subst e; exact .inl (List.mem_cons_self ..)
            · exact .inr e
      · intro j hj
        simp only [List.map_cons, List.mem_cons] at hj
        rcases hj with e | e
        · subst e; exact ho.2.2.2.1
        · exact a5 j e
  obtain ⟨b1, b2, _, b4, b5⟩ := key (ordOf t) [] hord
  rw [hmap2, ← e] at b1 b2 b5
  rw [hmap2, ← e] at b4
  have ball : ∀ i, i < ops.size → i ∈ flatL p.items ++ p.tail := fun i hi => by
    have := okOrd_all hord i hi (by simp)
    rwa [hmap2, ← e] at this
  have hdl : ∀ {i d : Nat}, dstAt ops i = some d → i < ops.size := fun {i d} hd => by
    rcases Nat.lt_or_ge i ops.size with h | h
    · exact h
    · exfalso; unfold dstAt at hd; rw [Array.getElem?_eq_none h] at hd; cases hd
  refine ⟨b1, ball, b2, fun A i B hA j hj => ?_, fun i j hc => ?_, fun i j d hi hj => ?_, itemsB_spec hrow hall (by intro l; simp [hasBit_testBit]) h3, seqB_spec hrow h4, fun j hj => ?_, fun s hs j hj hjl d hd => ?_, fun s hs hne hk2 => ?_⟩
  · rcases b4 A i B hA j hj with h | h
    · exact h
    · cases h
  · have hi : i < ops.size := by
      rcases Nat.lt_or_ge i ops.size with h | h
      · exact h
      · exfalso; unfold Go.Sh.clash at hc; rw [Array.getElem?_eq_none h] at hc; simp at hc
    exact b5 i (ball i hi) j hc
  · obtain ⟨q, hq, hqi⟩ := hall i (hdl hi)
    obtain ⟨q', hq', hqj⟩ := hall j (hdl hj)
    have r1 := rowOf_dst (hrow q hq)
    have r2 := rowOf_dst (hrow q' hq')
    rw [hqi, hi] at r1
    rw [hqj, hj] at r2
    have h6 := allL_mem h2 q hq
    rw [← r1] at h6
    have h7 := allL_mem h6 q' hq'
    rw [← r2] at h7
    simp only [Nat.beq_refl, cond_true] at h7
    rw [← hqi, ← hqj]
    exact Nat.eq_of_beq_eq_true h7
  · have h6 := allL_mem h5 j hj
    cases hb : hasBit (orDepL t (flatL p.items)) j with
    | true => exact .inl (orDepL_bit hrow hb)
    | false =>
      rw [hb] at h6
      simp only [cond_false] at h6
      refine .inr fun t1 r htl => ?_
      rw [htl] at h6
      simp only at h6
      cases hr : rowsL t t1 with
      | none => rw [hr] at h6; cases h6
      | some r' =>
        rw [hr] at h6
        obtain ⟨q, hq, e1, e2⟩ := rowsL_mem hr
        exact (rowOf_dep (by rw [← e1, ← e2]; exact hrow q hq)).1 h6
  · have h6 := allL_mem (allL_mem h s hs) j hj
    have h7 : (bif Nat.beq j (lastD s) then (bif Nat.beq (kindL p.kinds j) 2 then false else true) else false) = false := by
      cases h8 : Nat.beq j (lastD s) with
      | false => rfl
      | true =>
        have e8 := Nat.eq_of_beq_eq_true h8
        rcases hjl with h | h
        · exact absurd e8 h
        · rw [h]; rfl
    rw [h7] at h6
    simp only [cond_false] at h6
    cases hr : rowsL t j with
    | none => rw [hr] at h6; cases h6
    | some r' =>
      rw [hr] at h6
      obtain ⟨q, hq, e1, e2⟩ := rowsL_mem hr
      have r1 := rowOf_dst (hrow q hq)
      rw [e1, e2, hd] at r1
      have h6 : (match r'.dst with | some d => bitL p.inner d | none => bif Nat.beq (kindL p.kinds j) 2 then false else true) = true := h6
      rw [← r1] at h6
      have := bitL_mem.1 h6
      simpa using this
  · have hm : lastD s ∈ s := by
      have : ∀ {s : List Nat}, s ≠ [] → lastD s ∈ s := by
        intro s
        induction s with
        | nil => intro h; exact absurd rfl h
        | cons j l ih =>
          intro _
          cases l with
          | nil => exact List.mem_cons_self ..
          | cons b l => exact List.mem_cons_of_mem _ (ih (by simp))
      exact this hne
    have h6 := allL_mem (allL_mem h s hs) (lastD s) hm
    have h7 : (bif Nat.beq (lastD s) (lastD s) then (bif Nat.beq (kindL p.kinds (lastD s)) 2 then false else true) else false) = false := by rw [hk2, Nat.beq_refl]; rfl
    rw [h7] at h6
    simp only [cond_false] at h6
    cases hr : rowsL t (lastD s) with
    | none => rw [hr] at h6; cases h6
    | some r' =>
      rw [hr] at h6
      obtain ⟨q, hq, e1, e2⟩ := rowsL_mem hr
      have r1 := rowOf_dst (hrow q hq)
      rw [e1, e2] at r1
      have h6 : (match r'.dst with | some d => bitL p.inner d | none => bif Nat.beq (kindL p.kinds (lastD s)) 2 then false else true) = true := h6
      cases hd : r'.dst with
      | none => rw [hd, hk2] at h6; cases h6
      | some d => exact ⟨d, by rw [r1, hd]⟩

/-! ### that it suffices -/
def setV (val : Nat → Value) (i : Nat) (v : Value) : Nat → Value := fun l => if l = i then v else val l
theorem setV_at {val : Nat → Value} {i : Nat} {v : Value} : setV val i v i = v := if_pos rfl
theorem setV_ne {val : Nat → Value} {i l : Nat} {v : Value} (h : l ≠ i) : setV val i v l = val l := if_neg h
/-- Slots that the operations of S have written. -/
def Is (ops : Array Oper) (e0 e : Env) (S : Nat → Prop) (val : Nat → Value) : Prop :=
  ∀ t, (∀ j, S j → dstAt ops j = some t → e t = val j) ∧ ((∀ j, S j → dstAt ops j ≠ some t) → e t = e0 t)
theorem Is.agree {e0 e e' : Env} {S S' : Nat → Prop} {val : Nat → Value} {t : Nat} (h : Is ops e0 e S val) (h' : Is ops e0 e' S' val) (hs : ∀ j, dstAt ops j = some t → (S j ↔ S' j)) : e t = e' t := by
  by_cases hx : ∃ j, S j ∧ dstAt ops j = some t
  · obtain ⟨j, hj, hd⟩ := hx
    rw [(h t).1 j hj hd, (h' t).1 j ((hs j hd).1 hj) hd]
  · rw [(h t).2 fun j hj hd => hx ⟨j, hj, hd⟩, (h' t).2 fun j hj hd => hx ⟨j, (hs j hd).2 hj, hd⟩]
theorem Is.val {e0 e : Env} {S : Nat → Prop} {val val' : Nat → Value} (h : Is ops e0 e S val) (hv : ∀ j, S j → val' j = val j) : Is ops e0 e S val' :=
  fun t => ⟨fun j hj hd => by rw [hv j hj]; exact (h t).1 j hj hd, (h t).2⟩
theorem Is.iff {e0 e : Env} {S S' : Nat → Prop} {val : Nat → Value} (h : Is ops e0 e S val) (hs : ∀ j, S j ↔ S' j) : Is ops e0 e S' val :=
  fun t => ⟨fun j hj hd => (h t).1 j ((hs j).2 hj) hd, fun hn => (h t).2 fun j hj => hn j ((hs j).1 hj)⟩
theorem Is.upd {e0 e : Env} {S : Nat → Prop} {val : Nat → Value} {j : Nat} {v : Value} (hdist : ∀ i j t, dstAt ops i = some t → dstAt ops j = some t → i = j) (h : Is ops e0 e S val) (hj : ¬ S j) :
    Is ops e0 (updO e (dstAt ops j) v) (fun l => l = j ∨ S l) (setV val j v) := by
  intro t
  by_cases ht : dstAt ops j = some t
  · have e1 : updO e (dstAt ops j) v t = v := by rw [ht]; simp [updO, Sh.upd, Nat.beq_refl]
    refine ⟨fun l _ hl => ?_, fun hn => absurd ht (hn j (.inl rfl))⟩
    rw [hdist l j t hl ht, e1, setV_at]
  · rw [updO_other _ _ _ _ ht]
    refine ⟨fun l hl hd => ?_, fun hn => (h t).2 fun l hl => hn l (.inr hl)⟩
    rcases hl with hl | hl
    · subst hl; exact absurd hd ht
    · rw [setV_ne (fun he => hj (by rw [← he]; exact hl))]
      exact (h t).1 l hl hd

theorem lastD_cons {j b : Nat} {l : List Nat} : lastD (j :: b :: l) = lastD (b :: l) := rfl
theorem lastD_mem : ∀ {s : List Nat}, s ≠ [] → lastD s ∈ s
  | [], h => absurd rfl h
  | [j], _ => List.mem_cons_self ..
  | j :: b :: l, _ => by rw [lastD_cons]; exact List.mem_cons_of_mem _ (lastD_mem (by simp))
theorem lastD_app {i : Nat} : ∀ {s : List Nat}, lastD (s ++ [i]) = i
  | [] => rfl
  | [j] => rfl
  | j :: b :: l => by rw [List.cons_append, List.cons_append, lastD_cons, ← List.cons_append]; exact lastD_app (s := b :: l)
theorem lastD_mid {r b : Nat} {rem : List Nat} : ∀ {dn : List Nat}, lastD (dn ++ r :: b :: rem) = lastD (b :: rem)
  | [] => rfl
  | [x] => rfl
  | x :: y :: dn => by rw [List.cons_append, List.cons_append, lastD_cons, ← List.cons_append]; exact lastD_mid (dn := y :: dn)
theorem items_last {kd : Nat → Nat} : ∀ {items : List (List Nat)} {vis : List Nat}, ItemsOk ops kd vis items → ∀ s ∈ items, lastD s ∈ flatL items
  | [], _, _, s, hs => by cases hs
  | s :: items, _, hk, s', hs' => by
    show lastD s' ∈ s ++ flatL items
    rcases List.mem_cons.1 hs' with e | e
    · rw [e]; exact List.mem_append_left _ (lastD_mem hk.1)
    · exact List.mem_append_right _ (items_last hk.2.2.2 s' e)
theorem dstO_eq {j : Nat} : dstO ops j = dstAt ops j := by
  unfold dstO dstAt
  cases ops[j]? <;> rfl

/-- what the last of a row comes to -/
def Fin (kd : Nat → Nat) (VV : Nat → Value → World → Prop) (val : Nat → Value) (j : Nat) (v : Value) (w : World) : Prop := (kd j ≠ 2 → v = val j) ∧ VV j v w
def ItemOk (P : Program) (ops : Array Oper) (le : World → World → Prop) (kd : Nat → Nat) (VV : Nat → Value → World → Prop) (e0 : Env) (w : World) (done : Nat → Bool) (val : Nat → Value) (vis s : List Nat) : Prop :=
  ∃ dn rem, s = dn ++ rem ∧ (∀ j ∈ dn, done j = true) ∧ (∀ j ∈ rem, done j = false) ∧ (rem = [] → VV (lastD s) (val (lastD s)) w) ∧
    (rem ≠ [] → ∃ (e' : Env) (H' : World → Prop), Is ops e0 e' (fun l => l ∈ vis ∨ l ∈ dn) val ∧ H' w ∧ (∀ a b, H' a → le a b → H' b) ∧ vcSeqG P ops le rem e' H' (Fin kd VV val (lastD s)))
def AllI (P : Program) (ops : Array Oper) (le : World → World → Prop) (kd : Nat → Nat) (VV : Nat → Value → World → Prop) (e0 : Env) (w : World) (done : Nat → Bool) (val : Nat → Value) : List Nat → List (List Nat) → Prop
  | _, [] => True
  | vis, s :: rest => ItemOk P ops le kd VV e0 w done val vis s ∧ AllI P ops le kd VV e0 w done val (nextV kd s vis) rest
section
variable {kd : Nat → Nat} {VV : Nat → Value → World → Prop} {e0 : Env} {w w' : World} {done done' : Nat → Bool} {val : Nat → Value} {i : Nat} {v : Value}
theorem ItemOk.step (hVV : ∀ j v w w', VV j v w → le w w' → VV j v w') {vis s : List Nat} (h : ItemOk P ops le kd VV e0 w done val vis s) (hle : le w w') (hs : i ∉ s) (hne : s ≠ []) (hv : i ∈ vis → v = val i) (hd : ∀ j, j ≠ i → done' j = done j) :
    ItemOk P ops le kd VV e0 w' done' (setV val i v) vis s := by
  obtain ⟨dn, rem, rfl, h1, h2, h4, h3⟩ := h
  have hni : ∀ j, j ∈ dn ++ rem → j ≠ i := fun j hj e => hs (e ▸ hj)
  have hl : setV val i v (lastD (dn ++ rem)) = val (lastD (dn ++ rem)) := setV_ne (hni _ (lastD_mem hne))
  refine ⟨dn, rem, rfl, fun j hj => ?_, fun j hj => ?_, fun hr => ?_, fun hr => ?_⟩
  · rw [hd j (hni j (List.mem_append_left _ hj))]; exact h1 j hj
  · rw [hd j (hni j (List.mem_append_right _ hj))]; exact h2 j hj
  · rw [hl]; exact hVV _ _ _ _ (h4 hr) hle
  · obtain ⟨e', H', a, b, c, d⟩ := h3 hr
    refine ⟨e', H', a.val fun j hj => ?_, c _ _ b hle, c, ?_⟩
    · by_cases hji : j = i
      · subst hji
        rw [setV_at]
        rcases hj with hj | hj
        · exact hv hj
        · exact absurd rfl (hni j (List.mem_append_left _ hj))
      · exact setV_ne hji
    · have e : Fin kd VV (setV val i v) (lastD (dn ++ rem)) = Fin kd VV val (lastD (dn ++ rem)) := by
        funext u w
        unfold Fin
        rw [hl]
      rw [e]; exact d
theorem AllI.step (hVV : ∀ j v w w', VV j v w → le w w' → VV j v w') (hle : le w w') (hd : ∀ j, j ≠ i → done' j = done j) : ∀ {items : List (List Nat)} {vis : List Nat}, AllI P ops le kd VV e0 w done val vis items → ItemsOk ops kd vis items → i ∉ flatL items →
    (i ∈ vis → v = val i) → AllI P ops le kd VV e0 w' done' (setV val i v) vis items
  | [], _, _, _, _, _ => trivial
  | s :: rest, vis, h, hk, hn, hv => by
    have hn' : i ∉ s ++ flatL rest := hn
    rw [List.mem_append] at hn'
    refine ⟨h.1.step hVV hle (fun h => hn' (.inl h)) hk.1 hv hd, AllI.step hVV hle hd h.2 hk.2.2.2 (fun h => hn' (.inr h)) fun hm => ?_⟩
    rcases mem_nextV.1 hm with ⟨e, _⟩ | e
    · exact absurd (.inl (e ▸ lastD_mem hk.1)) hn'
    · exact hv e
end
theorem SeqDep.pred {i : Nat} : ∀ {l : List Nat} {prev : Option Nat} {b : Nat}, SeqDep ops prev (b :: l) → i ∈ l → ∃ p ∈ b :: l, dep ops i p = true
  | [], _, _, _, h => by cases h
  | c :: l, _, b, h, hi => by
    rcases List.mem_cons.1 hi with e | e
    · subst e; exact ⟨b, List.mem_cons_self .., h.2.1 b rfl⟩
    · obtain ⟨p, hp, hd⟩ := SeqDep.pred h.2 e
      exact ⟨p, List.mem_cons_of_mem _ hp, hd⟩
theorem SeqDep.drop : ∀ {A B : List Nat} {prev : Option Nat}, SeqDep ops prev (A ++ B) → ∃ prev', SeqDep ops prev' B
  | [], _, prev, h => ⟨prev, h⟩
  | _ :: _, _, _, h => SeqDep.drop h.2
theorem StrandOk.at {i : Nat} {r : List Nat} : ∀ {dn vis : List Nat}, StrandOk ops vis (dn ++ i :: r) → ∃ vis', (∀ l, l ∈ vis' ↔ l ∈ vis ∨ l ∈ dn) ∧ Sees ops vis' i
  | [], vis, h => ⟨vis, by simp, h.1⟩
  | j :: dn, vis, h => by
    obtain ⟨vis', h1, h2⟩ := StrandOk.at (dn := dn) h.2
    refine ⟨vis', fun l => ?_, h2⟩
    rw [h1, List.mem_cons, List.mem_cons]
    exact ⟨fun h => h.elim (fun h => h.elim (fun h => .inr (.inl h)) .inl) fun h => .inr (.inr h), fun h => h.elim (fun h => .inl (.inr h)) fun h => h.elim (fun h => .inl (.inl h)) .inr⟩

theorem AllI.run {kd : Nat → Nat} {VV : Nat → Value → World → Prop} (hVV : ∀ j v w w', VV j v w → le w w' → VV j v w') (hdist : ∀ i j t, dstAt ops i = some t → dstAt ops j = some t → i = j) {e0 ea : Env} {w : World} {done done' : Nat → Bool} {val : Nat → Value} {i : Nat} {o : Oper} (ho : ops[i]? = some o)
    (hclash : ∀ i j, clash ops i j = true → i = j ∨ dep ops i j = true ∨ dep ops j i = true) (h0 : done i = false) (hdeps : ∀ j, dep ops i j = true → done j = true)
    (hdown : ∀ i, done i = true → ∀ j, dep ops i j = true → done j = true) (hea : Is ops e0 ea (fun j => done j = true) val) (hd : ∀ j, j ≠ i → done' j = done j) (hdi : done' i = true) :
    ∀ {items : List (List Nat)} {vis : List Nat}, ItemsOk ops kd vis items → (flatL items).Nodup → (∀ j ∈ vis, j ∉ flatL items) → AllI P ops le kd VV e0 w done val vis items → i ∈ flatL items →
      ∃ (e' : Env) (Kp : K1), (∀ t ∈ o.looksAt ops, ea t = e' t) ∧ vcO P ops e' o w Kp ∧ ∀ v w', Kp v w' → le w w' ∧ AllI P ops le kd VV e0 w' done' (setV val i v) vis items ∧ ((∃ s ∈ items, i = lastD s ∧ kd i ≠ 2) → v = val i)
  | [], _, _, _, _, _, hi => by cases hi
  | s :: rest, vis, hk, hnd, hdj, h, hi => by
    have hnd' : (s ++ flatL rest).Nodup := hnd
    have hi' : i ∈ s ++ flatL rest := hi
    have hdj' : ∀ j ∈ vis, j ∉ s ++ flatL rest := hdj
    obtain ⟨hne, hseq, hstr, hrest⟩ := hk
    rw [List.nodup_append] at hnd'
    have hiv : i ∉ vis := fun hv => hdj i hv hi
    by_cases his : i ∈ s
    · have hir : i ∉ flatL rest := fun hr => hnd'.2.2 i his i hr rfl
      obtain ⟨⟨dn, rem, rfl, h1, h2, h4, h3⟩, hall⟩ := h
      have hidn : i ∉ dn := fun hm => by rw [h1 i hm] at h0; cases h0
      have hirem : i ∈ rem := by
        rcases List.mem_append.1 his with hm | hm
        · exact absurd hm hidn
        · exact hm
      cases rem with
      | nil => cases hirem
      | cons r1 rem =>
        have hr1 : r1 = i := by
          by_cases he : r1 = i
          · exact he
          · exfalso
            rcases List.mem_cons.1 hirem with e | e
            · exact he e.symm
            · obtain ⟨prev', hs'⟩ := SeqDep.drop hseq
              obtain ⟨p, hp, hd'⟩ := SeqDep.pred hs' e
              have := hdeps p hd'
              rw [h2 p hp] at this
              cases this
        subst hr1
        obtain ⟨e', H', a, b, c, d⟩ := h3 (by simp)
        have hag : ∀ t ∈ o.looksAt ops, ea t = e' t := by
          intro t ht
          refine Is.agree hea a fun j hj => ?_
          have hc := clash_looks ho ht hj
          obtain ⟨vis', hv1, hv2⟩ := StrandOk.at hstr
          by_cases hji : j = r1
          · subst hji
            constructor
            · intro hx; rw [h0] at hx; cases hx
            · intro hx; exact hx.elim (fun h => absurd h hiv) fun h => absurd h hidn
          · rw [← hv1, hv2 j hji hc]
            constructor
            · intro hx
              rcases hclash _ _ hc with e | e | e
              · exact absurd e.symm hji
              · exact e
              · have := hdown j hx r1 e; rw [h0] at this; cases this
            · exact hdeps j
        have post : ∀ v w', le w w' → ((r1 :: rem : List Nat) = [r1] → kd r1 ≠ 2 → v = val r1) → ItemOk P ops le kd VV e0 w' done' (setV val r1 v) vis (dn ++ r1 :: rem) →
            le w w' ∧ AllI P ops le kd VV e0 w' done' (setV val r1 v) vis ((dn ++ r1 :: rem) :: rest) ∧ ((∃ s ∈ (dn ++ r1 :: rem) :: rest, r1 = lastD s ∧ kd r1 ≠ 2) → v = val r1) := by
          intro v w' hle hv hI
          have hlst : r1 = lastD (dn ++ r1 :: rem) → kd r1 ≠ 2 → v = val r1 := by
            intro e
            cases rem with
            | nil => exact hv rfl
            | cons b rem =>
              exfalso
              have hl : lastD (dn ++ r1 :: b :: rem) ∈ b :: rem := by
                rw [lastD_mid]; exact lastD_mem (by simp)
              rw [← e] at hl
              have := hnd'.1
              rw [List.nodup_append] at this
              exact (List.nodup_cons.1 this.2.1).1 hl
          refine ⟨hle, ⟨hI, AllI.step hVV hle hd hall hrest hir fun hm => ?_⟩, fun ⟨s, hs, e, hk2⟩ => ?_⟩
          · rcases mem_nextV.1 hm with ⟨e, hk2⟩ | e
            · exact hlst e hk2
            · exact absurd e hiv
          · rcases List.mem_cons.1 hs with e2 | e2
            · exact hlst (by rw [← e2]; exact e) hk2
            · exact absurd (e ▸ items_last hrest s e2) hir
        have hdr1 : ∀ j ∈ dn ++ [r1], done' j = true := by
          intro j hj
          rcases List.mem_append.1 hj with hj | hj
          · by_cases e : j = r1
            · rw [e]; exact hdi
            · rw [hd j e]; exact h1 j hj
          · simp at hj; rw [hj]; exact hdi
        cases rem with
        | nil =>
          have hx : (match ops[r1]? with
            | none => False
            | some o => xLast le H' (fun w K => vcO P ops e' o w K) (Fin kd VV val (lastD (dn ++ [r1])))) := d
          rw [ho] at hx
          have hrun := hx.out
          rw [lastD_app] at hrun
          refine ⟨e', _, hag, hrun w b, fun v w' hvw => post v w' hvw.2 (fun _ => hvw.1.1) ⟨dn ++ [r1], [], by simp, hdr1, by simp, fun _ => ?_, fun h => absurd rfl h⟩⟩
          rw [lastD_app, setV_at]
          exact hvw.1.2
        | cons b2 rem =>
          have hx : (match ops[r1]? with
            | none => False
            | some o => xNon le H' (fun w K => vcO P ops e' o w K) fun v h => vcSeqG P ops le (b2 :: rem) (updO e' o.dst v) (fun w => H' w ∧ h w) (Fin kd VV val (lastD (dn ++ r1 :: b2 :: rem)))) := d
          rw [ho] at hx
          obtain ⟨V, hst, hrun, hnx⟩ := hx.out
          have hnd3 := hnd'.1
          rw [List.nodup_append] at hnd3
          have hrm : ∀ j ∈ b2 :: rem, j ≠ r1 := fun j hj e => (List.nodup_cons.1 hnd3.2.1).1 (e ▸ hj)
          refine ⟨e', _, hag, hrun w b, fun v w' hvw => post v w' hvw.2 (fun h => by simp at h) ⟨dn ++ [r1], b2 :: rem, by simp, hdr1, fun j hj => ?_, fun h => (by cases h), fun _ => ⟨updO e' o.dst v, fun w => H' w ∧ V v w, ?_, ⟨c _ _ b hvw.2, hvw.1⟩, fun a b h hl => ⟨c _ _ h.1 hl, hst _ _ _ h.2 hl⟩, ?_⟩⟩⟩
          · rw [hd j (hrm j hj)]; exact h2 j (List.mem_cons_of_mem _ hj)
          · have hd0 : o.dst = dstAt ops r1 := by unfold dstAt; rw [ho]; rfl
            rw [hd0]
            refine (Is.upd hdist a ?_).iff fun j => ?_
            · exact fun h => h.elim hiv hidn
            · rw [List.mem_append, List.mem_singleton]
              exact ⟨fun h => h.elim (fun h => .inr (.inr h)) fun h => h.elim .inl fun h => .inr (.inl h), fun h => h.elim (fun h => .inr (.inl h)) fun h => h.elim (fun h => .inr (.inr h)) .inl⟩
          · have hl : lastD (dn ++ r1 :: b2 :: rem) ≠ r1 := by
              rw [lastD_mid]
              exact hrm _ (lastD_mem (by simp))
            have e : Fin kd VV (setV val r1 v) (lastD (dn ++ r1 :: b2 :: rem)) = Fin kd VV val (lastD (dn ++ r1 :: b2 :: rem)) := by
              funext u w
              unfold Fin
              rw [setV_ne hl]
            rw [e]
            exact hnx v
    · have hir : i ∈ flatL rest := by
        rcases List.mem_append.1 hi' with hm | hm
        · exact absurd hm his
        · exact hm
      have hdj2 : ∀ j ∈ nextV kd s vis, j ∉ flatL rest := by
        intro j hj hm
        rcases mem_nextV.1 hj with ⟨e, _⟩ | e
        · exact hnd'.2.2 (lastD s) (lastD_mem hne) j hm e.symm
        · exact hdj' j e (List.mem_append_right _ hm)
      obtain ⟨e', Kp, h1, h2, h3⟩ := AllI.run hVV hdist ho hclash h0 hdeps hdown hea hd hdi hrest hnd'.2.1 hdj2 h.2 hir
      refine ⟨e', Kp, h1, h2, fun v w' hk => ⟨(h3 v w' hk).1, ⟨h.1.step hVV (h3 v w' hk).1 his hne (fun hv => absurd hv hiv) hd, (h3 v w' hk).2.1⟩, fun ⟨s', hs', e, hk2⟩ => ?_⟩⟩
      rcases List.mem_cons.1 hs' with e2 | e2
      · exact absurd (by rw [e, e2]; exact lastD_mem hne) his
      · exact (h3 v w' hk).2.2 ⟨s', e2, e, hk2⟩

theorem seq_G {le : World → World → Prop} {x : Value} : ∀ {s : List Nat} {e : Env} {H : World → Prop}, vcSeq P ops le s e H (fun v => v = x) → vcSeqG P ops le s e H fun v _ => v = x
  | [], _, _, h => h.elim
  | [j], e, H, h => by
    have h' : (match ops[j]? with
      | none => False
      | some o => xDet le H (fun w K => vcO P ops e o w K) fun v => v = x) := h
    show (match ops[j]? with
      | none => False
      | some o => xLast le H (fun w K => vcO P ops e o w K) fun v _ => v = x)
    cases ho : ops[j]? with
    | none => rw [ho] at h'; exact h'
    | some o =>
      rw [ho] at h'
      obtain ⟨y, h1, rfl⟩ := h'.out
      exact ⟨h1⟩
  | j :: b :: s, e, H, h => by
    have h' : (match ops[j]? with
      | none => False
      | some o => xNon le H (fun w K => vcO P ops e o w K) fun v h => vcSeq P ops le (b :: s) (updO e o.dst v) (fun w => H w ∧ h w) fun v => v = x) := h
    show (match ops[j]? with
      | none => False
      | some o => xNon le H (fun w K => vcO P ops e o w K) fun v h => vcSeqG P ops le (b :: s) (updO e o.dst v) (fun w => H w ∧ h w) fun v _ => v = x)
    cases ho : ops[j]? with
    | none => rw [ho] at h'; exact h'
    | some o =>
      rw [ho] at h'
      obtain ⟨V, h0, h1, h2⟩ := h'.out
      exact ⟨V, h0, h1, fun v => seq_G (h2 v)⟩
theorem seq_mono {le : World → World → Prop} {N N' : Value → World → Prop} (hN : ∀ v w, N v w → N' v w) :
    ∀ {s : List Nat} {e : Env} {H : World → Prop}, vcSeqG P ops le s e H N → vcSeqG P ops le s e H N'
  | [], _, _, h => h.elim
  | [j], e, H, h => by
    have h' : (match ops[j]? with
      | none => False
      | some o => xLast le H (fun w K => vcO P ops e o w K) N) := h
    show (match ops[j]? with
      | none => False
      | some o => xLast le H (fun w K => vcO P ops e o w K) N')
    cases ho : ops[j]? with
    | none => rw [ho] at h'; exact h'
    | some o =>
      rw [ho] at h'
      exact ⟨fun w hw => vcO_mono (fun v w' hk => ⟨hN _ _ hk.1, hk.2⟩) (h'.out w hw)⟩
  | j :: b :: s, e, H, h => by
    have h' : (match ops[j]? with
      | none => False
      | some o => xNon le H (fun w K => vcO P ops e o w K) fun v h => vcSeqG P ops le (b :: s) (updO e o.dst v) (fun w => H w ∧ h w) N) := h
    show (match ops[j]? with
      | none => False
      | some o => xNon le H (fun w K => vcO P ops e o w K) fun v h => vcSeqG P ops le (b :: s) (updO e o.dst v) (fun w => H w ∧ h w) N')
    cases ho : ops[j]? with
    | none => rw [ho] at h'; exact h'
    | some o =>
      rw [ho] at h'
      obtain ⟨V, h0, h1, h2⟩ := h'.out
      exact ⟨V, h0, h1, fun v => seq_mono hN (h2 v)⟩
theorem plan_item {le : World → World → Prop} {inner tail s : List Nat} {kd : List (Nat × Nat)} {rest : List (List Nat)} {e : Env} {H : World → Prop} {E : Env → World → Prop} (h : vcPlan P ops le k inner tail kd (s :: rest) e H E) :
    ∃ (x : Value) (V : Value → World → Prop) (E' : Env → World → Prop), (∀ v w w', V v w → le w w' → V v w') ∧ vcSeqG P ops le s e H (fun v w => (kindL kd (lastD s) ≠ 2 → v = x) ∧ V v w) ∧
      vcPlan P ops le k inner tail kd rest (bif Nat.beq (kindL kd (lastD s)) 2 then e else updO e (dstAt ops (lastD s)) x) H E' ∧
      ∀ u w, E u w → V (bif Nat.beq (kindL kd (lastD s)) 2 then slotV u (dstAt ops (lastD s)) else x) w → E' u w := by
  cases s with
  | nil => exact h.elim
  | cons j r =>
    have h' : (bif Nat.beq (kindL kd (lastD (j :: r))) 0 then
            (match (generalizing := false) r with
            | [] => (match ops[j]? with
              | none => False
              | some o => xDet le H (fun w K => vcO P ops e o w K) fun x => vcPlan P ops le k inner tail kd rest (updO e o.dst x) H E)
            | _ :: _ => xStr (fun N => vcSeq P ops le (j :: r) e H N) fun x => vcPlan P ops le k inner tail kd rest (updO e (dstO ops (lastD (j :: r))) x) H E)
          else bif Nat.beq (kindL kd (lastD (j :: r))) 2 then xOpn le (fun N => vcSeqG P ops le (j :: r) e H N) fun V => vcPlan P ops le k inner tail kd rest e H fun u w => E u w ∧ V (slotV u (dstO ops (lastD (j :: r)))) w
          else xStrV le (fun N => vcSeqG P ops le (j :: r) e H N) fun x V => vcPlan P ops le k inner tail kd rest (updO e (dstO ops (lastD (j :: r))) x) H fun u w => E u w ∧ V w) := h
    rw [dstO_eq] at h'
    cases h0 : Nat.beq (kindL kd (lastD (j :: r))) 0 with
    | true =>
      have hk0 := Nat.eq_of_beq_eq_true h0
      have h2 : Nat.beq (kindL kd (lastD (j :: r))) 2 = false := by rw [hk0]; rfl
      rw [h0] at h'
      simp only [cond_true] at h'
      have : ∃ x, vcSeq P ops le (j :: r) e H (fun v => v = x) ∧ vcPlan P ops le k inner tail kd rest (updO e (dstAt ops (lastD (j :: r))) x) H E := by
        cases r with
        | nil =>
          simp only at h'
          cases ho : ops[j]? with
          | none => rw [ho] at h'; exact h'.elim
          | some o =>
            rw [ho] at h'
            obtain ⟨x, h1, h2⟩ := h'.out
            have hd0 : dstAt ops (lastD [j]) = o.dst := by show dstAt ops j = _; unfold dstAt; rw [ho]; rfl
            refine ⟨x, ?_, by rw [hd0]; exact h2⟩
            show (match ops[j]? with
              | none => False
              | some o => xDet le H (fun w K => vcO P ops e o w K) fun v => v = x)
            rw [ho]
            exact ⟨x, h1, rfl⟩
        | cons b r => exact h'.out
      obtain ⟨x, h1, h3⟩ := this
      rw [h2]
      exact ⟨x, fun _ _ => True, E, fun _ _ _ _ _ => trivial, seq_mono (fun v w hv => ⟨fun _ => hv, trivial⟩) (seq_G h1), h3, fun u w hE _ => hE⟩
    | false =>
      rw [h0] at h'
      simp only [cond_false] at h'
      cases h2 : Nat.beq (kindL kd (lastD (j :: r))) 2 with
      | true =>
        have hk2 := Nat.eq_of_beq_eq_true h2
        rw [h2] at h'
        obtain ⟨V, hV, h1, h3⟩ := h'.out
        exact ⟨undef, V, _, hV, seq_mono (fun v w hv => ⟨fun hn => absurd hk2 hn, hv⟩) h1, h3, fun u w hE hv => ⟨hE, hv⟩⟩
      | false =>
        rw [h2] at h'
        obtain ⟨x, V, hV, h1, h3⟩ := h'.out
        exact ⟨x, fun _ w => V w, _, fun _ w w' => hV w w', seq_mono (fun v w hv => ⟨fun _ => hv.1, hv.2⟩) h1, h3, fun u w hE hv => ⟨hE, hv⟩⟩
theorem plan_init (hdist : ∀ i j t, dstAt ops i = some t → dstAt ops j = some t → i = j) {e0 : Env} {w : World} {inner tail : List Nat} {kd : List (Nat × Nat)} {H : World → Prop} (hw : H w) (hst : ∀ a b, H a → le a b → H b) :
    ∀ {items : List (List Nat)} {vis : List Nat} {e : Env} {E : Env → World → Prop} {val0 : Nat → Value}, ItemsOk ops (kindL kd) vis items → (flatL items).Nodup → (∀ j ∈ vis, j ∉ flatL items) → Is ops e0 e (fun l => l ∈ vis) val0 →
      vcPlan P ops le k inner tail kd items e H E → ∃ (val : Nat → Value) (VV : Nat → Value → World → Prop), (∀ j v w w', VV j v w → le w w' → VV j v w') ∧ (∀ j ∈ vis, val j = val0 j) ∧ AllI P ops le (kindL kd) VV e0 w (fun _ => false) val vis items ∧
        ∃ e' E', Is ops e0 e' (fun l => l ∈ vis ∨ ∃ s ∈ items, l = lastD s ∧ kindL kd l ≠ 2) val ∧ (xEndU E' fun u w => vcTail P ops k tail (mix inner u e') w) ∧
          ∀ u w, E u w → (∀ s ∈ items, VV (lastD s) (bif Nat.beq (kindL kd (lastD s)) 2 then slotV u (dstAt ops (lastD s)) else val (lastD s)) w) → E' u w
  | [], vis, e, E, val0, _, _, _, he, h => ⟨val0, fun _ _ _ => True, fun _ _ _ _ _ _ => trivial, fun _ _ => rfl, trivial, e, E, he.iff fun j => ⟨.inl, fun h => h.elim id fun ⟨s, hs, _⟩ => (by cases hs)⟩, h, fun _ _ hE _ => hE⟩
  | s :: rest, vis, e, E, val0, hk, hnd, hdj, he, h => by
    have hnd' : (s ++ flatL rest).Nodup := hnd
    have hdj' : ∀ j ∈ vis, j ∉ s ++ flatL rest := hdj
    obtain ⟨hne, hseq, hstr, hrest⟩ := hk
    rw [List.nodup_append] at hnd'
    obtain ⟨x, V, E1, hVs, h1, h2, hE1⟩ := plan_item h
    have hlv : lastD s ∉ vis := fun hv => hdj' _ hv (List.mem_append_left _ (lastD_mem hne))
    have hlr : lastD s ∉ flatL rest := fun hr => hnd'.2.2 (lastD s) (lastD_mem hne) _ hr rfl
    have hdj2 : ∀ j ∈ nextV (kindL kd) s vis, j ∉ flatL rest := by
      intro j hj hm
      rcases mem_nextV.1 hj with ⟨e, _⟩ | e
      · exact hlr (e ▸ hm)
      · exact hdj' j e (List.mem_append_right _ hm)
    have hIs : Is ops e0 (bif Nat.beq (kindL kd (lastD s)) 2 then e else updO e (dstAt ops (lastD s)) x) (fun l => l ∈ nextV (kindL kd) s vis) (setV val0 (lastD s) x) := by
      cases hb : Nat.beq (kindL kd (lastD s)) 2 with
      | true =>
        refine (he.val (val' := setV val0 (lastD s) x) fun j hj => setV_ne fun e => hlv (e ▸ hj)).iff fun j => ?_
        rw [mem_nextV]
        exact ⟨.inr, fun h => h.elim (fun ⟨e, hne⟩ => absurd (Nat.eq_of_beq_eq_true hb) (e ▸ hne)) id⟩
      | false =>
        refine (he.upd (j := lastD s) (v := x) hdist hlv).iff fun j => ?_
        rw [mem_nextV]
        have : kindL kd (lastD s) ≠ 2 := fun e => by rw [e] at hb; cases hb
        exact ⟨fun h => h.elim (fun e => .inl ⟨e, e ▸ this⟩) .inr, fun h => h.elim (fun h => .inl h.1) .inr⟩
    obtain ⟨val, VV, hVV, g1, g2, e', E', g3, g4, g5⟩ := plan_init hdist hw hst hrest hnd'.2.1 hdj2 hIs h2
    -- the rows behind do not speak of this one
    let val2 : Nat → Value := setV val (lastD s) x
    let VV2 : Nat → Value → World → Prop := fun j => if j = lastD s then V else VV j
    have hv2 : ∀ j, j ≠ lastD s → val2 j = val j := fun j hj => setV_ne hj
    have hVs2 : VV2 (lastD s) = V := if_pos rfl
    have hVn : ∀ j, j ≠ lastD s → VV2 j = VV j := fun j hj => if_neg hj
    have hval : ∀ j ∈ vis, val2 j = val0 j := fun j hj => by
      have hjl : j ≠ lastD s := fun e => hlv (e ▸ hj)
      rw [hv2 j hjl, g1 j (mem_nextV.2 (.inr hj))]
      exact setV_ne hjl
    have hsame : ∀ j ∈ nextV (kindL kd) s vis, val2 j = val j := fun j hj => by
      by_cases hjl : j = lastD s
      · subst hjl
        rw [g1 _ hj, setV_at]
        exact setV_at
      · exact hv2 j hjl
    have key : ∀ (items : List (List Nat)) (vis' : List Nat), (∀ s' ∈ items, s' ≠ [] → lastD s' ≠ lastD s) → (∀ j ∈ vis', val2 j = val j) → (∀ j ∈ flatL items, j ≠ lastD s) → ItemsOk ops (kindL kd) vis' items → AllI P ops le (kindL kd) VV e0 w (fun _ => false) val vis' items → AllI P ops le (kindL kd) VV2 e0 w (fun _ => false) val2 vis' items := by
      intro items
      induction items with
      | nil => intro _ _ _ _ _ _; trivial
      | cons s' items ih =>
        intro vis' hl hvs hfl hko hA
        have hl1 := hl s' (List.mem_cons_self ..) hko.1
        obtain ⟨dn, rem, rfl, a1, a2, a3, a4⟩ := hA.1
        have hfl' : ∀ j ∈ (dn ++ rem) ++ flatL items, j ≠ lastD s := hfl
        refine ⟨⟨dn, rem, rfl, a1, a2, fun hr => ?_, fun hr => ?_⟩, ih _ (fun s'' hs'' => hl s'' (List.mem_cons_of_mem _ hs'')) (fun j hj => ?_) (fun j hj => hfl' j (List.mem_append_right _ hj)) hko.2.2.2 hA.2⟩
        · rw [hVn _ hl1, hv2 _ hl1]; exact a3 hr
        · obtain ⟨e9, H9, b1, b2, b3, b4⟩ := a4 hr
          refine ⟨e9, H9, b1.val fun j hj => ?_, b2, b3, ?_⟩
          · rcases hj with hj | hj
            · exact hvs j hj
            · exact hv2 j (hfl' j (List.mem_append_left _ (List.mem_append_left _ hj)))
          · have e : Fin (kindL kd) VV2 val2 (lastD (dn ++ rem)) = Fin (kindL kd) VV val (lastD (dn ++ rem)) := by
              funext u w
              unfold Fin
              rw [hVn _ hl1, hv2 _ hl1]
            rw [e]; exact b4
        · rcases mem_nextV.1 hj with ⟨e, _⟩ | hj
          · rw [e]; exact hv2 _ hl1
          · exact hvs j hj
    have hrl : ∀ s' ∈ rest, lastD s' ≠ lastD s := fun s' hs' e => hlr (e ▸ items_last hrest s' hs')
    refine ⟨val2, VV2, fun j v a b hv hl => ?_, hval, ⟨⟨[], s, rfl, by simp, by simp, fun hn => absurd hn hne, fun _ => ⟨e, H, ?_, hw, hst, ?_⟩⟩, key rest _ (fun s' hs' _ => hrl s' hs') hsame (fun j hj e => hlr (e ▸ hj)) hrest g2⟩, e', E', (g3.val (val' := val2) fun j hj => ?_).iff fun j => ?_, g4, fun u w' hE hall => g5 u w' (hE1 u w' hE ?_) fun s' hs' => ?_⟩
    · by_cases hj : j = lastD s
      · subst hj; rw [hVs2] at hv ⊢; exact hVs _ _ _ hv hl
      · rw [hVn j hj] at hv ⊢; exact hVV _ _ _ _ hv hl
    · exact (he.val hval).iff fun j => by simp
    · have e : Fin (kindL kd) VV2 val2 (lastD s) = fun v w => (kindL kd (lastD s) ≠ 2 → v = x) ∧ V v w := by
        funext u w
        unfold Fin
        rw [hVs2, show val2 (lastD s) = x from setV_at]
      rw [e]; exact h1
    · rcases hj with hj | ⟨s', hs', e, _⟩
      · exact hsame j hj
      · rw [e]; exact hv2 _ (hrl s' hs')
    · rw [mem_nextV]
      constructor
      · rintro ((⟨h, hk2⟩ | h) | ⟨s', hs, h, hk2⟩)
        · exact .inr ⟨s, List.mem_cons_self .., h, hk2⟩
        · exact .inl h
        · exact .inr ⟨s', List.mem_cons_of_mem _ hs, h, hk2⟩
      · rintro (h | ⟨s', hs, h, hk2⟩)
        · exact .inl (.inr h)
        · rcases List.mem_cons.1 hs with e | e
          · exact .inl (.inl ⟨by rw [h, e], hk2⟩)
          · exact .inr ⟨s', e, h, hk2⟩
    · have := hall s (List.mem_cons_self ..)
      rw [hVs2, show val2 (lastD s) = x from setV_at] at this
      exact this
    · have := hall s' (List.mem_cons_of_mem _ hs')
      rw [hVn _ (hrl s' hs'), hv2 _ (hrl s' hs')] at this
      exact this

theorem ready_of {listed : Array Bool} {i : Nat} (hs : listed.size = ops.size) (hi : i < ops.size) (h0 : LL listed i = false) (hd : ∀ j, dep ops i j = true → LL listed j = true) : i ∈ Region.ready .any ops listed := by
  have ho : ops[i]? = some ops[i] := Array.getElem?_eq_getElem hi
  exact mem_ready.2 ⟨by rw [getD_true_false (by omega)]; exact h0, ops[i], ho, fun e he hb => hd e.on ((dep_edge ho).2 ⟨e, he, hb, rfl⟩)⟩
theorem ready_at {listed : Array Bool} {i : Nat} (hs : listed.size = ops.size) (hi : i ∈ Region.ready .any ops listed) : ∃ o, ops[i]? = some o ∧ i < ops.size ∧ LL listed i = false ∧ ∀ j, dep ops i j = true → LL listed j = true := by
  obtain ⟨h0, o, ho, hdeps0⟩ := mem_ready.1 hi
  have hil : i < ops.size := (Array.getElem?_eq_some_iff.1 ho).1
  rw [getD_true_false (by omega)] at h0
  refine ⟨o, ho, hil, h0, fun j hj => ?_⟩
  obtain ⟨e, he, hb, rfl⟩ := (dep_edge ho).1 hj
  exact hdeps0 e he hb
theorem ready_none {listed : Array Bool} (hs : listed.size = ops.size) (hl : left ops listed ≤ 0) : Region.ready .any ops listed = [] := by
  cases hr : Region.ready .any ops listed with
  | nil => rfl
  | cons i l =>
    exfalso
    obtain ⟨o, ho, hil, h0, _⟩ := ready_at hs (i := i) (by rw [hr]; exact List.mem_cons_self ..)
    have := left_set hs hil h0
    omega
theorem split_first {q : Nat → Bool} : ∀ {l : List Nat}, (¬ ∀ j ∈ l, q j = true) → ∃ A i B, l = A ++ i :: B ∧ (∀ j ∈ A, q j = true) ∧ q i = false
  | [], h => absurd (by simp) h
  | i :: l, h => by
    cases hi : q i with
    | false => exact ⟨[], i, l, rfl, by simp, hi⟩
    | true =>
      obtain ⟨A, j, B, e, h1, h2⟩ := split_first (l := l) (q := q) fun hl => h fun j hj => by
        rcases List.mem_cons.1 hj with e | e
        · rw [e]; exact hi
        · exact hl j e
      exact ⟨i :: A, j, B, by rw [e]; rfl, fun x hx => by
        rcases List.mem_cons.1 hx with e | e
        · rw [e]; exact hi
        · exact h1 x e, h2⟩
theorem split_last {q : Nat → Bool} {l : List Nat} (h : ¬ ∀ j ∈ l, q j = true) : ∃ A i B, l = A ++ i :: B ∧ (∀ j ∈ B, q j = true) ∧ q i = false := by
  obtain ⟨A, i, B, e, h1, h2⟩ := split_first (l := l.reverse) (q := q) fun hl => h fun j hj => hl j (by simpa using hj)
  refine ⟨B.reverse, i, A.reverse, ?_, fun j hj => h1 j (by simpa using hj), h2⟩
  have := congrArg List.reverse e
  simpa using this

theorem tail_any {p : Plan} (hok : okOps n ops = true) (hp : PlanOk ops p) (D : List Nat) (e1 : Env) (hD : ∀ o ∈ ops.toList, ∀ t, o.dst = some t → t ∈ D) :
    ∀ (fuel : Nat) (listed : Array Bool) (a : Act) (w : World) (td tr : List Nat), p.tail = td ++ tr → (∀ j ∈ flatL p.items, LL listed j = true) → (∀ j ∈ td, LL listed j = true) → (∀ j ∈ tr, LL listed j = false) →
      a.tmps.size = n → a.defers = [] → (∀ t, t ∉ D → envOf a t = e1 t) → vcTail P ops k tr (envOf a) w → listed.size = ops.size → left ops listed ≤ fuel →
      wpAny P .any ops (fun x a' w' => x = .normal ∧ a'.tmps.size = n ∧ a'.defers = [] ∧ (∀ t, t ∉ D → envOf a' t = e1 t) ∧ k (envOf a') w') fuel listed a w := by
  have hok' := okOps_spec hok
  have hlt : ∀ (i : Nat) (o : Oper), ops[i]? = some o → ∀ t, o.dst = some t → t < n := fun i o hi t ht => hok'.2 o (by simpa using Array.mem_of_getElem? hi) t ht
  have fin : ∀ (listed : Array Bool) (a : Act) (w : World) (td tr : List Nat), p.tail = td ++ tr → (∀ j ∈ flatL p.items, LL listed j = true) → (∀ j ∈ td, LL listed j = true) → (∀ j ∈ tr, LL listed j = false) →
      vcTail P ops k tr (envOf a) w → listed.size = ops.size → Region.ready .any ops listed = [] → k (envOf a) w := by
    intro listed a w td tr htl hfl htd htr hv hs hr
    cases tr with
    | nil => exact hv
    | cons t1 r =>
      exfalso
      have : t1 ∈ Region.ready .any ops listed := ready_of hs (hp.lt t1 (by rw [htl]; simp)) (htr t1 (List.mem_cons_self ..)) fun j hj => by
        have := hp.topo (flatL p.items ++ td) t1 r (by rw [htl, List.append_assoc]) j hj
        rcases List.mem_append.1 this with h | h
        · exact hfl j h
        · exact htd j h
      rw [hr] at this
      cases this
  intro fuel
  induction fuel with
  | zero =>
    intro listed a w td tr htl hfl htd htr hn hd he hv hs hleft
    have hr := ready_none hs hleft
    exact ⟨hr, rfl, hn, hd, he, fin listed a w td tr htl hfl htd htr hv hs hr⟩
  | succ fuel ih =>
    intro listed a w td tr htl hfl htd htr hn hd he hv hs hleft
    refine ⟨fun hr => ⟨rfl, hn, hd, he, fin listed a w td tr htl hfl htd htr hv hs hr⟩, fun i hi => ?_⟩
    obtain ⟨o, ho, hil, h0, hdeps⟩ := ready_at hs hi
    have hL' := LL_set (listed := listed) (i := i) (by omega)
    have hLmono : ∀ j, LL listed j = true → LL (listed.setIfInBounds i true) j = true := fun j hj => by rw [hL' j, hj]; rfl
    have hLi : LL (listed.setIfInBounds i true) i = true := by rw [hL' i, Nat.beq_refl]; simp
    have hLne : ∀ j, j ≠ i → LL (listed.setIfInBounds i true) j = LL listed j := fun j hj => by
      rw [hL' j]
      have : Nat.beq j i = false := by rw [Bool.eq_false_iff]; exact fun hb => hj (Nat.eq_of_beq_eq_true hb)
      rw [this, Bool.or_false]
    have hir : i ∈ tr := by
      have := hp.all i hil
      rw [htl] at this
      rcases List.mem_append.1 this with h | h
      · rw [hfl i h] at h0; cases h0
      · rcases List.mem_append.1 h with h | h
        · rw [htd i h] at h0; cases h0
        · exact h
    cases tr with
    | nil => cases hir
    | cons t1 r =>
      have ht1 : t1 = i := by
        by_cases hx : t1 = i
        · exact hx
        · exfalso
          rcases List.mem_cons.1 hir with e | e
          · exact hx e.symm
          · have hq := hp.tail
            rw [htl] at hq
            obtain ⟨prev', hs'⟩ := SeqDep.drop hq
            obtain ⟨q, hq', hd'⟩ := SeqDep.pred hs' e
            have := hdeps q hd'
            rw [htr q hq'] at this
            cases this
      subst ht1
      have hx : (match ops[t1]? with
        | none => False
        | some o => vcO P ops (envOf a) o w fun v w => vcTail P ops k r (updO (envOf a) o.dst v) w) := hv
      rw [ho] at hx
      have hnr : t1 ∉ r := by
        have := hp.nodup
        rw [htl, List.nodup_append] at this
        have h2 := this.2.1
        rw [List.nodup_append] at h2
        exact (List.nodup_cons.1 h2.2.1).1
      have hlefts := left_set hs hil h0
      refine vcO_wpOp (N := wpAny P .any ops _ fuel (listed.setIfInBounds t1 true)) ho (fun cs b => Region.noSelect_spec hok'.1 t1 o cs b ho) (fun _ _ => rfl) hx fun v w' hk => ?_
      have henv : envOf (a.put o.dst v) = updO (envOf a) o.dst v := envOf_put _ _ _ (fun t h => by rw [hn]; exact hlt t1 o ho t h)
      refine ih (listed.setIfInBounds t1 true) _ w' (td ++ [t1]) r (by rw [htl]; simp) (fun j hj => hLmono j (hfl j hj)) (fun j hj => ?_) (fun j hj => ?_) (by rw [put_size]; exact hn) (by rw [put_defers0]; exact hd) (fun t ht => ?_)
        (by rw [henv]; exact hk) (by simp [hs]) (by omega)
      · rcases List.mem_append.1 hj with h | h
        · exact hLmono j (htd j h)
        · simp at h; rw [h]; exact hLi
      · rw [hLne j fun e => hnr (e ▸ hj)]; exact htr j (List.mem_cons_of_mem _ hj)
      · rw [henv, updO_other _ _ _ _ (fun e => ht (hD o (by simpa using Array.mem_of_getElem? ho) t e))]
        exact he t ht

theorem plan_any {p : Plan} (hok : okOps n ops = true) (hp : PlanOk ops p) (D : List Nat) (e1 e0 : Env) (hD : ∀ o ∈ ops.toList, ∀ t, o.dst = some t → t ∈ D) (he0 : ∀ t, t ∉ D → e0 t = e1 t)
    {H : World → Prop} (hst : ∀ a b, H a → le a b → H b) {VV : Nat → Value → World → Prop} (hVV : ∀ j v w w', VV j v w → le w w' → VV j v w') :
    ∀ (fuel : Nat) (listed : Array Bool) (a : Act) (w : World) (val : Nat → Value), AllI P ops le (kindL p.kinds) VV e0 w (LL listed) val [] p.items → H w → Is ops e0 (envOf a) (fun j => LL listed j = true) val →
      (∃ e' E', Is ops e0 e' (fun l => ∃ s ∈ p.items, l = lastD s ∧ kindL p.kinds l ≠ 2) val ∧ (xEndU E' fun u w => vcTail P ops k p.tail (mix p.inner u e') w) ∧
        ∀ u w, H w → (∀ s ∈ p.items, VV (lastD s) (bif Nat.beq (kindL p.kinds (lastD s)) 2 then slotV u (dstAt ops (lastD s)) else val (lastD s)) w) → E' u w) → (∀ j ∈ p.tail, LL listed j = false) →
      (∀ i, LL listed i = true → ∀ j, dep ops i j = true → LL listed j = true) → a.tmps.size = n → a.defers = [] → listed.size = ops.size → left ops listed ≤ fuel →
      wpAny P .any ops (fun x a' w' => x = .normal ∧ a'.tmps.size = n ∧ a'.defers = [] ∧ (∀ t, t ∉ D → envOf a' t = e1 t) ∧ k (envOf a') w') fuel listed a w := by
  have hok' := okOps_spec hok
  have hlt : ∀ (i : Nat) (o : Oper), ops[i]? = some o → ∀ t, o.dst = some t → t < n := fun i o hi t ht => hok'.2 o (by simpa using Array.mem_of_getElem? hi) t ht
  have hndf : (flatL p.items).Nodup := by have := hp.nodup; rw [List.nodup_append] at this; exact this.1
  have hdisj : ∀ j ∈ flatL p.items, j ∉ p.tail := fun j hj ht => by have := hp.nodup; rw [List.nodup_append] at this; exact this.2.2 j hj j ht rfl
  have hlast : ∀ s ∈ p.items, lastD s ∈ flatL p.items := items_last hp.items
  have hmemI : ∀ j ∈ flatL p.items, ∃ s ∈ p.items, j ∈ s := by
    have : ∀ (items : List (List Nat)), ∀ j ∈ flatL items, ∃ s ∈ items, j ∈ s := by
      intro items
      induction items with
      | nil => intro j hj; cases hj
      | cons s items ih =>
        intro j hj
        have hj' : j ∈ s ++ flatL items := hj
        rcases List.mem_append.1 hj' with h | h
        · exact ⟨s, List.mem_cons_self .., h⟩
        · obtain ⟨s', h1, h2⟩ := ih j h; exact ⟨s', List.mem_cons_of_mem _ h1, h2⟩
    exact this _
  have conv : ∀ (fuel : Nat) (listed : Array Bool) (a : Act) (w : World) (val : Nat → Value), AllI P ops le (kindL p.kinds) VV e0 w (LL listed) val [] p.items → (∀ j ∈ flatL p.items, LL listed j = true) → H w → Is ops e0 (envOf a) (fun j => LL listed j = true) val →
      (∃ e' E', Is ops e0 e' (fun l => ∃ s ∈ p.items, l = lastD s ∧ kindL p.kinds l ≠ 2) val ∧ (xEndU E' fun u w => vcTail P ops k p.tail (mix p.inner u e') w) ∧
        ∀ u w, H w → (∀ s ∈ p.items, VV (lastD s) (bif Nat.beq (kindL p.kinds (lastD s)) 2 then slotV u (dstAt ops (lastD s)) else val (lastD s)) w) → E' u w) → (∀ j ∈ p.tail, LL listed j = false) →
      a.tmps.size = n → a.defers = [] → listed.size = ops.size → left ops listed ≤ fuel →
      wpAny P .any ops (fun x a' w' => x = .normal ∧ a'.tmps.size = n ∧ a'.defers = [] ∧ (∀ t, t ∉ D → envOf a' t = e1 t) ∧ k (envOf a') w') fuel listed a w := by
    intro fuel listed a w val hI hall hw hea hend htl hn hd hs hleft
    obtain ⟨e', E', g3, g4, g5⟩ := hend
    have hdl : ∀ {j t : Nat}, dstAt ops j = some t → j < ops.size := fun {j t} hd => by
      rcases Nat.lt_or_ge j ops.size with h | h
      · exact h
      · exfalso; unfold dstAt at hd; rw [Array.getElem?_eq_none h] at hd; cases hd
    have hmix : mix p.inner (envOf a) e' = envOf a := by
      funext t
      unfold mix
      cases hc : p.inner.contains t with
      | true => rfl
      | false =>
        show e' t = envOf a t
        refine Is.agree g3 hea fun j hj => ⟨fun ⟨s, hs, e, _⟩ => by rw [e]; exact hall _ (hlast s hs), fun hl => ?_⟩
        have hjf : j ∈ flatL p.items := by
          rcases List.mem_append.1 (hp.all j (hdl hj)) with h | h
          · exact h
          · rw [htl j h] at hl; cases hl
        obtain ⟨s, hs, hjs⟩ := hmemI j hjf
        by_cases he : j = lastD s ∧ kindL p.kinds j ≠ 2
        · exact ⟨s, hs, he⟩
        · have he' : j ≠ lastD s ∨ kindL p.kinds j = 2 := by
            by_cases h1 : j = lastD s
            · by_cases h2 : kindL p.kinds j = 2
              · exact .inr h2
              · exact absurd ⟨h1, h2⟩ he
            · exact .inl h1
          have := hp.inn s hs j hjs he' t hj
          rw [hc] at this
          cases this
    have hlastV : ∀ (items : List (List Nat)) (vis : List Nat), (∀ s ∈ items, s ≠ [] → kindL p.kinds (lastD s) = 2 → ∃ t, dstAt ops (lastD s) = some t) → (∀ j ∈ flatL items, LL listed j = true) → ItemsOk ops (kindL p.kinds) vis items → AllI P ops le (kindL p.kinds) VV e0 w (LL listed) val vis items →
        ∀ s ∈ items, VV (lastD s) (bif Nat.beq (kindL p.kinds (lastD s)) 2 then slotV (envOf a) (dstAt ops (lastD s)) else val (lastD s)) w := by
      intro items
      induction items with
      | nil => intro _ _ _ _ _ s hs; cases hs
      | cons s items ih =>
        intro vis ho2 hal hko hA s' hs'
        have hal' : ∀ j ∈ s ++ flatL items, LL listed j = true := hal
        rcases List.mem_cons.1 hs' with e | e
        · subst e
          obtain ⟨dn, rem, rfl, a1, a2, a3, _⟩ := hA.1
          have hrem : rem = [] := by
            cases rem with
            | nil => rfl
            | cons x rem =>
              have h1 := a2 x (List.mem_cons_self ..)
              rw [hal' x (List.mem_append_left _ (by simp))] at h1
              cases h1
          have hv := a3 hrem
          cases hb : Nat.beq (kindL p.kinds (lastD (dn ++ rem))) 2 with
          | false => exact hv
          | true =>
            obtain ⟨t, ht⟩ := ho2 _ (List.mem_cons_self ..) hko.1 (Nat.eq_of_beq_eq_true hb)
            rw [ht]
            show VV _ (envOf a t) w
            rw [(hea t).1 _ (hal' _ (List.mem_append_left _ (lastD_mem hko.1))) ht]
            exact hv
        · exact ih _ (fun s'' hs'' => ho2 s'' (List.mem_cons_of_mem _ hs'')) (fun j hj => hal' j (List.mem_append_right _ hj)) hko.2.2.2 hA.2 s' e
    have hv := g4.out (envOf a) w (g5 _ _ hw (hlastV p.items [] hp.open2 hall hp.items hI))
    rw [hmix] at hv
    refine tail_any hok hp D e1 hD fuel listed a w [] p.tail rfl hall (by simp) htl hn hd (fun t ht => ?_) hv hs hleft
    rw [← he0 t ht]
    refine (hea t).2 fun j _ hj => ht ?_
    unfold dstAt at hj
    cases ho : ops[j]? with
    | none => rw [ho] at hj; simp at hj
    | some o => rw [ho] at hj; simp at hj; exact hD o (by simpa using Array.mem_of_getElem? ho) t hj
  intro fuel
  induction fuel with
  | zero =>
    intro listed a w val hI hw hea hend htl hdown hn hd hs hleft
    by_cases hall : ∀ j ∈ flatL p.items, LL listed j = true
    · exact conv 0 listed a w val hI hall hw hea hend htl hn hd hs hleft
    · exfalso
      obtain ⟨A, i, B, e, h1, h2⟩ := split_first hall
      have := ready_of hs (hp.lt i (by rw [e]; simp)) h2 fun j hj => h1 j (hp.topo A i (B ++ p.tail) (by rw [e]; simp) j hj)
      rw [ready_none hs hleft] at this
      cases this
  | succ fuel ih =>
    intro listed a w val hI hw hea hend htl hdown hn hd hs hleft
    by_cases hall : ∀ j ∈ flatL p.items, LL listed j = true
    · exact conv (fuel + 1) listed a w val hI hall hw hea hend htl hn hd hs hleft
    · refine ⟨fun hr => ?_, fun i hi => ?_⟩
      · exfalso
        obtain ⟨A, i, B, e, h1, h2⟩ := split_first hall
        have := ready_of hs (hp.lt i (by rw [e]; simp)) h2 fun j hj => h1 j (hp.topo A i (B ++ p.tail) (by rw [e]; simp) j hj)
        rw [hr] at this
        cases this
      obtain ⟨o, ho, hil, h0, hdeps⟩ := ready_at hs hi
      have hL' := LL_set (listed := listed) (i := i) (by omega)
      have hLmono : ∀ j, LL listed j = true → LL (listed.setIfInBounds i true) j = true := fun j hj => by rw [hL' j, hj]; rfl
      have hLi : LL (listed.setIfInBounds i true) i = true := by rw [hL' i, Nat.beq_refl]; simp
      have hLne : ∀ j, j ≠ i → LL (listed.setIfInBounds i true) j = LL listed j := fun j hj => by
        rw [hL' j]
        have : Nat.beq j i = false := by rw [Bool.eq_false_iff]; exact fun hb => hj (Nat.eq_of_beq_eq_true hb)
        rw [this, Bool.or_false]
      have hif : i ∈ flatL p.items := by
        rcases List.mem_append.1 (hp.all i hil) with h | h
        · exact h
        · exfalso
          -- it stands at the head of the tail, so all others have run
          cases ht : p.tail with
          | nil => rw [ht] at h; cases h
          | cons t1 r =>
            have ht1 : t1 = i := by
              by_cases hx : t1 = i
              · exact hx
              · exfalso
                rw [ht] at h
                rcases List.mem_cons.1 h with e | e
                · exact hx e.symm
                · have hq := hp.tail
                  rw [ht] at hq
                  obtain ⟨q, hq', hd'⟩ := SeqDep.pred hq e
                  have := hdeps q hd'
                  rw [htl q (by rw [ht]; exact hq')] at this
                  cases this
            subst ht1
            obtain ⟨A, j, B, e, h1, h2⟩ := split_last hall
            rcases hp.sink j (by rw [e]; simp) with ⟨l, hl, hdl⟩ | hx
            · have hlB : l ∈ B := by
                obtain ⟨A', B', e'⟩ := List.append_of_mem hl
                have hjA := hp.topo A' l (B' ++ p.tail) (by rw [e']; simp) j hdl
                have hnd := hndf
                rw [e] at hl hnd
                rcases List.mem_append.1 hl with h | h
                · -- l stands ahead of j, and j ahead of l
                  exfalso
                  obtain ⟨A2, A3, e3⟩ := List.append_of_mem h
                  have hjA2 := hp.topo A2 l (A3 ++ (j :: B ++ p.tail)) (by rw [e, e3]; simp) j hdl
                  rw [List.nodup_append] at hnd
                  exact hnd.2.2 j (by rw [e3]; exact List.mem_append_left _ hjA2) j (List.mem_cons_self ..) rfl
                · rcases List.mem_cons.1 h with h | h
                  · exfalso
                    subst h
                    have hjA2 := hp.topo A l (B ++ p.tail) (by rw [e]; simp) l hdl
                    rw [List.nodup_append] at hnd
                    exact hnd.2.2 l hjA2 l (List.mem_cons_self ..) rfl
                  · exact h
              have := hdown l (h1 l hlB) j hdl
              rw [h2] at this
              cases this
            · have := hdeps j (hx t1 r ht)
              rw [h2] at this
              cases this
      have hdown' : ∀ l, LL (listed.setIfInBounds i true) l = true → ∀ j, dep ops l j = true → LL (listed.setIfInBounds i true) j = true := by
        intro l hl j hj
        by_cases hli : l = i
        · subst hli; exact hLmono j (hdeps j hj)
        · rw [hLne l hli] at hl; exact hLmono j (hdown l hl j hj)
      have hlefts := left_set hs hil h0
      obtain ⟨e', Kp, hag, hrun, hpost⟩ := AllI.run hVV hp.dist ho hp.clash h0 hdeps hdown hea hLne hLi hp.items hndf (by simp) hI hif
      refine vcO_wpOp (N := wpAny P .any ops _ fuel (listed.setIfInBounds i true)) ho (fun cs b => Region.noSelect_spec hok'.1 i o cs b ho) hag hrun fun v w' hk => ?_
      obtain ⟨hle, hI', hexp⟩ := hpost v w' hk
      have hd0 : o.dst = dstAt ops i := by unfold dstAt; rw [ho]; rfl
      have henv : envOf (a.put o.dst v) = updO (envOf a) (dstAt ops i) v := by rw [← hd0]; exact envOf_put _ _ _ (fun t h => by rw [hn]; exact hlt i o ho t h)
      refine ih (listed.setIfInBounds i true) _ w' (setV val i v) hI' (hst _ _ hw hle) ?_ ?_ (fun j hj => ?_) hdown' (by rw [put_size]; exact hn) (by rw [put_defers0]; exact hd) (by simp [hs]) (by omega)
      · rw [henv]
        refine (Is.upd hp.dist hea (by rw [h0]; simp)).iff fun j => ?_
        by_cases hji : j = i
        · subst hji; exact ⟨fun _ => hLi, fun _ => .inl rfl⟩
        · rw [hLne j hji]; exact ⟨fun h => h.elim (fun e => absurd e hji) id, .inr⟩
      · obtain ⟨e', E', g3, g4, g5⟩ := hend
        refine ⟨e', E', g3.val fun j hj => ?_, g4, fun u w2 hw2 hall2 => g5 u w2 hw2 fun s hs => ?_⟩
        · by_cases hji : j = i
          · subst hji
            rw [setV_at]
            exact hexp hj
          · exact setV_ne hji
        · have h1 := hall2 s hs
          cases hb : Nat.beq (kindL p.kinds (lastD s)) 2 with
          | true => rw [hb] at h1; exact h1
          | false =>
            rw [hb] at h1
            by_cases hji : lastD s = i
            · have hk2 : kindL p.kinds i ≠ 2 := fun e => by rw [hji, e] at hb; cases hb
              have := hexp ⟨s, hs, hji.symm, hk2⟩
              have h2 : setV val i v (lastD s) = val (lastD s) := by rw [hji, setV_at, this]
              have h1 : VV (lastD s) (setV val i v (lastD s)) w2 := h1
              rw [h2] at h1
              exact h1
            · have h1 : VV (lastD s) (setV val i v (lastD s)) w2 := h1
              rw [setV_ne hji] at h1
              exact h1
      · rw [hLne j fun e => hdisj i hif (e ▸ hj)]; exact htl j hj

theorem plan_sound (hm : P.follows .mixedOrders = true) {id : Nat} {t : Told} {p : Plan} (hok : okOps n ops = true) (ht : okTold ops t = true) (hp : okPlan t p = true) (D : List Nat) (hD : ∀ o ∈ ops.toList, ∀ t, o.dst = some t → t ∈ D)
    {a : Act} {w : World} (hn : a.tmps.size = n) (hd : a.defers = []) (h : xDraw w.drew fun le H => vcPlan P ops le k p.inner p.tail p.kinds p.items (envOf a) H fun _ w => H w) :
    (Code.region id ops true).wp P (fun x a' w' => x = .normal ∧ a'.tmps.size = n ∧ a'.defers = [] ∧ (∀ t, t ∉ D → envOf a' t = envOf a t) ∧ k (envOf a') w') a w := by
  obtain ⟨le, hrefl, htrans, hc⟩ := h.out
  have hP := planOk_of ht hp
  have hLL : LL (Array.replicate ops.size false) = fun _ => false := by
    funext i
    unfold LL
    by_cases hi : i < ops.size <;> simp [hi]
  refine wp_region_any hm ?_
  have hndf : (flatL p.items).Nodup := by have := hP.nodup; rw [List.nodup_append] at this; exact this.1
  obtain ⟨val, VV, hVV, _, h2, e', E', h3, h4, h5⟩ := plan_init (e0 := envOf a) (w := w.drew) (H := le w.drew) hP.dist (hrefl _) (fun _ _ h h' => htrans _ _ _ h h') (val0 := fun _ => undef) hP.items hndf (by simp) (fun t => ⟨fun j hj => (by cases hj), fun _ => rfl⟩) hc
  refine plan_any hok hP D (envOf a) (envOf a) hD (fun _ _ => rfl) (H := le w.drew) (fun _ _ h h' => htrans _ _ _ h h') hVV ops.size _ a w.drew val (by rw [hLL]; exact h2) (hrefl _) ?_ ⟨e', E', h3.iff fun j => by simp, h4, h5⟩ (fun j _ => by rw [hLL]) (fun i hi => ?_) hn hd (by simp) ?_
  · intro t
    exact ⟨fun j hj => (by rw [hLL] at hj; cases hj), fun _ => rfl⟩
  · rw [hLL] at hi; cases hi
  · unfold left
    exact Nat.le_trans (List.length_filter_le ..) (by simp)
end
end Go.Sh
