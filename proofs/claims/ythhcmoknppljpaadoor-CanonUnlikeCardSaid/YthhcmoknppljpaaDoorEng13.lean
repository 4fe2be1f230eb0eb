/- A region whose order is open, read one operation behind the other: readers as early as may be, and again behind what they need not come ahead of. -/
import Derived.Test.YthhcmoknppljpaaDoorEng12
set_option linter.unusedVariables false
set_option linter.unusedSimpArgs false
namespace Go.Sh
noncomputable section

/-! ### what is checked, for the kernel -/
def subM (a b : Nat) : Bool := Nat.beq (Nat.lor a b) b
def orIf (d : Nat) (acc : List (Nat × Nat)) : Nat := List.rec (motive := fun _ => Nat) 0 (fun q _ ih => bif hasBit d q.1 then Nat.lor q.2 ih else ih) acc
def ancT (t : Told) : List (Nat × Nat) → List (Nat × Nat) :=
  List.rec (motive := fun _ => List (Nat × Nat) → List (Nat × Nat)) (fun acc => acc) (fun p _ ih acc => ih ((p.1, Nat.lor p.2.2.dep (orIf p.2.2.dep acc)) :: acc)) t
def ancM (l : List (Nat × Nat)) (i : Nat) : Nat := List.rec (motive := fun _ => Nat) 0 (fun q _ ih => bif Nat.beq q.1 i then q.2 else ih) l
def readyAll (t : Told) (seen heads : Nat) : Bool := allL (fun p => bif hasBit seen p.1 then true else bif subM p.2.2.dep seen then hasBit heads p.1 else true) t
def hdM (s : Sq) : Nat := Sq.rec (motive := fun _ => Nat) 0 (fun _ _ _ _ => 0) (fun i _ _ _ => Nat.pow 2 i) (fun _ _ a b => Nat.lor a b) s
def guardTmps (ops : Array Oper) (o : Oper) : List Nat := match o.guard with
  | some (g, _) => (match ops.toList[g]? with | some p => (match p.dst with | some d => [d] | none => []) | none => [])
  | none => []
/-- an operation that has a slot of its own and does not look at it -/
def selfB (ops : Array Oper) (i : Nat) : Bool := match ops.toList[i]? with
  | some o => (match o.dst with | some d => bif noSel o.op then (bif bitL (opTmps o.op ++ guardTmps ops o) d then false else true) else false | none => false)
  | none => false
def okSq (ops : Array Oper) (t0 : Told) (an : List (Nat × Nat)) (full : Nat) (s : Sq) : Nat → Nat → Nat → Bool :=
  Sq.rec (motive := fun _ => Nat → Nat → Nat → Bool) (fun seen _ _ => Nat.beq seen full)
    (fun p i _ ih seen rs h => bif Nat.beq h 0 then bif hasBit seen i then false else (match rowsL t0 i with
      | none => false
      | some r => bif subM r.dep seen then bif seesB t0 seen i r then ih (Nat.lor (Nat.pow 2 i) seen) (bif p then rs else Nat.lor (Nat.pow 2 i) rs) 0 else false else false) else false)
    (fun i re _ ih seen rs h => bif hasBit seen i then false else (match rowsL t0 i with
      | none => false
      | some r => bif subM r.dep seen then bif seesB t0 seen i r then bif readyAll t0 seen (Nat.lor h (Nat.pow 2 i)) then bif subM rs (Nat.lor (bitsOf re) (ancM an i)) then
          bif allL (fun j => bif selfB ops j then (match rowsL t0 j with | some r => seesB t0 (Nat.lor (Nat.pow 2 i) seen) j r | none => false) else false) re then
            ih (Nat.lor (Nat.pow 2 i) seen) (Nat.xor rs (Nat.land rs (ancM an i))) 0 else false else false else false else false else false))
    (fun a b iha ihb seen rs h => bif iha seen rs (Nat.lor h (hdM b)) then ihb seen rs (Nat.lor h (hdM a)) else false) s
def okSqAll (n : Nat) (ops : Array Oper) (t : Told) (s : Sq) : Bool :=
  bif okOps n ops then bif okTold ops t then bif distB t then okSq ops t (ancT t []) (Nat.pow 2 ops.toList.length - 1) s 0 0 0 else false else false else false

variable {P : Program} {ops : Array Oper} {n : Nat} {k : Env → World → Prop}

theorem subM_iff {a b : Nat} : subM a b = true ↔ ∀ j, hasBit a j = true → hasBit b j = true := by
  unfold subM
  constructor
  · intro h j hj
    have e : a ||| b = b := Nat.eq_of_beq_eq_true h
    rw [hasBit_testBit] at *
    rw [← e, Nat.testBit_or, hj]; rfl
  · intro h
    have e : a ||| b = b := by
      apply Nat.eq_of_testBit_eq
      intro j
      have := h j
      rw [hasBit_testBit, hasBit_testBit] at this
      rw [Nat.testBit_or]
      cases ha : a.testBit j with
      | false => rfl
      | true => rw [this ha]; rfl
    show Nat.beq (a ||| b) b = true
    rw [e]; exact Nat.beq_refl b
theorem hasBit_lor {a b j : Nat} : hasBit (Nat.lor a b) j = true ↔ hasBit a j = true ∨ hasBit b j = true := by
  rw [hasBit_testBit, hasBit_testBit, hasBit_testBit]
  show (a ||| b).testBit j = true ↔ _
  rw [Nat.testBit_or, Bool.or_eq_true]
theorem hasBit_pow {i j : Nat} : hasBit (Nat.pow 2 i) j = true ↔ j = i := by
  rw [hasBit_testBit]
  show (2 ^ i).testBit j = true ↔ _
  rw [Nat.testBit_two_pow]
  simp only [decide_eq_true_eq]
  exact ⟨Eq.symm, Eq.symm⟩
theorem hasBit_zero {j : Nat} : hasBit 0 j = false := by rw [hasBit_testBit]; simp
theorem hasBit_rest {a b j : Nat} (h : hasBit a j = true) (h2 : ¬ hasBit b j = true) : hasBit (Nat.xor a (Nat.land a b)) j = true := by
  rw [hasBit_testBit] at *
  show (a ^^^ (a &&& b)).testBit j = true
  rw [Nat.testBit_xor, Nat.testBit_and, h]
  cases hb : b.testBit j with
  | true => exact absurd hb h2
  | false => rfl

/-- what must have run ahead of an operation -/
def Anc (ops : Array Oper) (i j : Nat) : Prop := ∀ L : Nat → Bool, (∀ x, L x = true → ∀ y, dep ops x y = true → L y = true) → (∀ y, dep ops i y = true → L y = true) → L j = true
theorem orIf_bit {d j : Nat} : ∀ {acc : List (Nat × Nat)}, hasBit (orIf d acc) j = true → ∃ q ∈ acc, hasBit d q.1 = true ∧ hasBit q.2 j = true
  | [], h => by
    have : hasBit 0 j = true := h
    rw [hasBit_zero] at this; cases this
  | q :: acc, h => by
    have h' : hasBit (bif hasBit d q.1 then Nat.lor q.2 (orIf d acc) else orIf d acc) j = true := h
    cases hd : hasBit d q.1 with
    | false =>
      rw [hd] at h'
      obtain ⟨q', h1, h2⟩ := orIf_bit (acc := acc) h'
      exact ⟨q', List.mem_cons_of_mem _ h1, h2⟩
    | true =>
      rw [hd] at h'
      rcases hasBit_lor.1 h' with h1 | h1
      · exact ⟨q, List.mem_cons_self .., hd, h1⟩
      · obtain ⟨q', h1, h2⟩ := orIf_bit (acc := acc) h1
        exact ⟨q', List.mem_cons_of_mem _ h1, h2⟩
theorem ancT_anc : ∀ {t : Told} (hrow : ∀ p ∈ t, rowOf ops p.1 = some p.2.2) {acc : List (Nat × Nat)}, (∀ q ∈ acc, ∀ j, hasBit q.2 j = true → Anc ops q.1 j) → ∀ q ∈ ancT t acc, ∀ j, hasBit q.2 j = true → Anc ops q.1 j
  | [], _, _, ha => ha
  | p :: t, hrow, acc, ha => by
    refine ancT_anc (t := t) (fun q hq => hrow q (List.mem_cons_of_mem _ hq)) (acc := (p.1, Nat.lor p.2.2.dep (orIf p.2.2.dep acc)) :: acc) ?_
    intro q hq j hj
    have hr := hrow p (List.mem_cons_self ..)
    rcases List.mem_cons.1 hq with e | e
    · subst e
      rcases hasBit_lor.1 hj with h | h
      · exact fun L _ hd => hd j ((rowOf_dep hr).1 h)
      · obtain ⟨q', h1, h2, h3⟩ := orIf_bit h
        intro L hdown hd
        exact ha q' h1 j h3 L hdown fun y hy => hdown _ (hd _ ((rowOf_dep hr).1 h2)) y hy
    · exact ha q e j hj
theorem ancM_anc {i j : Nat} : ∀ {l : List (Nat × Nat)}, (∀ q ∈ l, ∀ j, hasBit q.2 j = true → Anc ops q.1 j) → hasBit (ancM l i) j = true → Anc ops i j
  | [], _, h => by
    have : hasBit 0 j = true := h
    rw [hasBit_zero] at this; cases this
  | q :: l, ha, h => by
    have h' : hasBit (bif Nat.beq q.1 i then q.2 else ancM l i) j = true := h
    cases hb : Nat.beq q.1 i with
    | true =>
      rw [hb] at h'
      rw [← Nat.eq_of_beq_eq_true hb]
      exact ha q (List.mem_cons_self ..) j h'
    | false =>
      rw [hb] at h'
      exact ancM_anc (l := l) (fun q hq => ha q (List.mem_cons_of_mem _ hq)) h'
theorem selfB_spec {i : Nat} (h : selfB ops i = true) : ∃ o d, ops[i]? = some o ∧ dstAt ops i = some d ∧ d ∉ o.looksAt ops := by
  unfold selfB at h
  rw [Array.getElem?_toList] at h
  cases ho : ops[i]? with
  | none => rw [ho] at h; cases h
  | some o =>
    rw [ho] at h
    cases hd : o.dst with
    | none => simp only [hd] at h; cases h
    | some d =>
      simp only [hd] at h
      cases hn : noSel o.op with
      | false => rw [hn] at h; cases h
      | true =>
        rw [hn] at h
        simp only [cond_true] at h
        cases hb : bitL (opTmps o.op ++ guardTmps ops o) d with
        | true => rw [hb] at h; cases h
        | false =>
          refine ⟨o, d, rfl, by unfold dstAt; rw [ho]; exact hd, fun hm => ?_⟩
          have : ¬ d ∈ opTmps o.op ++ guardTmps ops o := fun hm => by rw [bitL_mem.2 hm] at hb; cases hb
          apply this
          unfold Oper.looksAt at hm
          rcases List.mem_append.1 hm with hc | hc
          · obtain ⟨x, hx, hxt⟩ := List.mem_filterMap.1 hc
            cases x with
            | tmp s => simp at hxt; subst hxt; exact List.mem_append_left _ (mem_opTmps hn (by simpa using hx))
            | _ => simp at hxt
          · refine List.mem_append_right _ ?_
            unfold guardTmps
            cases hg : o.guard with
            | none => rw [hg] at hc; simp at hc
            | some gw =>
              obtain ⟨g, b⟩ := gw
              rw [hg] at hc
              simp only at hc ⊢
              rw [Array.getElem?_toList]
              cases hp : ops[g]? with
              | none => rw [hp] at hc; simp at hc
              | some p =>
                rw [hp] at hc
                simp only [Option.bind_some, Option.mem_toList] at hc
                simp only
                cases hpd : p.dst with
                | none => rw [hpd] at hc; simp at hc
                | some d' => rw [hpd] at hc; simp at hc; subst hc; exact List.mem_singleton_self _

/-- what the told rows say, at once -/
structure SqCtx (ops : Array Oper) (t0 : Told) (an : List (Nat × Nat)) : Prop where
  row : ∀ p ∈ t0, rowOf ops p.1 = some p.2.2
  all : ∀ i, i < ops.size → ∃ p ∈ t0, p.1 = i
  lt : ∀ p ∈ t0, p.1 < ops.size
  dist : ∀ i j t, dstAt ops i = some t → dstAt ops j = some t → i = j
  anc : ∀ q ∈ an, ∀ j, hasBit q.2 j = true → Anc ops q.1 j
  clash : ∀ i j, i < ops.size → clash ops i j = true → i = j ∨ dep ops i j = true ∨ dep ops j i = true
  ord : ∃ l : List (Nat × Bool), okOrd ops [] l = true
theorem ord_run {listed : Array Bool} (hs : listed.size = ops.size) (hr : Region.ready .any ops listed = []) : ∀ (rest : List (Nat × Bool)) (seen : List Nat), okOrd ops seen rest = true → (∀ j ∈ seen, LL listed j = true) → ∀ i, i < ops.size → LL listed i = true
  | [], seen, h, hl, i, hi => by
    unfold okOrd at h
    have := List.all_eq_true.1 h i (List.mem_range.2 hi)
    exact hl i (by simpa using this)
  | (j, non) :: rest, seen, h, hl, i, hi => by
    have h' := okOrd_cons h
    have hj : LL listed j = true := by
      cases hx : LL listed j with
      | true => rfl
      | false =>
        have := ready_of hs h'.1 hx fun x hx => hl x (h'.2.2.1 x hx)
        rw [hr] at this; cases this
    refine ord_run hs hr rest (j :: seen) h'.2.2.2.2.2 (fun x hx => ?_) i hi
    rcases List.mem_cons.1 hx with e | e
    · rw [e]; exact hj
    · exact hl x e
theorem ord_clash : ∀ {rest : List (Nat × Bool)} {seen : List Nat}, okOrd ops seen rest = true → ∀ i, i < ops.size → i ∉ seen → ∀ j, clash ops i j = true → i = j ∨ dep ops i j = true ∨ dep ops j i = true
  | [], seen, h, i, hi, hn, j, _ => by
    unfold okOrd at h
    have := List.all_eq_true.1 h i (List.mem_range.2 hi)
    exact absurd (by simpa using this) hn
  | (l, non) :: rest, seen, h, i, hi, hn, j, hc => by
    have h' := okOrd_cons h
    by_cases hil : i = l
    · subst hil; exact h'.2.2.2.1 j hc
    · exact ord_clash h'.2.2.2.2.2 i hi (by simp [hil, hn]) j hc
theorem rowOf_lt {i : Nat} {r : Row} (h : rowOf ops i = some r) : i < ops.size := by
  unfold rowOf at h
  rw [Array.getElem?_toList] at h
  cases ho : ops[i]? with
  | none => rw [ho] at h; cases h
  | some o => exact (Array.getElem?_eq_some_iff.1 ho).1

/-- a reader that may still come: it gives its value at this world -/
def Good (P : Program) (ops : Array Oper) (e0 : Env) (seen : Nat) (val : Nat → Value) (i : Nat) (w : World) : Prop :=
  ∀ o, ops[i]? = some o → ∃ (E : Env) (S : Nat → Prop), Is ops e0 E S val ∧ (∀ l, S l → hasBit seen l = true) ∧ (∀ l, l ≠ i → clash ops i l = true → (S l ↔ dep ops i l = true)) ∧
    (∀ t ∈ o.looksAt ops, dstAt ops i = some t → ¬ S i) ∧ (vcO P ops E o w fun v w' => v = val i ∧ w' = w)
theorem Good.up {e0 : Env} {seen : Nat} {val : Nat → Value} {i j : Nat} {w : World} {v : Value} (h : Good P ops e0 seen val i w) (hi : hasBit seen i = true) (hj : ¬ hasBit seen j = true) : Good P ops e0 (Nat.lor (Nat.pow 2 j) seen) (setV val j v) i w := by
  intro o ho
  obtain ⟨E, S, h1, h2, h3, h4, h5⟩ := h o ho
  refine ⟨E, S, h1.val fun l hl => setV_ne fun e => hj (by rw [← e]; exact h2 l hl), fun l hl => hasBit_lor.2 (.inr (h2 l hl)), h3, h4, ?_⟩
  rw [setV_ne fun e => hj (by rw [← e]; exact hi)]
  exact h5

/-- where the reading stands: what it has passed (seen), of that the readers whose value hangs on the world (rs) -/
structure St (P : Program) (ops : Array Oper) (e0 : Env) (L : Nat → Bool) (seen rs : Nat) (e : Env) (val : Nat → Value) (w : World) : Prop where
  is : Is ops e0 e (fun l => hasBit seen l = true) val
  sub : ∀ i, L i = true → hasBit seen i = true
  pend : ∀ i, hasBit seen i = true → L i = false → (∀ w', Good P ops e0 seen val i w') ∨ (hasBit rs i = true ∧ Good P ops e0 seen val i w)

theorem sees_of {t0 : Told} {an : List (Nat × Nat)} (c : SqCtx ops t0 an) {seen i : Nat} {r : Row} (hr : rowOf ops i = some r) (h : seesB t0 seen i r = true) : ∀ l, l ≠ i → clash ops i l = true → (hasBit seen l = true ↔ dep ops i l = true) := by
  intro l hl hc
  have hd : ∃ d, dstAt ops l = some d := by
    unfold clash at hc
    cases h1 : ops[i]? with
    | none => rw [h1] at hc; cases hc
    | some o =>
      cases h2 : dstAt ops l with
      | none => rw [h1, h2] at hc; cases hc
      | some d => exact ⟨d, rfl⟩
  obtain ⟨d, hd⟩ := hd
  have hll : l < ops.size := by
    rcases Nat.lt_or_ge l ops.size with h | h
    · exact h
    · exfalso; unfold dstAt at hd; rw [Array.getElem?_eq_none h] at hd; cases hd
  obtain ⟨p, hp, rfl⟩ := c.all l hll
  have h1 := allL_mem h p hp
  rw [← rowOf_dst (c.row p hp), hd] at h1
  simp only [rowOf_clash hr hd hc, cond_true] at h1
  have h2 : Nat.beq p.1 i = false := by rw [Bool.eq_false_iff]; exact fun hb => hl (Nat.eq_of_beq_eq_true hb)
  rw [h2] at h1
  simp only [cond_false] at h1
  have h3 := rowOf_dep (j := p.1) hr
  rw [← h3]
  unfold eqB at h1
  cases ha : hasBit seen p.1 <;> cases hb : hasBit r.dep p.1 <;> simp [ha, hb] at h1 ⊢

theorem rows_at {t0 : Told} {an : List (Nat × Nat)} (c : SqCtx ops t0 an) {i : Nat} {r : Row} (h : rowsL t0 i = some r) : rowOf ops i = some r := by
  obtain ⟨p, hp, rfl, rfl⟩ := rowsL_mem h
  exact c.row p hp

/-- a slot's value, where one of those passed has written it -/
theorem Is.slot {e0 e : Env} {S : Nat → Prop} {val : Nat → Value} {i d : Nat} (h : Is ops e0 e S val) (hi : S i) (hd : dstAt ops i = some d) : e d = val i := (h d).1 i hi hd

section
variable {t0 : Told} {an : List (Nat × Nat)} {full : Nat}
theorem okSq_rd {p : Bool} {i : Nat} {s : Sq} {seen rs h : Nat} (hk : okSq ops t0 an full (.rd p i s) seen rs h = true) :
    h = 0 ∧ ¬ hasBit seen i = true ∧ ∃ r, rowsL t0 i = some r ∧ subM r.dep seen = true ∧ seesB t0 seen i r = true ∧ okSq ops t0 an full s (Nat.lor (Nat.pow 2 i) seen) (bif p then rs else Nat.lor (Nat.pow 2 i) rs) 0 = true := by
  have hk' : (bif Nat.beq h 0 then bif hasBit seen i then false else (match rowsL t0 i with
      | none => false
      | some r => bif subM r.dep seen then bif seesB t0 seen i r then okSq ops t0 an full s (Nat.lor (Nat.pow 2 i) seen) (bif p then rs else Nat.lor (Nat.pow 2 i) rs) 0 else false else false) else false) = true := hk
  cases h1 : Nat.beq h 0 with
  | false => rw [h1] at hk'; cases hk'
  | true =>
    rw [h1] at hk'
    cases h2 : hasBit seen i with
    | true => rw [h2] at hk'; cases hk'
    | false =>
      rw [h2] at hk'
      cases h3 : rowsL t0 i with
      | none => rw [h3] at hk'; cases hk'
      | some r =>
        rw [h3] at hk'
        simp only [cond_true, cond_false] at hk'
        cases h4 : subM r.dep seen with
        | false => rw [h4] at hk'; cases hk'
        | true =>
          rw [h4] at hk'
          cases h5 : seesB t0 seen i r with
          | false => rw [h5] at hk'; cases hk'
          | true => rw [h5] at hk'; exact ⟨Nat.eq_of_beq_eq_true h1, by simp, r, rfl, h4, h5, hk'⟩
theorem okSq_ef {i : Nat} {re : List Nat} {s : Sq} {seen rs h : Nat} (hk : okSq ops t0 an full (.ef i re s) seen rs h = true) :
    ¬ hasBit seen i = true ∧ ∃ r, rowsL t0 i = some r ∧ subM r.dep seen = true ∧ seesB t0 seen i r = true ∧ readyAll t0 seen (Nat.lor h (Nat.pow 2 i)) = true ∧ subM rs (Nat.lor (bitsOf re) (ancM an i)) = true ∧
      (∀ j ∈ re, selfB ops j = true ∧ ∃ r, rowsL t0 j = some r ∧ seesB t0 (Nat.lor (Nat.pow 2 i) seen) j r = true) ∧ okSq ops t0 an full s (Nat.lor (Nat.pow 2 i) seen) (Nat.xor rs (Nat.land rs (ancM an i))) 0 = true := by
  have hk' : (bif hasBit seen i then false else (match rowsL t0 i with
      | none => false
      | some r => bif subM r.dep seen then bif seesB t0 seen i r then bif readyAll t0 seen (Nat.lor h (Nat.pow 2 i)) then bif subM rs (Nat.lor (bitsOf re) (ancM an i)) then
          bif allL (fun j => bif selfB ops j then (match rowsL t0 j with | some r => seesB t0 (Nat.lor (Nat.pow 2 i) seen) j r | none => false) else false) re then
            okSq ops t0 an full s (Nat.lor (Nat.pow 2 i) seen) (Nat.xor rs (Nat.land rs (ancM an i))) 0 else false else false else false else false else false)) = true := hk
  cases h2 : hasBit seen i with
  | true => rw [h2] at hk'; cases hk'
  | false =>
    rw [h2] at hk'
    cases h3 : rowsL t0 i with
    | none => rw [h3] at hk'; cases hk'
    | some r =>
      rw [h3] at hk'
      simp only [cond_true, cond_false] at hk'
      cases h4 : subM r.dep seen with
      | false => rw [h4] at hk'; cases hk'
      | true =>
        rw [h4] at hk'
        cases h5 : seesB t0 seen i r with
        | false => rw [h5] at hk'; cases hk'
        | true =>
          rw [h5] at hk'
          cases h6 : readyAll t0 seen (Nat.lor h (Nat.pow 2 i)) with
          | false => rw [h6] at hk'; cases hk'
          | true =>
            rw [h6] at hk'
            cases h7 : subM rs (Nat.lor (bitsOf re) (ancM an i)) with
            | false => rw [h7] at hk'; cases hk'
            | true =>
              rw [h7] at hk'
              simp only [cond_true] at hk'
              cases h8 : allL (fun j => bif selfB ops j then (match rowsL t0 j with | some r => seesB t0 (Nat.lor (Nat.pow 2 i) seen) j r | none => false) else false) re with
              | false => rw [h8] at hk'; cases hk'
              | true =>
                rw [h8] at hk'
                refine ⟨by simp, r, rfl, h4, h5, rfl, rfl, fun j hj => ?_, hk'⟩
                have := allL_mem h8 j hj
                cases h9 : selfB ops j with
                | false => rw [h9] at this; cases this
                | true =>
                  rw [h9] at this
                  simp only [cond_true] at this
                  cases h10 : rowsL t0 j with
                  | none => rw [h10] at this; cases this
                  | some r' => rw [h10] at this; exact ⟨rfl, r', rfl, this⟩
theorem okSq_alt {a b : Sq} {seen rs h : Nat} (hk : okSq ops t0 an full (.alt a b) seen rs h = true) : okSq ops t0 an full a seen rs (Nat.lor h (hdM b)) = true ∧ okSq ops t0 an full b seen rs (Nat.lor h (hdM a)) = true := by
  have hk' : (bif okSq ops t0 an full a seen rs (Nat.lor h (hdM b)) then okSq ops t0 an full b seen rs (Nat.lor h (hdM a)) else false) = true := hk
  cases h1 : okSq ops t0 an full a seen rs (Nat.lor h (hdM b)) with
  | false => rw [h1] at hk'; cases hk'
  | true => rw [h1] at hk'; exact ⟨rfl, hk'⟩

theorem sq_branch {i : Nat} {e : Env} {w : World} {seen rs : Nat} : ∀ (s : Sq) (h : Nat), okSq ops t0 an full s seen rs h = true → vcSq P ops k s e w → hasBit (hdM s) i = true →
    ∃ re s1 h', okSq ops t0 an full (.ef i re s1) seen rs h' = true ∧ vcSq P ops k (.ef i re s1) e w
  | .done, h, _, _, hb => by have : hasBit 0 i = true := hb; rw [hasBit_zero] at this; cases this
  | .rd p j s, h, _, _, hb => by have : hasBit 0 i = true := hb; rw [hasBit_zero] at this; cases this
  | .ef j re s, h, hk, hv, hb => by
    have : i = j := hasBit_pow.1 hb
    subst this
    exact ⟨re, s, h, hk, hv⟩
  | .alt a b, h, hk, hv, hb => by
    have hk' := okSq_alt hk
    have hv' : xAlt (vcSq P ops k a e w) (vcSq P ops k b e w) := hv
    have hb' : hasBit (Nat.lor (hdM a) (hdM b)) i = true := hb
    rcases hasBit_lor.1 hb' with h1 | h1
    · exact sq_branch a _ hk'.1 hv'.out.1 h1
    · exact sq_branch b _ hk'.2 hv'.out.2 h1

theorem sq_fin {e : Env} {w : World} (c : SqCtx ops t0 an) {seen rs : Nat} (hall : ∀ i, i < ops.size → hasBit seen i = true) : ∀ (s : Sq) (h : Nat), okSq ops t0 an full s seen rs h = true → vcSq P ops k s e w → k e w
  | .done, h, _, hv => hv
  | .rd p j s, h, hk, _ => by
    obtain ⟨_, h1, r, h2, _⟩ := okSq_rd hk
    exact absurd (hall j (rowOf_lt (rows_at c h2))) h1
  | .ef j re s, h, hk, _ => by
    obtain ⟨h1, r, h2, _⟩ := okSq_ef hk
    exact absurd (hall j (rowOf_lt (rows_at c h2))) h1
  | .alt a b, h, hk, hv => by
    have hv' : xAlt (vcSq P ops k a e w) (vcSq P ops k b e w) := hv
    exact sq_fin c hall a _ (okSq_alt hk).1 hv'.out.1

theorem sq_advance (c : SqCtx ops t0 an) (hfull : full = Nat.pow 2 ops.toList.length - 1) {e0 : Env} {L : Nat → Bool} {i : Nat} {w : World} (hi : i < ops.size) (hL : L i = false) (hdeps : ∀ j, dep ops i j = true → L j = true) :
    ∀ (s : Sq) (h seen rs : Nat) (e : Env) (val : Nat → Value), okSq ops t0 an full s seen rs h = true → vcSq P ops k s e w → St P ops e0 L seen rs e val w → ¬ hasBit seen i = true →
      hasBit h i = true ∨
      (∃ s' seen' rs' e' val', okSq ops t0 an full s' seen' rs' 0 = true ∧ vcSq P ops k s' e' w ∧ St P ops e0 L seen' rs' e' val' w ∧ hasBit seen' i = true ∧ ∀ j, hasBit seen j = true → val' j = val j) ∨
      (∃ re s1 h' seen' rs' e' val', okSq ops t0 an full (.ef i re s1) seen' rs' h' = true ∧ vcSq P ops k (.ef i re s1) e' w ∧ St P ops e0 L seen' rs' e' val' w ∧ ∀ j, hasBit seen j = true → val' j = val j)
  | .done, h, seen, rs, e, val, hk, _, _, hn => by
    exfalso
    have hk' : Nat.beq seen full = true := hk
    apply hn
    rw [Nat.eq_of_beq_eq_true hk', hfull, hasBit_testBit]
    show (2 ^ ops.toList.length - 1).testBit i = true
    rw [Nat.testBit_two_pow_sub_one]
    simpa using hi
  | .rd p j s, h, seen, rs, e, val, hk, hv, st, hn => by
    obtain ⟨h0, h1, r, h2, h3, h4, h5⟩ := okSq_rd hk
    have hr := rows_at c h2
    have hjlt := rowOf_lt hr
    have hoj : ops[j]? = some ops[j] := Array.getElem?_eq_getElem hjlt
    have hjL : L j = false := by
      cases hx : L j with
      | false => rfl
      | true => exact absurd (st.sub j hx) h1
    have hd0 : ops[j].dst = dstAt ops j := by unfold dstAt; rw [hoj]; rfl
    have hsee := sees_of c hr h4
    have hv' : (match ops[j]? with
      | none => False
      | some o => bif p then xPur w (fun w K => vcO P ops e o w K) fun x => vcSq P ops k s (updO e o.dst x) w
        else xRd w (fun K => vcO P ops e o w K) fun x => vcSq P ops k s (updO e o.dst x) w) := hv
    rw [hoj] at hv'
    simp only at hv'
    have key : ∃ x, vcSq P ops k s (updO e ops[j].dst x) w ∧ ((p = true ∧ ∀ w', vcO P ops e ops[j] w' fun v w'' => v = x ∧ w'' = w') ∨ (p = false ∧ vcO P ops e ops[j] w fun v w'' => v = x ∧ w'' = w)) := by
      cases p with
      | true => obtain ⟨x, a, b⟩ := hv'.out; exact ⟨x, b, .inl ⟨rfl, a⟩⟩
      | false => obtain ⟨x, a, b⟩ := hv'.out; exact ⟨x, b, .inr ⟨rfl, a⟩⟩
    obtain ⟨x, hnx, hrun⟩ := key
    have hgood : ∀ w', (vcO P ops e ops[j] w' fun v w'' => v = x ∧ w'' = w') → Good P ops e0 (Nat.lor (Nat.pow 2 j) seen) (setV val j x) j w' := by
      intro w' hw o ho
      rw [hoj] at ho
      obtain rfl := Option.some.inj ho
      refine ⟨e, fun l => hasBit seen l = true, st.is.val fun l hl => setV_ne fun e => h1 (e ▸ hl), fun l hl => hasBit_lor.2 (.inr hl), hsee, fun _ _ _ => h1, ?_⟩
      rw [setV_at]; exact hw
    have st' : St P ops e0 L (Nat.lor (Nat.pow 2 j) seen) (bif p then rs else Nat.lor (Nat.pow 2 j) rs) (updO e ops[j].dst x) (setV val j x) w := by
      refine ⟨?_, fun l hl => hasBit_lor.2 (.inr (st.sub l hl)), fun l hl hlL => ?_⟩
      · rw [hd0]
        refine (Is.upd c.dist st.is h1).iff fun l => ?_
        rw [hasBit_set]
      · rcases hasBit_set.1 hl with e | hl
        · subst e
          rcases hrun with ⟨rfl, ha⟩ | ⟨rfl, ha⟩
          · exact .inl fun w' => hgood w' (ha w')
          · exact .inr ⟨hasBit_set.2 (.inl rfl), hgood w ha⟩
        · rcases st.pend l hl hlL with ha | ⟨ha, hb⟩
          · exact .inl fun w' => (ha w').up hl h1
          · refine .inr ⟨?_, hb.up hl h1⟩
            cases p with
            | true => exact ha
            | false => exact hasBit_set.2 (.inr ha)
    have hval : ∀ l, hasBit seen l = true → setV val j x l = val l := fun l hl => setV_ne fun e => h1 (e ▸ hl)
    by_cases hij : i = j
    · subst hij
      exact .inr (.inl ⟨s, _, _, _, _, h5, hnx, st', hasBit_set.2 (.inl rfl), hval⟩)
    · rcases sq_advance c hfull hi hL hdeps s 0 _ _ _ _ h5 hnx st' (fun hb => (hasBit_set.1 hb).elim hij hn) with hb | ⟨s', a1, a2, a3, a4, a5, a6, a7, a8, a9⟩ | ⟨re, s1, h', a1, a2, a3, a4, a5, a6, a7, a8⟩
      · rw [hasBit_zero] at hb; cases hb
      · exact .inr (.inl ⟨s', a1, a2, a3, a4, a5, a6, a7, a8, fun l hl => by rw [a9 l (hasBit_set.2 (.inr hl)), hval l hl]⟩)
      · exact .inr (.inr ⟨re, s1, h', a1, a2, a3, a4, a5, a6, a7, fun l hl => by rw [a8 l (hasBit_set.2 (.inr hl)), hval l hl]⟩)
  | .ef j re s, h, seen, rs, e, val, hk, hv, st, hn => by
    by_cases hij : i = j
    · subst hij
      exact .inr (.inr ⟨re, s, h, seen, rs, e, val, hk, hv, st, fun _ _ => rfl⟩)
    · obtain ⟨h1, r, h2, h3, h4, h5, _⟩ := okSq_ef hk
      obtain ⟨p, hp, hpi⟩ := c.all i hi
      have h6 := allL_mem h5 p hp
      rw [hpi] at h6
      have hns : hasBit seen i = false := by
        cases hx : hasBit seen i with
        | false => rfl
        | true => exact absurd hx hn
      rw [hns] at h6
      simp only [cond_false] at h6
      have hr := c.row p hp
      rw [hpi] at hr
      have h7 : subM p.2.2.dep seen = true := subM_iff.2 fun l hl => st.sub l (hdeps l ((rowOf_dep hr).1 hl))
      rw [h7] at h6
      simp only [cond_true] at h6
      rcases hasBit_lor.1 h6 with h8 | h8
      · exact .inl h8
      · exact absurd (hasBit_pow.1 h8) hij
  | .alt a b, h, seen, rs, e, val, hk, hv, st, hn => by
    have hk' := okSq_alt hk
    have hv' : xAlt (vcSq P ops k a e w) (vcSq P ops k b e w) := hv
    rcases sq_advance c hfull hi hL hdeps a _ _ _ _ _ hk'.1 hv'.out.1 st hn with hb | hx | hx
    · rcases hasBit_lor.1 hb with h1 | h1
      · exact .inl h1
      · obtain ⟨re, s1, h', a1, a2⟩ := sq_branch b _ hk'.2 hv'.out.2 h1
        exact .inr (.inr ⟨re, s1, h', seen, rs, e, val, a1, a2, st, fun _ _ => rfl⟩)
    · exact .inr (.inl hx)
    · exact .inr (.inr hx)

theorem vcRe_mem {e : Env} {w : World} {A : Prop} : ∀ {l : List Nat}, vcRe P ops e w A l → A ∧ ∀ j ∈ l, ∀ o, ops[j]? = some o → vcO P ops e o w fun v w' => v = slotV e o.dst ∧ w' = w
  | [], h => ⟨h, by simp⟩
  | j :: l, h => by
    have h' : (match ops[j]? with
      | none => False
      | some o => xRe w (fun K => vcO P ops e o w K) (slotV e o.dst) (vcRe P ops e w A l)) := h
    cases ho : ops[j]? with
    | none => rw [ho] at h'; exact h'.elim
    | some o =>
      rw [ho] at h'
      obtain ⟨h1, h2⟩ := h'.out
      obtain ⟨h3, h4⟩ := vcRe_mem (l := l) h2
      refine ⟨h3, fun j' hj' o' ho' => ?_⟩
      rcases List.mem_cons.1 hj' with e | e
      · subst e
        rw [ho] at ho'
        obtain rfl := Option.some.inj ho'
        exact h1
      · exact h4 j' e o' ho'

theorem sq_any (c : SqCtx ops t0 an) (hfull : full = Nat.pow 2 ops.toList.length - 1) (hok : okOps n ops = true) (D : List Nat) (e1 e0 : Env) (hD : ∀ o ∈ ops.toList, ∀ t, o.dst = some t → t ∈ D) (he0 : ∀ t, t ∉ D → e0 t = e1 t) :
    ∀ (fuel : Nat) (listed : Array Bool) (a : Act) (w : World) (s : Sq) (seen rs : Nat) (e : Env) (val : Nat → Value), okSq ops t0 an full s seen rs 0 = true → vcSq P ops k s e w → St P ops e0 (LL listed) seen rs e val w →
      Is ops e0 (envOf a) (fun j => LL listed j = true) val → (∀ i, LL listed i = true → ∀ j, dep ops i j = true → LL listed j = true) → a.tmps.size = n → a.defers = [] → listed.size = ops.size → left ops listed ≤ fuel →
      wpAny P .any ops (fun x a' w' => x = .normal ∧ a'.tmps.size = n ∧ a'.defers = [] ∧ (∀ t, t ∉ D → envOf a' t = e1 t) ∧ k (envOf a') w') fuel listed a w := by
  have hok' := okOps_spec hok
  have hlt : ∀ (i : Nat) (o : Oper), ops[i]? = some o → ∀ t, o.dst = some t → t < n := fun i o hi t ht => hok'.2 o (by simpa using Array.mem_of_getElem? hi) t ht
  have fin : ∀ (listed : Array Bool) (a : Act) (w : World) (s : Sq) (seen rs : Nat) (e : Env) (val : Nat → Value), okSq ops t0 an full s seen rs 0 = true → vcSq P ops k s e w → St P ops e0 (LL listed) seen rs e val w →
      Is ops e0 (envOf a) (fun j => LL listed j = true) val → listed.size = ops.size → (∀ i, i < ops.size → LL listed i = true) → (∀ t, t ∉ D → envOf a t = e1 t) ∧ k (envOf a) w := by
    intro listed a w s seen rs e val hk hv st hea hs hall
    have hv' := sq_fin c (fun i hi => st.sub i (hall i hi)) s 0 hk hv
    have he : e = envOf a := by
      funext t
      refine Is.agree st.is hea fun j hj => ⟨fun _ => ?_, st.sub j⟩
      refine hall j ?_
      rcases Nat.lt_or_ge j ops.size with h | h
      · exact h
      · exfalso; unfold dstAt at hj; rw [Array.getElem?_eq_none h] at hj; cases hj
    refine ⟨fun t ht => ?_, he ▸ hv'⟩
    rw [← he0 t ht]
    refine (hea t).2 fun j _ hj => ht ?_
    unfold dstAt at hj
    cases ho : ops[j]? with
    | none => rw [ho] at hj; simp at hj
    | some o => rw [ho] at hj; simp at hj; exact hD o (by simpa using Array.mem_of_getElem? ho) t hj
  have allrun : ∀ (listed : Array Bool), listed.size = ops.size → Region.ready .any ops listed = [] → ∀ i, i < ops.size → LL listed i = true := by
    intro listed hs hr
    obtain ⟨l, hl⟩ := c.ord
    exact ord_run hs hr l [] hl (by simp)
  intro fuel
  induction fuel with
  | zero =>
    intro listed a w s seen rs e val hk hv st hea hdown hn hd hs hleft
    have hr := ready_none hs hleft
    obtain ⟨f1, f2⟩ := fin listed a w s seen rs e val hk hv st hea hs (allrun listed hs hr)
    exact ⟨hr, rfl, hn, hd, f1, f2⟩
  | succ fuel ih =>
    intro listed a w s seen rs e val hk hv st hea hdown hn hd hs hleft
    refine ⟨fun hr => ?_, fun i hi => ?_⟩
    · obtain ⟨f1, f2⟩ := fin listed a w s seen rs e val hk hv st hea hs (allrun listed hs hr)
      exact ⟨rfl, hn, hd, f1, f2⟩
    obtain ⟨o, ho, hil, h0, hdeps⟩ := ready_at hs hi
    have hL' := LL_set (listed := listed) (i := i) (by omega)
    have hLmono : ∀ j, LL listed j = true → LL (listed.setIfInBounds i true) j = true := fun j hj => by rw [hL' j, hj]; rfl
    have hLi : LL (listed.setIfInBounds i true) i = true := by rw [hL' i, Nat.beq_refl]; simp
    have hLne : ∀ j, j ≠ i → LL (listed.setIfInBounds i true) j = LL listed j := fun j hj => by
      rw [hL' j]
      have : Nat.beq j i = false := by rw [Bool.eq_false_iff]; exact fun hb => hj (Nat.eq_of_beq_eq_true hb)
      rw [this, Bool.or_false]
    have hdown' : ∀ l, LL (listed.setIfInBounds i true) l = true → ∀ j, dep ops l j = true → LL (listed.setIfInBounds i true) j = true := by
      intro l hl j hj
      by_cases hli : l = i
      · subst hli; exact hLmono j (hdeps j hj)
      · rw [hLne l hli] at hl; exact hLmono j (hdown l hl j hj)
    have hlefts := left_set hs hil h0
    have hd0 : o.dst = dstAt ops i := by unfold dstAt; rw [ho]; rfl
    have henv : ∀ v, envOf (a.put o.dst v) = updO (envOf a) (dstAt ops i) v := fun v => by rw [← hd0]; exact envOf_put _ _ _ (fun t h => by rw [hn]; exact hlt i o ho t h)
    have hisup : ∀ (val' : Nat → Value) (v : Value), Is ops e0 (envOf a) (fun j => LL listed j = true) val' → Is ops e0 (envOf (a.put o.dst v)) (fun j => LL (listed.setIfInBounds i true) j = true) (setV val' i v) := by
      intro val' v hx
      rw [henv v]
      refine (Is.upd c.dist hx (by rw [h0]; simp)).iff fun j => ?_
      by_cases hji : j = i
      · subst hji; exact ⟨fun _ => hLi, fun _ => .inl rfl⟩
      · rw [hLne j hji]; exact ⟨fun h => h.elim (fun e => absurd e hji) id, .inr⟩
    have hadv : (∃ s' seen' rs' e' val', okSq ops t0 an full s' seen' rs' 0 = true ∧ vcSq P ops k s' e' w ∧ St P ops e0 (LL listed) seen' rs' e' val' w ∧ hasBit seen' i = true ∧ ∀ j, hasBit seen j = true → val' j = val j) ∨
        (∃ re s1 h' seen' rs' e' val', okSq ops t0 an full (.ef i re s1) seen' rs' h' = true ∧ vcSq P ops k (.ef i re s1) e' w ∧ St P ops e0 (LL listed) seen' rs' e' val' w ∧ ∀ j, hasBit seen j = true → val' j = val j) := by
      by_cases hm : hasBit seen i = true
      · exact .inl ⟨s, seen, rs, e, val, hk, hv, st, hm, fun _ _ => rfl⟩
      · rcases sq_advance c hfull hil h0 hdeps s 0 seen rs e val hk hv st hm with hb | hx | hx
        · rw [hasBit_zero] at hb; cases hb
        · exact .inl hx
        · exact .inr hx
    rcases hadv with ⟨s', seen', rs', e', val', hk2, hv2, st2, hm2, hag2⟩ | ⟨re, s1, h', seen', rs', e', val', hk2, hv2, st2, hag2⟩
    · have hea2 : Is ops e0 (envOf a) (fun j => LL listed j = true) val' := hea.val fun j hj => hag2 j (st.sub j hj)
      have hgood : Good P ops e0 seen' val' i w := (st2.pend i hm2 h0).elim (fun h => h w) fun h => h.2
      obtain ⟨E, S, g1, g2, g3, g4, g5⟩ := hgood o ho
      refine vcO_wpOp (N := wpAny P .any ops _ fuel (listed.setIfInBounds i true)) ho (fun cs b => Region.noSelect_spec hok'.1 i o cs b ho) (fun t ht => ?_) g5 fun v w' hvw => ?_
      · refine Is.agree hea2 g1 fun j hj => ?_
        by_cases hji : j = i
        · subst hji
          exact ⟨fun h => (by rw [h0] at h; cases h), fun h => absurd h (g4 t ht hj)⟩
        · have hcl := clash_looks ho ht hj
          rw [g3 j hji hcl]
          refine ⟨fun hl => ?_, hdeps j⟩
          rcases c.clash i j hil hcl with e | e | e
          · exact absurd e.symm hji
          · exact e
          · have := hdown j hl i e; rw [h0] at this; cases this
      · obtain ⟨rfl, rfl⟩ := hvw
        refine ih (listed.setIfInBounds i true) _ w' s' seen' rs' e' val' hk2 hv2 ⟨st2.is, fun j hj => ?_, fun j hj hjL => ?_⟩ ?_ hdown' (by rw [put_size]; exact hn) (by rw [put_defers0]; exact hd) (by simp [hs]) (by omega)
        · by_cases hji : j = i
          · rw [hji]; exact hm2
          · rw [hLne j hji] at hj; exact st2.sub j hj
        · have hji : j ≠ i := fun e => by rw [e, hLi] at hjL; cases hjL
          rw [hLne j hji] at hjL
          exact st2.pend j hj hjL
        · have := hisup val' (val' i) hea2
          have e : setV val' i (val' i) = val' := by
            funext j
            by_cases hji : j = i
            · rw [hji, setV_at]
            · exact setV_ne hji
          rw [e] at this
          exact this
    · have hea2 : Is ops e0 (envOf a) (fun j => LL listed j = true) val' := hea.val fun j hj => hag2 j (st.sub j hj)
      obtain ⟨hni, r, hr0, hsub, hsees, _, hrs, hre, hk3⟩ := okSq_ef hk2
      have hsee := sees_of c (rows_at c hr0) hsees
      have hv3 : (match ops[i]? with
        | none => False
        | some o => vcO P ops e' o w fun v w => vcRe P ops (updO e' o.dst v) w (vcSq P ops k s1 (updO e' o.dst v) w) re) := hv2
      rw [ho] at hv3
      simp only at hv3
      refine vcO_wpOp (N := wpAny P .any ops _ fuel (listed.setIfInBounds i true)) ho (fun cs b => Region.noSelect_spec hok'.1 i o cs b ho) (fun t ht => ?_) hv3 fun v w' hvw => ?_
      · refine Is.agree hea2 st2.is fun j hj => ?_
        by_cases hji : j = i
        · subst hji
          exact ⟨fun h => (by rw [h0] at h; cases h), fun h => absurd h hni⟩
        · exact ⟨st2.sub j, fun hl => hdeps j ((hsee j hji (clash_looks ho ht hj)).1 hl)⟩
      · obtain ⟨hnx, hrr⟩ := vcRe_mem hvw
        have his3 : Is ops e0 (updO e' o.dst v) (fun l => hasBit (Nat.lor (Nat.pow 2 i) seen') l = true) (setV val' i v) := by
          rw [hd0]
          exact (Is.upd c.dist st2.is hni).iff fun l => by rw [hasBit_set]
        refine ih (listed.setIfInBounds i true) _ w' s1 _ _ _ (setV val' i v) hk3 hnx ⟨his3, fun j hj => ?_, fun j hj hjL => ?_⟩ (hisup val' v hea2) hdown' (by rw [put_size]; exact hn) (by rw [put_defers0]; exact hd) (by simp [hs]) (by omega)
        · by_cases hji : j = i
          · rw [hji]; exact hasBit_set.2 (.inl rfl)
          · rw [hLne j hji] at hj; exact hasBit_set.2 (.inr (st2.sub j hj))
        · have hji : j ≠ i := fun e => by rw [e, hLi] at hjL; cases hjL
          rw [hLne j hji] at hjL
          have hj2 := (hasBit_set.1 hj).resolve_left hji
          rcases st2.pend j hj2 hjL with ha | ⟨ha, hb⟩
          · exact .inl fun w'' => (ha w'').up hj2 hni
          · have hna : ¬ hasBit (ancM an i) j = true := fun hx => by
              have := ancM_anc c.anc hx (LL listed) hdown hdeps
              rw [hjL] at this; cases this
            refine .inr ⟨hasBit_rest ha hna, ?_⟩
            have hjre : j ∈ re := by
              rcases hasBit_lor.1 (subM_iff.1 hrs j ha) with h1 | h1
              · rw [hasBit_testBit, bitsOf_mem] at h1; exact h1
              · exact absurd h1 hna
            obtain ⟨hself, r', hr', hsee'⟩ := hre j hjre
            obtain ⟨oj, d, hoj, hdj, hdn⟩ := selfB_spec hself
            intro oj' hoj'
            rw [hoj] at hoj'
            obtain rfl := Option.some.inj hoj'
            have hdoj : oj.dst = some d := by unfold dstAt at hdj; rw [hoj] at hdj; exact hdj
            refine ⟨_, _, his3, fun _ h => h, sees_of c (rows_at c hr') hsee', fun t ht hdt => ?_, ?_⟩
            · rw [hdj] at hdt
              cases hdt
              exact absurd ht hdn
            · have := hrr j hjre oj hoj
              rw [hdoj] at this
              have e2 : slotV (updO e' o.dst v) (some d) = setV val' i v j := his3.slot hj hdj
              rw [e2] at this
              exact this

theorem okSqAll_spec {n : Nat} {t : Told} {s : Sq} (h : okSqAll n ops t s = true) : okOps n ops = true ∧ SqCtx ops t (ancT t []) ∧ okSq ops t (ancT t []) (Nat.pow 2 ops.toList.length - 1) s 0 0 0 = true := by
  unfold okSqAll at h
  cases h1 : okOps n ops with
  | false => rw [h1] at h; cases h
  | true =>
    rw [h1] at h
    simp only [cond_true] at h
    cases h2 : okTold ops t with
    | false => rw [h2] at h; cases h
    | true =>
      rw [h2] at h
      simp only [cond_true] at h
      cases h3 : distB t with
      | false => rw [h3] at h; cases h
      | true =>
        rw [h3] at h
        obtain ⟨hrow, hall⟩ := told_rows h2
        have hord := okOrd_told h2
        refine ⟨rfl, ⟨hrow, hall, fun p hp => rowOf_lt (hrow p hp), fun i j d hi hj => ?_, ancT_anc hrow (by simp), fun i j hi hc => ord_clash hord i hi (by simp) j hc, _, hord⟩, h⟩
        have hlt : ∀ {i d : Nat}, dstAt ops i = some d → i < ops.size := fun {i d} hd => by
          rcases Nat.lt_or_ge i ops.size with h | h
          · exact h
          · exfalso; unfold dstAt at hd; rw [Array.getElem?_eq_none h] at hd; cases hd
        obtain ⟨p, hp, rfl⟩ := hall i (hlt hi)
        obtain ⟨q, hq, rfl⟩ := hall j (hlt hj)
        have a1 := allL_mem h3 p hp
        rw [← rowOf_dst (hrow p hp), hi] at a1
        have a2 := allL_mem a1 q hq
        rw [← rowOf_dst (hrow q hq), hj] at a2
        simp only [Nat.beq_refl, cond_true] at a2
        exact Nat.eq_of_beq_eq_true a2

theorem sq_sound (hm : P.follows .mixedOrders = true) {id : Nat} {t : Told} {s : Sq} (hok : okSqAll n ops t s = true) (D : List Nat) (hD : ∀ o ∈ ops.toList, ∀ t, o.dst = some t → t ∈ D)
    {a : Act} {w : World} (hn : a.tmps.size = n) (hd : a.defers = []) (h : xSq w.drew fun w => vcSq P ops k s (envOf a) w) :
    (Code.region id ops true).wp P (fun x a' w' => x = .normal ∧ a'.tmps.size = n ∧ a'.defers = [] ∧ (∀ t, t ∉ D → envOf a' t = envOf a t) ∧ k (envOf a') w') a w := by
  obtain ⟨hops, c, hk⟩ := okSqAll_spec hok
  have hLL : LL (Array.replicate ops.size false) = fun _ => false := by
    funext i
    unfold LL
    by_cases hi : i < ops.size <;> simp [hi]
  refine wp_region_any hm ?_
  refine sq_any c rfl hops D (envOf a) (envOf a) hD (fun _ _ => rfl) ops.size _ a w.drew s 0 0 (envOf a) (fun _ => undef) hk h.out ⟨?_, fun i hi => ?_, fun i hi => ?_⟩ ?_ (fun i hi => ?_) hn hd (by simp) ?_
  · intro t
    exact ⟨fun j hj => (by
      have hj : hasBit 0 j = true := hj
      rw [hasBit_zero] at hj; cases hj), fun _ => rfl⟩
  · rw [hLL] at hi; cases hi
  · rw [hasBit_zero] at hi; cases hi
  · intro t
    exact ⟨fun j hj => (by rw [hLL] at hj; cases hj), fun _ => rfl⟩
  · rw [hLL] at hi; cases hi
  · unfold left
    exact Nat.le_trans (List.length_filter_le ..) (by simp)
end
end
end Go.Sh
