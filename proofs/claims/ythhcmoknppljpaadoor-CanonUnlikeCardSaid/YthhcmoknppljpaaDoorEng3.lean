/- A region whose order is open: what its shallow reading asks suffices for every order. -/
import Derived.Test.YthhcmoknppljpaaDoorEng2
set_option linter.unusedVariables false
set_option linter.unusedSimpArgs false
namespace Go.Sh
noncomputable section

def dstAt (ops : Array Oper) (i : Nat) : Option Nat := (ops[i]?).bind (·.dst)
/-- Does operation i wait for j? (directly) -/
def dep (ops : Array Oper) (i j : Nat) : Bool := match ops[i]? with
  | some o => o.after.any fun e => Region.binds .any e && Nat.beq e.on j
  | none => false
theorem dep_edge {ops : Array Oper} {i j : Nat} {o : Oper} (hi : ops[i]? = some o) : dep ops i j = true ↔ ∃ e ∈ o.after, Region.binds .any e = true ∧ e.on = j := by
  unfold dep
  rw [hi]
  simp only [Array.any_eq_true', Bool.and_eq_true]
  constructor
  · rintro ⟨e, he, hb, hj⟩; exact ⟨e, he, hb, Nat.eq_of_beq_eq_true hj⟩
  · rintro ⟨e, he, hb, hj⟩; exact ⟨e, he, hb, by rw [hj]; exact Nat.beq_refl j⟩

/-- Does j write what i looks at or writes? -/
def clash (ops : Array Oper) (i j : Nat) : Bool := match ops[i]?, dstAt ops j with
  | some o, some t => (o.looksAt ops).contains t || o.dst == some t
  | _, _ => false
def waits (ops : Array Oper) (i : Nat) (seen : List Nat) : Bool := match ops[i]? with
  | some o => o.after.all fun e => !Region.binds .any e || seen.contains e.on
  | none => false
/-- An order in which each operation stands behind those that it waits for; all behind one whose value is open wait for it. -/
def okOrd (ops : Array Oper) : List Nat → List (Nat × Bool) → Bool
  | seen, [] => (List.range ops.size).all fun i => seen.contains i
  | seen, (i, non) :: rest => Nat.blt i ops.size && !seen.contains i &&
      waits ops i seen &&
      ((List.range ops.size).all fun j => !clash ops i j || Nat.beq i j || dep ops i j || dep ops j i) &&
      (!non || rest.all fun p => dep ops p.1 i) && okOrd ops (i :: seen) rest

/-! the same, in a form that the kernel's machine evaluates in few steps -/
def tmpOf : Operand → List Nat
  | .tmp t => [t]
  | _ => []
def tmpsL (l : List Operand) : List Nat := List.rec (motive := fun _ => List Nat) [] (fun x _ ih => match x with | .tmp t => t :: ih | _ => ih) l
def tmpsO : Option Operand → List Nat
  | some (.tmp t) => [t]
  | _ => []
def opTmps : Op → List Nat
  | .alloc _ | .ready _ | .waits _ => []
  | .move x | .assign x | .box _ x | .load _ x | .nilCheck x | .unOp _ _ x | .convert _ _ x | .sliceToArrayPointer _ x | .makeInterface _ x
  | .makeChan _ x | .fieldAddr _ x _ | .field _ x _ | .range _ x | .next x _ | .entry x | .typeAssert x _ _ _ | .extract x _ | .panic x | .recv _ x _ => tmpOf x
  | .pick c a b => tmpsL [c, a, b]
  | .build _ ps | .buildSlice _ _ ps => tmpsL (List.rec (motive := fun _ => List Operand) [] (fun p _ ih => p.2 :: ih) ps.toList)
  | .store _ a v | .binOp _ _ a v _ | .makeSlice _ a v | .indexAddr _ a v | .index _ a v | .lookup _ a v _ | .mapEntry _ a v | .send a v => tmpsL [a, v]
  | .makeFunc _ first captured => tmpsL first.toList ++ tmpsL captured.toList
  | .makeMap _ r => tmpsO r
  | .slice _ x l h m => tmpOf x ++ (tmpsO l ++ (tmpsO h ++ tmpsO m))
  | .mapUpdate _ m k v | .entryStore _ m k v | .insert _ m k v => tmpsL [m, k, v]
  | .call c | .go c | .defer c => (match c.callee with | .value f => tmpOf f | .invoke r _ => tmpOf r | .builtin _ => []) ++ tmpsL c.args.toList
  | .select _ _ => []
theorem mem_tmpsL {t : Nat} : ∀ {l : List Operand}, Operand.tmp t ∈ l → t ∈ tmpsL l
  | x :: l, h => by
    rcases List.mem_cons.1 h with e | e
    · subst e; exact List.mem_cons_self ..
    · have ih := mem_tmpsL e
      cases x with
      | tmp s => exact List.mem_cons_of_mem _ ih
      | _ => exact ih
theorem mem_snd {t : Nat} : ∀ {l : List (Nat × Operand)}, Operand.tmp t ∈ l.map (·.2) → Operand.tmp t ∈ (List.rec (motive := fun _ => List Operand) [] (fun p _ ih => p.2 :: ih) l : List Operand)
  | p :: l, h => by
    rw [List.map_cons] at h
    rcases List.mem_cons.1 h with e | e
    · show _ ∈ p.2 :: _
      rw [e]; exact List.mem_cons_self ..
    · exact List.mem_cons_of_mem _ (mem_snd e)
theorem mem_opTmps {t : Nat} {op : Op} (hn : noSel op = true) (h : Operand.tmp t ∈ op.operands) : t ∈ opTmps op := by
  have one : ∀ x : Operand, Operand.tmp t = x → t ∈ tmpOf x := fun x hx => by subst hx; exact List.mem_singleton_self _
  have opt : ∀ x : Option Operand, x = some (Operand.tmp t) → t ∈ tmpsO x := fun x hx => by subst hx; exact List.mem_singleton_self _
  cases op <;> simp only [Op.operands] at h <;> simp only [opTmps]
  case select => cases hn
  case pick c a b => exact mem_tmpsL (by simpa using h)
  case build t ps => exact mem_tmpsL (mem_snd (by simpa using h))
  case buildSlice t n ps => exact mem_tmpsL (mem_snd (by simpa using h))
  case makeFunc fn a b =>
    rcases Array.mem_append.1 h with h | h
    · exact List.mem_append_left _ (mem_tmpsL (by simpa using h))
    · exact List.mem_append_right _ (mem_tmpsL (by simpa using h))
  case makeMap t r => exact opt r (by cases r <;> simp_all)
  case slice t x l hh m =>
    simp only [Array.mem_append] at h
    rcases h with ((h | h) | h) | h
    · exact List.mem_append_left _ (one x (by simpa using h))
    · exact List.mem_append_right _ (List.mem_append_left _ (opt l (by cases l <;> simp_all)))
    · exact List.mem_append_right _ (List.mem_append_right _ (List.mem_append_left _ (opt hh (by cases hh <;> simp_all))))
    · exact List.mem_append_right _ (List.mem_append_right _ (List.mem_append_right _ (opt m (by cases m <;> simp_all))))
  case call c =>
    simp only [Call.operands, Array.mem_append] at h
    rcases h with h | h
    · refine List.mem_append_left _ ?_
      cases hc : c.callee <;> rw [hc] at h <;> first | exact one _ (by simpa using h) | (simp at h)
    · exact List.mem_append_right _ (mem_tmpsL (by simpa using h))
  case go c =>
    simp only [Call.operands, Array.mem_append] at h
    rcases h with h | h
    · refine List.mem_append_left _ ?_
      cases hc : c.callee <;> rw [hc] at h <;> first | exact one _ (by simpa using h) | (simp at h)
    · exact List.mem_append_right _ (mem_tmpsL (by simpa using h))
  case defer c =>
    simp only [Call.operands, Array.mem_append] at h
    rcases h with h | h
    · refine List.mem_append_left _ ?_
      cases hc : c.callee <;> rw [hc] at h <;> first | exact one _ (by simpa using h) | (simp at h)
    · exact List.mem_append_right _ (mem_tmpsL (by simpa using h))
  all_goals first
    | exact mem_tmpsL (by simpa using h)
    | exact one _ (by simpa using h)
    | (simp at h)

def bitsOf (l : List Nat) : Nat := List.rec (motive := fun _ => Nat) 0 (fun t _ ih => Nat.lor (Nat.pow 2 t) ih) l
def hasBit (m t : Nat) : Bool := Nat.beq (Nat.land (Nat.shiftRight m t) 1) 1
theorem hasBit_testBit (m t : Nat) : hasBit m t = m.testBit t := by
  unfold hasBit Nat.testBit
  show Nat.beq ((m >>> t) &&& 1) 1 = (1 &&& (m >>> t) != 0)
  rw [Nat.and_comm 1]
  have : (m >>> t) &&& 1 = 0 ∨ (m >>> t) &&& 1 = 1 := by
    rw [Nat.and_one_is_mod]; omega
  rcases this with h | h <;> rw [h] <;> rfl
theorem bitsOf_mem {t : Nat} : ∀ {l : List Nat}, (bitsOf l).testBit t = true ↔ t ∈ l
  | [] => by simp [bitsOf]
  | s :: l => by
    have ih := bitsOf_mem (t := t) (l := l)
    have h : bitsOf (s :: l) = 2 ^ s ||| bitsOf l := rfl
    rw [h, Nat.testBit_or, Bool.or_eq_true, ih, List.mem_cons, Nat.testBit_two_pow]
    simp only [decide_eq_true_eq]
    exact or_congr ⟨Eq.symm, Eq.symm⟩ Iff.rfl
def bitL (l : List Nat) (t : Nat) : Bool := hasBit (bitsOf l) t
theorem bitL_mem {l : List Nat} {t : Nat} : bitL l t = true ↔ t ∈ l := by unfold bitL; rw [hasBit_testBit, bitsOf_mem]

def depsL (l : List Edge) : List Nat := List.rec (motive := fun _ => List Nat) [] (fun e _ ih => bif (match e.ground with | .textOnly _ => false | .gcOnly _ => false | _ => true) then e.on :: ih else ih) l
theorem mem_depsL {j : Nat} : ∀ {l : List Edge}, j ∈ depsL l ↔ ∃ e ∈ l, Region.binds .any e = true ∧ e.on = j
  | [] => by simp [depsL]
  | e :: l => by
    have ih := mem_depsL (j := j) (l := l)
    have hb : (match e.ground with | .textOnly _ => false | .gcOnly _ => false | _ => true) = Region.binds .any e := by
      unfold Region.binds; cases e.ground <;> rfl
    have h : depsL (e :: l) = bif Region.binds .any e then e.on :: depsL l else depsL l := by rw [← hb]; rfl
    rw [h]
    cases hbb : Region.binds .any e with
    | true =>
      show j ∈ e.on :: depsL l ↔ _
      rw [List.mem_cons, ih]
      constructor
      · rintro (h | ⟨e', he, h⟩)
        · exact ⟨e, List.mem_cons_self .., hbb, h.symm⟩
        · exact ⟨e', List.mem_cons_of_mem _ he, h⟩
      · rintro ⟨e', he, hb', hj⟩
        rcases List.mem_cons.1 he with h | h
        · subst h; exact .inl hj.symm
        · exact .inr ⟨e', h, hb', hj⟩
    | false => simp [ih, hbb]
def rowOf (ops : Array Oper) (i : Nat) : Option Row := match ops.toList[i]? with
  | none => none
  | some o => bif noSel o.op then some ⟨bitsOf (depsL o.after.toList), bitsOf (opTmps o.op ++ ((match o.guard with | some (g, _) => (match ops.toList[g]? with | some p => (match p.dst with | some d => [d] | none => []) | none => []) | none => []) ++
      (match o.dst with | some d => [d] | none => []))), o.dst⟩ else none
def eqO : Option Nat → Option Nat → Bool
  | some a, some b => Nat.beq a b
  | none, none => true
  | _, _ => false
def eqRow (a : Option Row) (b : Row) : Bool := match a with
  | some a => bif Nat.beq a.dep b.dep then (bif Nat.beq a.look b.look then eqO a.dst b.dst else false) else false
  | none => false
theorem eqRow_spec {a : Option Row} {b : Row} (h : eqRow a b = true) : a = some b := by
  cases a with
  | none => cases h
  | some a =>
    obtain ⟨d, l, s⟩ := a
    obtain ⟨d', l', s'⟩ := b
    simp only [eqRow] at h
    cases h1 : Nat.beq d d' with
    | false => rw [h1] at h; cases h
    | true =>
      rw [h1] at h
      cases h2 : Nat.beq l l' with
      | false => rw [h2] at h; cases h
      | true =>
        rw [h2] at h
        have e1 := Nat.eq_of_beq_eq_true h1
        have e2 := Nat.eq_of_beq_eq_true h2
        subst e1 e2
        cases s <;> cases s' <;> simp [eqO] at h
        · rfl
        · subst h; rfl
/-- The told rows, in the told order: (number, is its value open, row). -/
abbrev Told := List (Nat × Bool × Row)
def toldOk (seen : Nat) (all l : Told) : Bool :=
  List.rec (motive := fun _ => Nat → Bool) (fun _ => true) (fun p rest ih seen =>
    bif hasBit seen p.1 then false else
    bif Nat.beq (Nat.lor p.2.2.dep seen) seen then
      (bif allL (fun q => match q.2.2.dst with
        | some d => bif hasBit p.2.2.look d then (bif Nat.beq p.1 q.1 then true else bif hasBit p.2.2.dep q.1 then true else hasBit q.2.2.dep p.1) else true
        | none => true) all then
        (bif p.2.1 then (bif allL (fun q => hasBit q.2.2.dep p.1) rest then ih (Nat.lor (Nat.pow 2 p.1) seen) else false) else ih (Nat.lor (Nat.pow 2 p.1) seen))
        else false)
      else false) l seen
def okTold (ops : Array Oper) (t : Told) : Bool :=
  bif allL (fun p => eqRow (rowOf ops p.1) p.2.2) t then (bif toldOk 0 t t then
    Nat.beq (bitsOf (List.rec (motive := fun _ => List Nat) [] (fun p _ ih => p.1 :: ih) t)) (Nat.pow 2 ops.toList.length - 1) else false) else false
theorem rowOf_dep {ops : Array Oper} {i j : Nat} {r : Row} (h : rowOf ops i = some r) : hasBit r.dep j = true ↔ dep ops i j = true := by
  unfold rowOf at h
  rw [Array.getElem?_toList] at h
  cases ho : ops[i]? with
  | none => rw [ho] at h; cases h
  | some o =>
    rw [ho] at h
    cases hn : noSel o.op with
    | false => simp only [hn, cond_false] at h; cases h
    | true =>
      simp only [hn, cond_true, Option.some.injEq] at h
      subst h
      rw [hasBit_testBit]
      show (bitsOf (depsL o.after.toList)).testBit j = true ↔ _
      rw [bitsOf_mem, mem_depsL, dep_edge ho]
      simp
theorem rowOf_dst {ops : Array Oper} {i : Nat} {r : Row} (h : rowOf ops i = some r) : dstAt ops i = r.dst := by
  unfold rowOf at h
  rw [Array.getElem?_toList] at h
  unfold dstAt
  cases ho : ops[i]? with
  | none => rw [ho] at h; cases h
  | some o =>
    rw [ho] at h
    cases hn : noSel o.op with
    | false => simp only [hn, cond_false] at h; cases h
    | true => simp only [hn, cond_true, Option.some.injEq] at h; subst h; rfl
theorem rowOf_clash {ops : Array Oper} {i j t : Nat} {r : Row} (h : rowOf ops i = some r) (hd : dstAt ops j = some t) (hc : clash ops i j = true) : hasBit r.look t = true := by
  unfold rowOf at h
  rw [Array.getElem?_toList] at h
  unfold clash at hc
  rw [hd] at hc
  cases ho : ops[i]? with
  | none => rw [ho] at h; cases h
  | some o =>
    rw [ho] at h hc
    cases hn : noSel o.op with
    | false => simp only [hn, cond_false] at h; cases h
    | true =>
      simp only [hn, cond_true, Option.some.injEq] at h
      subst h
      rw [hasBit_testBit]
      show (bitsOf _).testBit t = true
      rw [bitsOf_mem]
      simp only [Bool.or_eq_true, List.contains_iff_mem] at hc
      rcases hc with hc | hc
      · unfold Oper.looksAt at hc
        rcases List.mem_append.1 hc with hc | hc
        · obtain ⟨x, hx, hxt⟩ := List.mem_filterMap.1 hc
          cases x with
          | tmp s => simp at hxt; subst hxt; exact List.mem_append_left _ (mem_opTmps hn (by simpa using hx))
          | _ => simp at hxt
        · refine List.mem_append_right _ (List.mem_append_left _ ?_)
          cases hg : o.guard with
          | none => rw [hg] at hc; simp at hc
          | some gw =>
            obtain ⟨g, b⟩ := gw
            rw [hg] at hc
            simp only at hc ⊢
            rw [Array.getElem?_toList]
            cases hp : ops[g]? with
            | none => rw [hp] at hc; simp at hc
            | some p =>
              rw [hp] at hc
              simp only [Option.bind_some, Option.mem_toList] at hc
              simp only
              cases hpd : p.dst with
              | none => rw [hpd] at hc; simp at hc
              | some d => rw [hpd] at hc; simp at hc; subst hc; exact List.mem_singleton_self _
      · refine List.mem_append_right _ (List.mem_append_right _ ?_)
        have : o.dst = some t := by simpa using hc
        rw [this]; exact List.mem_singleton_self _

theorem okOrd_of_told {ops : Array Oper} {all : Told} (hrow : ∀ p ∈ all, rowOf ops p.1 = some p.2.2) (hall : ∀ i, i < ops.size → ∃ p ∈ all, p.1 = i) :
    ∀ (l : Told) (seenL : List Nat) (seen : Nat), (∀ p ∈ l, p ∈ all) → (∀ i, i ∈ seenL ↔ seen.testBit i = true) → (∀ i, i < ops.size → i ∈ seenL ∨ ∃ p ∈ l, p.1 = i) →
      toldOk seen all l = true → okOrd ops seenL (ordOf l) = true
  | [], seenL, seen, _, _, hc, _ => by
    show ((List.range ops.size).all fun i => seenL.contains i) = true
    rw [List.all_eq_true]
    intro i hi
    rcases hc i (List.mem_range.1 hi) with h | ⟨p, hp, _⟩
    · simpa using h
    · cases hp
  | p :: l, seenL, seen, hsub, hs, hc, h => by
    obtain ⟨i, non, r⟩ := p
    have hr : rowOf ops i = some r := hrow _ (hsub _ (List.mem_cons_self ..))
    have h' : (bif hasBit seen i then false else
      bif Nat.beq (Nat.lor r.dep seen) seen then
      (bif allL (fun q => match q.2.2.dst with
        | some d => bif hasBit r.look d then (bif Nat.beq i q.1 then true else bif hasBit r.dep q.1 then true else hasBit q.2.2.dep i) else true
        | none => true) all then
        (bif non then (bif allL (fun q => hasBit q.2.2.dep i) l then toldOk (Nat.lor (Nat.pow 2 i) seen) all l else false) else toldOk (Nat.lor (Nat.pow 2 i) seen) all l)
        else false)
      else false) = true := h
    have hin : i < ops.size := by
      unfold rowOf at hr
      rw [Array.getElem?_toList] at hr
      cases ho : ops[i]? with
      | none => rw [ho] at hr; cases hr
      | some o => exact (Array.getElem?_eq_some_iff.1 ho).1
    have hoi : ops[i]? = some ops[i] := Array.getElem?_eq_getElem hin
    cases h1 : hasBit seen i with
    | true => rw [h1] at h'; cases h'
    | false =>
      rw [h1] at h'
      simp only [cond_false] at h'
      cases h2 : Nat.beq (Nat.lor r.dep seen) seen with
      | false => rw [h2] at h'; cases h'
      | true =>
        rw [h2] at h'
        simp only [cond_true] at h'
        cases h3 : allL (fun q : Nat × Bool × Row => match q.2.2.dst with
        | some d => bif hasBit r.look d then (bif Nat.beq i q.1 then true else bif hasBit r.dep q.1 then true else hasBit q.2.2.dep i) else true
        | none => true) all with
        | false => rw [h3] at h'; cases h'
        | true =>
          rw [h3] at h'
          simp only [cond_true] at h'
          have hrest : toldOk (Nat.lor (Nat.pow 2 i) seen) all l = true ∧ (non = true → allL (fun q => hasBit q.2.2.dep i) l = true) := by
            cases non with
            | false => exact ⟨h', fun e => by cases e⟩
            | true =>
              simp only [cond_true] at h'
              cases h4 : allL (fun q : Nat × Bool × Row => hasBit q.2.2.dep i) l with
              | false => rw [h4] at h'; cases h'
              | true => rw [h4] at h'; exact ⟨h', fun _ => rfl⟩
          have ih := okOrd_of_told hrow hall l (i :: seenL) (Nat.lor (Nat.pow 2 i) seen) (fun p hp => hsub p (List.mem_cons_of_mem _ hp)) (fun j => by
              show _ ↔ (2 ^ i ||| seen).testBit j = true
              rw [List.mem_cons, hs j, Nat.testBit_or, Bool.or_eq_true, Nat.testBit_two_pow]
              simp only [decide_eq_true_eq]
              exact or_congr ⟨Eq.symm, Eq.symm⟩ Iff.rfl) (fun j hj => by
              rcases hc j hj with h | ⟨p, hp, hpj⟩
              · exact .inl (List.mem_cons_of_mem _ h)
              · rcases List.mem_cons.1 hp with e | e
                · subst e; exact .inl (by rw [← hpj]; exact List.mem_cons_self ..)
                · exact .inr ⟨p, e, hpj⟩) hrest.1
          show okOrd ops seenL ((i, non) :: ordOf l) = true
          unfold okOrd
          simp only [Bool.and_eq_true]
          refine ⟨⟨⟨⟨⟨by simpa using hin, ?_⟩, ?_⟩, ?_⟩, ?_⟩, ih⟩
          · have : ¬ i ∈ seenL := by rw [hs i, ← hasBit_testBit, h1]; simp
            simpa using this
          · unfold waits
            rw [hoi]
            simp only [Array.all_eq_true_iff_forall_mem, Bool.or_eq_true, Bool.not_eq_true']
            intro e he
            cases hb : Region.binds .any e with
            | false => exact .inl rfl
            | true =>
              refine .inr ?_
              have hd : dep ops i e.on = true := (dep_edge hoi).2 ⟨e, he, hb, rfl⟩
              have hbit := (rowOf_dep hr).2 hd
              rw [hasBit_testBit] at hbit
              have : seen.testBit e.on = true := by
                rw [← Nat.eq_of_beq_eq_true h2]
                show (r.dep ||| seen).testBit e.on = true
                rw [Nat.testBit_or, hbit]; rfl
              simpa using (hs e.on).2 this
          · rw [List.all_eq_true]
            intro j hj
            cases hcl : clash ops i j with
            | false => rfl
            | true =>
              obtain ⟨q, hq, hqj⟩ := hall j (List.mem_range.1 hj)
              have hqr := hrow q hq
              rw [hqj] at hqr
              cases hd : dstAt ops j with
              | none => unfold clash at hcl; rw [hd, hoi] at hcl; simp at hcl
              | some d =>
                have h4 := allL_mem h3 q hq
                have hq2 := rowOf_dst hqr
                rw [hd] at hq2
                rw [← hq2] at h4
                simp only [rowOf_clash hr hd hcl, cond_true] at h4
                rw [hqj] at h4
                cases h5 : Nat.beq i j with
                | true => simp
                | false =>
                  rw [h5] at h4
                  simp only [cond_false] at h4
                  cases h6 : hasBit r.dep j with
                  | true => rw [(rowOf_dep hr).1 h6]; simp
                  | false =>
                    rw [h6] at h4
                    simp only [cond_false] at h4
                    rw [(rowOf_dep hqr).1 h4]; simp
          · cases non with
            | false => rfl
            | true =>
              simp only [Bool.not_true, Bool.false_or, List.all_eq_true]
              have h4 := allL_mem (hrest.2 rfl)
              intro x hx
              have key : ∀ l : Told, (∀ q ∈ l, q ∈ all ∧ hasBit q.2.2.dep i = true) → ∀ x ∈ ordOf l, dep ops x.1 i = true := by
                intro l
                induction l with
                | nil => intro _ x hx; cases hx
                | cons q l ih =>
                  intro hq x hx
                  have hx' : x ∈ (q.1, q.2.1) :: ordOf l := hx
                  rcases List.mem_cons.1 hx' with e | e
                  · subst e
                    have hqq := hq q (List.mem_cons_self ..)
                    exact (rowOf_dep (hrow q hqq.1)).1 hqq.2
                  · exact ih (fun q hq' => hq q (List.mem_cons_of_mem _ hq')) x e
              exact key l (fun q hq => ⟨hsub q (List.mem_cons_of_mem _ hq), h4 q hq⟩) x hx

theorem okOrd_told {ops : Array Oper} {t : Told} (h : okTold ops t = true) : okOrd ops [] (ordOf t) = true := by
  unfold okTold at h
  cases h1 : allL (fun p : Nat × Bool × Row => eqRow (rowOf ops p.1) p.2.2) t with
  | false => rw [h1] at h; cases h
  | true =>
    rw [h1] at h
    simp only [cond_true] at h
    cases h2 : toldOk 0 t t with
    | false => rw [h2] at h; cases h
    | true =>
      rw [h2] at h
      simp only [cond_true] at h
      have hcov := Nat.eq_of_beq_eq_true h
      have hmap : ∀ l : Told, (List.rec (motive := fun _ => List Nat) [] (fun p _ ih => p.1 :: ih) l : List Nat) = l.map (·.1) := by
        intro l
        induction l with
        | nil => rfl
        | cons p l ih => rw [List.map_cons, ← ih]
      have hall : ∀ i, i < ops.size → ∃ p ∈ t, p.1 = i := by
        intro i hi
        have : (bitsOf (t.map (·.1))).testBit i = true := by
          rw [← hmap, hcov]
          show (2 ^ ops.toList.length - 1).testBit i = true
          rw [Nat.testBit_two_pow_sub_one]
          simpa using hi
        rw [bitsOf_mem] at this
        obtain ⟨p, hp, hpi⟩ := List.mem_map.1 this
        exact ⟨p, hp, hpi⟩
      exact okOrd_of_told (fun p hp => eqRow_spec (allL_mem h1 p hp)) hall t [] 0 (fun _ h => h) (fun i => by simp) (fun i hi => .inr (hall i hi)) h2

theorem told_rows {ops : Array Oper} {t : Told} (h : okTold ops t = true) : (∀ p ∈ t, rowOf ops p.1 = some p.2.2) ∧ ∀ i, i < ops.size → ∃ p ∈ t, p.1 = i := by
  unfold okTold at h
  cases h1 : allL (fun p : Nat × Bool × Row => eqRow (rowOf ops p.1) p.2.2) t with
  | false => rw [h1] at h; cases h
  | true =>
    rw [h1] at h
    simp only [cond_true] at h
    cases h2 : toldOk 0 t t with
    | false => rw [h2] at h; cases h
    | true =>
      rw [h2] at h
      simp only [cond_true] at h
      have hcov := Nat.eq_of_beq_eq_true h
      have hmap : ∀ l : Told, (List.rec (motive := fun _ => List Nat) [] (fun p _ ih => p.1 :: ih) l : List Nat) = l.map (·.1) := by
        intro l
        induction l with
        | nil => rfl
        | cons p l ih => rw [List.map_cons, ← ih]
      refine ⟨fun p hp => eqRow_spec (allL_mem h1 p hp), fun i hi => ?_⟩
      have : (bitsOf (t.map (·.1))).testBit i = true := by
        rw [← hmap, hcov]
        show (2 ^ ops.toList.length - 1).testBit i = true
        rw [Nat.testBit_two_pow_sub_one]
        simpa using hi
      rw [bitsOf_mem] at this
      obtain ⟨p, hp, hpi⟩ := List.mem_map.1 this
      exact ⟨p, hp, hpi⟩
def lastOf (t : Told) : Option Nat := List.rec (motive := fun _ => Option Nat) none (fun p rest ih => match rest with | [] => bif p.2.1 then some p.1 else none | _ :: _ => ih) t
def orDep (t : Told) : Nat := List.rec (motive := fun _ => Nat) 0 (fun p _ ih => Nat.lor p.2.2.dep ih) t
/-- If the last operation's value is open, all others are waited for. -/
def tailOk (t : Told) : Bool := match lastOf t with
  | none => true
  | some i => allL (fun q => bif Nat.beq q.1 i then true else hasBit (orDep t) q.1) t
def okDraw (n : Nat) (ops : Array Oper) (t : Told) : Bool := bif okOps n ops then (bif tailOk t then okTold ops t else false) else false
theorem orDep_bit {j : Nat} : ∀ {t : Told}, hasBit (orDep t) j = true → ∃ q ∈ t, hasBit q.2.2.dep j = true
  | [], h => by
    rw [hasBit_testBit] at h
    have : (0 : Nat).testBit j = true := h
    simp at this
  | p :: t, h => by
    rw [hasBit_testBit] at h
    have h' : (p.2.2.dep ||| orDep t).testBit j = true := h
    rw [Nat.testBit_or, Bool.or_eq_true] at h'
    rcases h' with h' | h'
    · exact ⟨p, List.mem_cons_self .., by rw [hasBit_testBit]; exact h'⟩
    · obtain ⟨q, hq, hb⟩ := orDep_bit (t := t) (by rw [hasBit_testBit]; exact h')
      exact ⟨q, List.mem_cons_of_mem _ hq, hb⟩
theorem lastOf_ord : ∀ {t : Told} {i : Nat}, (ordOf t).getLast? = some (i, true) → lastOf t = some i
  | [], _, h => by cases h
  | [p], i, h => by
    have h' : some (p.1, p.2.1) = some (i, true) := h
    simp only [Option.some.injEq, Prod.mk.injEq] at h'
    show (bif p.2.1 then some p.1 else none) = some i
    rw [h'.2, h'.1]; rfl
  | p :: q :: t, i, h => by
    have h' : ((p.1, p.2.1) :: (q.1, q.2.1) :: ordOf t).getLast? = some (i, true) := h
    rw [List.getLast?_cons_cons] at h'
    exact lastOf_ord (t := q :: t) h'
def Sink (ops : Array Oper) (i : Nat) : Prop := ∀ j, j < ops.size → j ≠ i → ∃ l, dep ops l j = true

/-- The slots behind some of the operations of a list (the latest first). -/
def envP (ops : Array Oper) (L : Nat → Bool) (e0 : Env) (rp : List (Nat × Value)) : Env := fun t =>
  match rp.find? fun p => L p.1 && dstAt ops p.1 == some t with
  | some p => p.2
  | none => e0 t

theorem envP_cons (ops : Array Oper) (L : Nat → Bool) (e0 : Env) (i : Nat) (x : Value) (rp : List (Nat × Value)) (h : L i = true) :
    envP ops L e0 ((i, x) :: rp) = updO (envP ops L e0 rp) (dstAt ops i) x := by
  funext t
  unfold envP
  rw [List.find?_cons]
  cases hd : dstAt ops i with
  | none => simp [updO]
  | some s =>
    by_cases hs : s = t
    · subst hs
      have : Nat.beq s s = true := Nat.beq_refl s
      simp [h, updO, upd, this]
    · have : Nat.beq t s = false := by rw [Bool.eq_false_iff]; exact fun hb => hs (Nat.eq_of_beq_eq_true hb).symm
      have hb : (s == t) = false := by simpa using hs
      simp [h, updO, upd, this, hb]

theorem envP_skip (ops : Array Oper) (L : Nat → Bool) (e0 : Env) (i : Nat) (x : Value) (rp : List (Nat × Value)) (h : L i = false) :
    envP ops L e0 ((i, x) :: rp) = envP ops L e0 rp := by
  funext t
  unfold envP
  rw [List.find?_cons]
  simp [h]

theorem envP_at (ops : Array Oper) (L L' : Nat → Bool) (e0 : Env) (t : Nat) : ∀ rp : List (Nat × Value),
    (∀ p ∈ rp, dstAt ops p.1 = some t → L p.1 = L' p.1) → envP ops L e0 rp t = envP ops L' e0 rp t
  | [], _ => rfl
  | (i, x) :: rp, h => by
    have ih := envP_at ops L L' e0 t rp fun p hp => h p (List.mem_cons_of_mem _ hp)
    by_cases hd : dstAt ops i = some t
    · have hL := h (i, x) (List.mem_cons_self ..) hd
      simp only at hL
      unfold envP at *
      rw [List.find?_cons, List.find?_cons, hL]
      cases hi : L' i <;> simp [hd, ih]
    · have hb : (dstAt ops i == some t) = false := by simpa using hd
      unfold envP at *
      rw [List.find?_cons, List.find?_cons]
      simp [hb, ih]

theorem envP_app (ops : Array Oper) (L : Nat → Bool) (e0 : Env) (t : Nat) : ∀ ra rp : List (Nat × Value),
    (∀ p ∈ ra, dstAt ops p.1 = some t → L p.1 = false) → envP ops L e0 (ra ++ rp) t = envP ops L e0 rp t
  | [], _, _ => rfl
  | (i, x) :: ra, rp, h => by
    have ih := envP_app ops L e0 t ra rp fun p hp => h p (List.mem_cons_of_mem _ hp)
    have hi := h (i, x) (List.mem_cons_self ..)
    simp only at hi
    unfold envP at *
    rw [List.cons_append, List.find?_cons]
    by_cases hd : dstAt ops i = some t
    · rw [hi hd]; simpa using ih
    · have hb : (dstAt ops i == some t) = false := by simpa using hd
      rw [hb]; simpa using ih

theorem envP_other (ops : Array Oper) (L : Nat → Bool) (e0 : Env) (t : Nat) (rp : List (Nat × Value))
    (h : ∀ p ∈ rp, dstAt ops p.1 ≠ some t) : envP ops L e0 rp t = e0 t := by
  unfold envP
  rw [List.find?_eq_none.2]
  intro p hp
  simp [h p hp]

section
variable {P : Program} {ops : Array Oper} {n : Nat} {le : World → World → Prop} {k : Env → World → Prop}

/-- What is known of the operations that the list has passed and the machine has not yet run. -/
def Pend (P : Program) (ops : Array Oper) (le : World → World → Prop) (L : Nat → Bool) (e0 : Env) (H : World → Prop) : List (Nat × Value) → Prop
  | [] => True
  | (i, x) :: rp => (L i = false → ∀ o, ops[i]? = some o → ∀ w, H w → vcO P ops (envP ops (fun _ => true) e0 rp) o w fun v w' => v = x ∧ le w w') ∧ Pend P ops le L e0 H rp

theorem Pend.imp {L L' : Nat → Bool} {e0 : Env} {H H' : World → Prop} (hL : ∀ i, L' i = false → L i = false) (hH : ∀ w, H' w → H w) :
    ∀ {rp : List (Nat × Value)}, Pend P ops le L e0 H rp → Pend P ops le L' e0 H' rp
  | [], _ => trivial
  | (i, x) :: _, h => ⟨fun hi o ho w hw => h.1 (hL i hi) o ho w (hH w hw), Pend.imp hL hH h.2⟩

theorem Pend.split {L : Nat → Bool} {e0 : Env} {H : World → Prop} {i : Nat} {x : Value} : ∀ {ra rp : List (Nat × Value)}, Pend P ops le L e0 H (ra ++ (i, x) :: rp) →
    (L i = false → ∀ o, ops[i]? = some o → ∀ w, H w → vcO P ops (envP ops (fun _ => true) e0 rp) o w fun v w' => v = x ∧ le w w')
  | [], _, h => h.1
  | _ :: _, _, h => Pend.split h.2


/-- The list that the reading has passed, in its order. -/
def Chrono (ops : Array Oper) : List (Nat × Value) → Prop
  | [] => True
  | (i, _) :: rp => i < ops.size ∧ i ∉ rp.map (·.1) ∧ (∀ j, dep ops i j = true → j ∈ rp.map (·.1)) ∧ (∀ j, clash ops i j = true → i = j ∨ dep ops i j = true ∨ dep ops j i = true) ∧ Chrono ops rp

theorem okOrd_cons {seen : List Nat} {i : Nat} {non : Bool} {rest : List (Nat × Bool)} (h : okOrd ops seen ((i, non) :: rest) = true) :
    i < ops.size ∧ i ∉ seen ∧ (∀ j, dep ops i j = true → j ∈ seen) ∧ (∀ j, clash ops i j = true → i = j ∨ dep ops i j = true ∨ dep ops j i = true) ∧
      (non = true → ∀ p ∈ rest, dep ops p.1 i = true) ∧ okOrd ops (i :: seen) rest = true := by
  unfold okOrd at h
  simp only [Bool.and_eq_true] at h
  obtain ⟨⟨⟨⟨⟨h1, h2⟩, h3⟩, h4⟩, h5⟩, h6⟩ := h
  have hlt : i < ops.size := by simpa using h1
  refine ⟨hlt, by simpa using h2, ?_, ?_, ?_, h6⟩
  · intro j hj
    have ho : ops[i]? = some ops[i] := Array.getElem?_eq_getElem hlt
    unfold waits at h3
    rw [ho] at h3
    obtain ⟨e, he, hb, hon⟩ := (dep_edge ho).1 hj
    have := Array.all_eq_true_iff_forall_mem.1 h3 e he
    rw [hb, hon] at this
    simpa using this
  · intro j hj
    have hjlt : j < ops.size := by
      rcases Nat.lt_or_ge j ops.size with h | h
      · exact h
      · exfalso
        unfold clash dstAt at hj
        rw [Array.getElem?_eq_none h] at hj
        cases hi : ops[i]? <;> simp [hi] at hj
    have := List.all_eq_true.1 h4 j (List.mem_range.2 hjlt)
    rw [hj] at this
    simp only [Bool.not_true, Bool.false_or, Bool.or_eq_true] at this
    rcases this with (h | h) | h
    · exact .inl (Nat.eq_of_beq_eq_true h)
    · exact .inr (.inl h)
    · exact .inr (.inr h)
  · intro hn p hp
    rw [hn] at h5
    simpa using List.all_eq_true.1 h5 p hp

theorem okOrd_all : ∀ {rest : List (Nat × Bool)} {seen : List Nat}, okOrd ops seen rest = true → ∀ i, i < ops.size → i ∉ seen → i ∈ rest.map (·.1)
  | [], seen, h, i, hi, hn => by
    unfold okOrd at h
    have := List.all_eq_true.1 h i (List.mem_range.2 hi)
    exact absurd (by simpa using this) hn
  | (j, b) :: rest, seen, h, i, hi, hn => by
    have h' := okOrd_cons h
    by_cases hij : i = j
    · subst hij; simp
    · rw [List.map_cons, List.mem_cons]
      exact .inr (okOrd_all h'.2.2.2.2.2 i hi (by simp [hij, hn]))

theorem Chrono.split {i : Nat} {x : Value} : ∀ {ra rp : List (Nat × Value)}, Chrono ops (ra ++ (i, x) :: rp) →
    i < ops.size ∧ i ∉ rp.map (·.1) ∧ i ∉ ra.map (·.1) ∧ (∀ j, dep ops i j = true → j ∈ rp.map (·.1)) ∧ (∀ j, clash ops i j = true → i = j ∨ dep ops i j = true ∨ dep ops j i = true)
  | [], _, h => ⟨h.1, h.2.1, by simp, h.2.2.1, h.2.2.2.1⟩
  | (j, y) :: ra, rp, h => by
    have ih := Chrono.split h.2.2.2.2
    refine ⟨ih.1, ih.2.1, ?_, ih.2.2.2.1, ih.2.2.2.2⟩
    rw [List.map_cons, List.mem_cons]
    rintro (e | e)
    · subst e; exact h.2.1 (by simp)
    · exact ih.2.2.1 e

theorem Chrono.deps {i j : Nat} : ∀ {rp : List (Nat × Value)}, Chrono ops rp → i ∈ rp.map (·.1) → dep ops i j = true → j ∈ rp.map (·.1)
  | (l, y) :: rp, h, hi, hd => by
    rw [List.map_cons, List.mem_cons] at hi ⊢
    rcases hi with e | e
    · subst e; exact .inr (h.2.2.1 j hd)
    · exact .inr (Chrono.deps h.2.2.2.2 e hd)

theorem clash_looks {i j t : Nat} {o : Oper} (hi : ops[i]? = some o) (ht : t ∈ o.looksAt ops) (hj : dstAt ops j = some t) : clash ops i j = true := by
  unfold clash
  rw [hi, hj]
  simp [ht]

theorem clash_dst {i j t : Nat} (hi : dstAt ops i = some t) (hj : dstAt ops j = some t) : clash ops i j = true := by
  unfold clash
  rw [hj]
  unfold dstAt at hi
  cases ho : ops[i]? with
  | none => rw [ho] at hi; simp at hi
  | some o => rw [ho] at hi; simp at hi; simp [hi]

/-- Along the list to an operation that may run now. -/
theorem advance {e0 : Env} {H : World → Prop} {L : Nat → Bool} {i : Nat} (hi : i < ops.size) (hdeps : ∀ j, dep ops i j = true → L j = true) :
    ∀ (rest : List (Nat × Bool)) (rp : List (Nat × Value)), Chrono ops rp → okOrd ops (rp.map (·.1)) rest = true →
      vcChain P ops le k rest (envP ops (fun _ => true) e0 rp) H → Pend P ops le L e0 H rp → (∀ j, L j = true → j ∈ rp.map (·.1)) → i ∉ rp.map (·.1) →
      ∃ ra rest2, (∀ p ∈ ra, L p.1 = false) ∧ Chrono ops (ra ++ rp) ∧ Pend P ops le L e0 H (ra ++ rp) ∧ okOrd ops ((ra ++ rp).map (·.1)) rest2 = true ∧
        vcChain P ops le k rest2 (envP ops (fun _ => true) e0 (ra ++ rp)) H ∧ (i ∈ (ra ++ rp).map (·.1) ∨ (i ∉ (ra ++ rp).map (·.1) ∧ ∃ rest3, rest2 = (i, true) :: rest3)) ∧ ∃ pre, pre ++ rest2 = rest := by
  intro rest
  induction rest with
  | nil => intro rp _ hord _ _ _ hn; exact absurd (okOrd_all hord i hi hn) (by simp)
  | cons p rest ih =>
    obtain ⟨j, non⟩ := p
    intro rp hch hord hv hp hL hn
    have ho := okOrd_cons hord
    have hLj : L j = false := by
      cases h : L j with
      | false => rfl
      | true => exact absurd (hL j h) ho.2.1
    have hoj : ops[j]? = some ops[j] := Array.getElem?_eq_getElem ho.1
    cases non with
    | true =>
      by_cases hij : i = j
      · subst hij
        exact ⟨[], (i, true) :: rest, by simp, hch, hp, hord, hv, .inr ⟨hn, rest, rfl⟩, [], rfl⟩
      · exfalso
        have hmem := okOrd_all ho.2.2.2.2.2 i hi (by simp [hij]; simpa using hn)
        obtain ⟨p, hp', rfl⟩ := List.mem_map.1 hmem
        have := hdeps j (ho.2.2.2.2.1 rfl p hp')
        rw [hLj] at this
        cases this
    | false =>
      have hv : (match ops[j]? with
        | none => False
        | some o => bif false then xNon le H (fun w K => vcO P ops (envP ops (fun _ => true) e0 rp) o w K) fun v h => vcChain P ops le k rest (updO (envP ops (fun _ => true) e0 rp) o.dst v) fun w => H w ∧ h w
          else xDet le H (fun w K => vcO P ops (envP ops (fun _ => true) e0 rp) o w K) fun x => vcChain P ops le k rest (updO (envP ops (fun _ => true) e0 rp) o.dst x) H) := hv
      rw [hoj] at hv
      simp only [cond_false] at hv
      obtain ⟨x, hrun, hnext⟩ := hv.out
      have hd : ops[j].dst = dstAt ops j := by unfold dstAt; rw [hoj]; rfl
      rw [hd, ← envP_cons ops (fun _ => true) e0 j x rp rfl] at hnext
      have hch' : Chrono ops ((j, x) :: rp) := ⟨ho.1, ho.2.1, ho.2.2.1, ho.2.2.2.1, hch⟩
      have hp' : Pend P ops le L e0 H ((j, x) :: rp) := ⟨fun _ o ho' w hw => by rw [hoj] at ho'; obtain rfl := Option.some.inj ho'; exact hrun w hw, hp⟩
      by_cases hij : i = j
      · subst hij
        exact ⟨[(i, x)], rest, by simpa using hLj, hch', hp', by simpa using ho.2.2.2.2.2, hnext, .inl (by simp), [(i, false)], rfl⟩
      · obtain ⟨ra, rest2, h1, h2, h3, h4, h5, h6, pre, hpre⟩ := ih ((j, x) :: rp) hch' (by simpa using ho.2.2.2.2.2) hnext hp' (fun l hl => by simp; exact .inr (by simpa using hL l hl)) (by simp [hij]; simpa using hn)
        have e : (ra ++ [(j, x)]) ++ rp = ra ++ (j, x) :: rp := by simp
        refine ⟨ra ++ [(j, x)], rest2, ?_, ?_, ?_, ?_, ?_, ?_, (j, false) :: pre, by rw [List.cons_append, hpre]⟩
        · intro p hp
          rcases List.mem_append.1 hp with h | h
          · exact h1 p h
          · simp at h; subst h; exact hLj
        all_goals rw [e]; assumption

def LL (listed : Array Bool) : Nat → Bool := fun i => listed.getD i false

theorem LL_set {listed : Array Bool} {i : Nat} (hi : i < listed.size) (j : Nat) : LL (listed.setIfInBounds i true) j = (LL listed j || Nat.beq j i) := by
  unfold LL
  by_cases hij : i = j
  · subst hij; simp [hi, Nat.beq_refl]
  · have : Nat.beq j i = false := by rw [Bool.eq_false_iff]; exact fun hb => hij (Nat.eq_of_beq_eq_true hb).symm
    rw [getD_set_ne false hij, this, Bool.or_false]

theorem getD_true_false {listed : Array Bool} {i : Nat} (hi : i < listed.size) : listed.getD i true = listed.getD i false := by
  simp [hi]

def left (ops : Array Oper) (listed : Array Bool) : Nat := ((List.range ops.size).filter fun i => !LL listed i).length

theorem left_set {listed : Array Bool} {i : Nat} (hs : listed.size = ops.size) (hi : i < ops.size) (hL : LL listed i = false) :
    left ops (listed.setIfInBounds i true) < left ops listed := by
  unfold left
  have key : ∀ (l : List Nat), l.Nodup → i ∈ l → (l.filter fun j => !LL (listed.setIfInBounds i true) j).length < (l.filter fun j => !LL listed j).length := by
    have mono : ∀ (l : List Nat), (l.filter fun j => !LL (listed.setIfInBounds i true) j).length ≤ (l.filter fun j => !LL listed j).length := by
      intro l
      induction l with
      | nil => simp
      | cons j l ih =>
        rw [List.filter_cons, List.filter_cons, LL_set (by omega)]
        cases h : LL listed j <;> cases h2 : Nat.beq j i <;> simp <;> omega
    intro l
    induction l with
    | nil => intro _ h; cases h
    | cons j l ih =>
      intro hn hm
      rw [List.filter_cons, List.filter_cons, LL_set (by omega)]
      rcases List.mem_cons.1 hm with e | e
      · subst e
        have := mono l
        simp [hL, Nat.beq_refl]
        omega
      · have := ih (List.nodup_cons.1 hn).2 e
        cases h : LL listed j <;> cases h2 : Nat.beq j i <;> simp <;> omega
  exact key _ List.nodup_range (List.mem_range.2 hi)

/-- Where none may run, all have. -/
theorem all_run {listed : Array Bool} (hs : listed.size = ops.size) (hr : Region.ready .any ops listed = []) {rp : List (Nat × Value)} {rest : List (Nat × Bool)} (hch : Chrono ops rp)
    (hord : okOrd ops (rp.map (·.1)) rest = true) (hL : ∀ j, LL listed j = true → j ∈ rp.map (·.1)) : rest = [] ∧ ∀ p ∈ rp, LL listed p.1 = true := by
  have ready : ∀ i, i < ops.size → LL listed i = false → (∀ j, dep ops i j = true → LL listed j = true) → False := by
    intro i hi h0 hd
    have ho : ops[i]? = some ops[i] := Array.getElem?_eq_getElem hi
    have : i ∈ Region.ready .any ops listed := mem_ready.2 ⟨by rw [getD_true_false (by omega)]; exact h0, ops[i], ho, fun e he hb => hd e.on ((dep_edge ho).2 ⟨e, he, hb, rfl⟩)⟩
    rw [hr] at this
    cases this
  have hall : ∀ (rp : List (Nat × Value)), Chrono ops rp → ∀ p ∈ rp, LL listed p.1 = true := by
    intro rp
    induction rp with
    | nil => intro _ p hp; cases hp
    | cons q rp ih =>
      obtain ⟨i, x⟩ := q
      intro hch p hp
      have ih' := ih hch.2.2.2.2
      rcases List.mem_cons.1 hp with e | e
      · subst e
        cases h : LL listed i with
        | true => rfl
        | false =>
          exfalso
          refine ready i hch.1 h fun j hj => ?_
          obtain ⟨q, hq, rfl⟩ := List.mem_map.1 (hch.2.2.1 j hj)
          exact ih' q hq
      · exact ih' p e
  refine ⟨?_, hall rp hch⟩
  cases rest with
  | nil => rfl
  | cons q rest =>
    obtain ⟨i, non⟩ := q
    have ho := okOrd_cons hord
    exfalso
    refine ready i ho.1 ?_ fun j hj => ?_
    · cases h : LL listed i with
      | false => rfl
      | true => exact absurd (hL i h) ho.2.1
    · obtain ⟨q, hq, rfl⟩ := List.mem_map.1 (ho.2.2.1 j hj)
      exact hall rp hch q hq

theorem wpAny_done {Q : Exit → Act → World → Prop} {listed : Array Bool} {a : Act} {w : World} (hr : Region.ready .any ops listed = []) (hq : Q .normal a w) : ∀ fuel, wpAny P .any ops Q fuel listed a w
  | 0 => ⟨hr, hq⟩
  | _ + 1 => ⟨fun _ => hq, fun i hi => by rw [hr] at hi; cases hi⟩
/-- Where the one that waits for all may run, all others have. -/
theorem sink_done {L : Nat → Bool} {i : Nat} (hsink : Sink ops i) (hdeps : ∀ j, dep ops i j = true → L j = true) (hdown : ∀ i, L i = true → ∀ j, dep ops i j = true → L j = true)
    {rq : List (Nat × Value)} (hch : Chrono ops rq) (hni : i ∉ rq.map (·.1)) (hall : ∀ l, l < ops.size → l ≠ i → l ∈ rq.map (·.1)) : ∀ p ∈ rq, L p.1 = true := by
  have key : ∀ (rp ra : List (Nat × Value)), rq = ra ++ rp → (∀ p ∈ ra, L p.1 = true) → ∀ p ∈ rp, L p.1 = true := by
    intro rp
    induction rp with
    | nil => intro ra _ _ p hp; cases hp
    | cons q rp ih =>
      obtain ⟨j, x⟩ := q
      intro ra he hra
      have hj : L j = true := by
        rw [he] at hch
        have hs := Chrono.split hch
        have hji : j ≠ i := fun e => hni (by rw [he]; simp [e])
        obtain ⟨l, hl⟩ := hsink j hs.1 hji
        have hlt : l < ops.size := by
          rcases Nat.lt_or_ge l ops.size with h | h
          · exact h
          · exfalso; unfold dep at hl; rw [Array.getElem?_eq_none h] at hl; cases hl
        by_cases hli : l = i
        · subst hli; exact hdeps j hl
        · have hm := hall l hlt hli
          rw [he, List.map_append, List.mem_append, List.map_cons, List.mem_cons] at hm
          rcases hm with hm | hm | hm
          · obtain ⟨p, hp, rfl⟩ := List.mem_map.1 hm
            exact hdown p.1 (hra p hp) j hl
          · simp only at hm
            subst hm
            exact absurd (hs.2.2.2.1 l hl) hs.2.1
          · have hch2 : Chrono ops rp := by
              clear ih hra he hall hs hsink
              induction ra with
              | nil => exact hch.2.2.2.2
              | cons a ra iha => exact iha hch.2.2.2.2
            exact absurd (Chrono.deps hch2 hm hl) hs.2.1
      intro p hp
      rcases List.mem_cons.1 hp with e | e
      · rw [e]; exact hj
      · exact ih (ra ++ [(j, x)]) (by rw [he]; simp) (fun p hp => by
          rcases List.mem_append.1 hp with h | h
          · exact hra p h
          · simp at h; rw [h]; exact hj) p e
  exact key rq [] rfl (by simp)

theorem chain_any (hok : okOps n ops = true) (hle : ∀ a b c, le a b → le b c → le a c) (D : List Nat) (e1 e0 : Env) (hD : ∀ o ∈ ops.toList, ∀ t, o.dst = some t → t ∈ D) (he : ∀ t, t ∉ D → e0 t = e1 t)
    (ord0 : List (Nat × Bool)) (hS : ∀ i, ord0.getLast? = some (i, true) → Sink ops i) :
    ∀ (fuel : Nat) (listed : Array Bool) (a : Act) (w : World) (rp : List (Nat × Value)) (rest : List (Nat × Bool)) (H : World → Prop),
      Chrono ops rp → okOrd ops (rp.map (·.1)) rest = true → (∃ pre, pre ++ rest = ord0) → vcChain P ops le k rest (envP ops (fun _ => true) e0 rp) H → Pend P ops le (LL listed) e0 H rp →
      H w → (∀ w w', H w → le w w' → H w') → a.tmps.size = n → a.defers = [] → envOf a = envP ops (LL listed) e0 rp → listed.size = ops.size →
      (∀ j, LL listed j = true → j ∈ rp.map (·.1)) → (∀ i, LL listed i = true → ∀ j, dep ops i j = true → LL listed j = true) → left ops listed ≤ fuel →
      wpAny P .any ops (fun x a' w' => x = .normal ∧ a'.tmps.size = n ∧ a'.defers = [] ∧ (∀ t, t ∉ D → envOf a' t = e1 t) ∧ k (envOf a') w') fuel listed a w := by
  have hok' := okOps_spec hok
  have hlt : ∀ (i : Nat) (o : Oper), ops[i]? = some o → ∀ t, o.dst = some t → t < n := fun i o hi t ht => hok'.2 o (by simpa using Array.mem_of_getElem? hi) t ht
  -- what holds where nothing may run any more
  have fin : ∀ (listed : Array Bool) (a : Act) (w : World) (rp : List (Nat × Value)) (rest : List (Nat × Bool)) (H : World → Prop),
      Region.ready .any ops listed = [] → Chrono ops rp → okOrd ops (rp.map (·.1)) rest = true → vcChain P ops le k rest (envP ops (fun _ => true) e0 rp) H → H w → a.tmps.size = n → a.defers = [] →
      envOf a = envP ops (LL listed) e0 rp → listed.size = ops.size → (∀ j, LL listed j = true → j ∈ rp.map (·.1)) →
      (a.tmps.size = n ∧ a.defers = [] ∧ (∀ t, t ∉ D → envOf a t = e1 t) ∧ k (envOf a) w) := by
    intro listed a w rp rest H hr hch hord hv hH hn hd hea hs hL
    obtain ⟨rfl, hall⟩ := all_run hs hr hch hord hL
    have hee : envP ops (LL listed) e0 rp = envP ops (fun _ => true) e0 rp := by
      funext t
      exact envP_at ops _ _ e0 t rp fun p hp _ => hall p hp
    refine ⟨hn, hd, ?_, ?_⟩
    · intro t ht
      rw [hea, envP_other ops _ e0 t rp, he t ht]
      intro p hp hpt
      unfold dstAt at hpt
      cases ho : ops[p.1]? with
      | none => rw [ho] at hpt; simp at hpt
      | some o => rw [ho] at hpt; simp at hpt; exact ht (hD o (by simpa using Array.mem_of_getElem? ho) t hpt)
    · rw [hea, hee]
      exact hv.out w hH
  intro fuel
  induction fuel with
  | zero =>
    intro listed a w rp rest H hch hord hpre hv hp hH hst hn hd hea hs hL hdown hleft
    have hr : Region.ready .any ops listed = [] := by
      cases hr : Region.ready .any ops listed with
      | nil => rfl
      | cons i l =>
        exfalso
        have hi : i ∈ Region.ready .any ops listed := by rw [hr]; exact List.mem_cons_self ..
        obtain ⟨h0, o, ho, _⟩ := mem_ready.1 hi
        have hil : i < ops.size := (Array.getElem?_eq_some_iff.1 ho).1
        rw [getD_true_false (by omega)] at h0
        have := left_set hs hil h0
        omega
    exact ⟨hr, rfl, fin listed a w rp rest H hr hch hord hv hH hn hd hea hs hL⟩
  | succ fuel ih =>
    intro listed a w rp rest H hch hord hpre hv hp hH hst hn hd hea hs hL hdown hleft
    refine ⟨fun hr => ⟨rfl, fin listed a w rp rest H hr hch hord hv hH hn hd hea hs hL⟩, fun i hi => ?_⟩
    obtain ⟨h0, o, ho, hdeps0⟩ := mem_ready.1 hi
    have hil : i < ops.size := (Array.getElem?_eq_some_iff.1 ho).1
    rw [getD_true_false (by omega)] at h0
    have h0' : LL listed i = false := h0
    have hdeps : ∀ j, dep ops i j = true → LL listed j = true := fun j hj => by
      obtain ⟨e, he, hb, rfl⟩ := (dep_edge ho).1 hj
      exact hdeps0 e he hb
    have hd0 : o.dst = dstAt ops i := by unfold dstAt; rw [ho]; rfl
    have hL' := LL_set (listed := listed) (i := i) (by omega)
    have hLmono : ∀ j, LL listed j = true → LL (listed.setIfInBounds i true) j = true := fun j hj => by rw [hL' j, hj]; rfl
    have hLi : LL (listed.setIfInBounds i true) i = true := by rw [hL' i, Nat.beq_refl]; simp
    have hLne : ∀ j, j ≠ i → LL (listed.setIfInBounds i true) j = LL listed j := fun j hj => by
      rw [hL' j]
      have : Nat.beq j i = false := by rw [Bool.eq_false_iff]; exact fun hb => hj (Nat.eq_of_beq_eq_true hb)
      rw [this, Bool.or_false]
    have hdown' : ∀ l, LL (listed.setIfInBounds i true) l = true → ∀ j, dep ops l j = true → LL (listed.setIfInBounds i true) j = true := by
      intro l hl j hj
      by_cases hli : l = i
      · subst hli; exact hLmono j (hdeps j hj)
      · rw [hLne l hli] at hl; exact hLmono j (hdown l hl j hj)
    have hlefts := left_set hs hil h0'
    have hss : (listed.setIfInBounds i true).size = ops.size := by simp [hs]
    -- the list as far as i
    have hadv : ∃ ra rest2, (∀ p ∈ ra, LL listed p.1 = false) ∧ Chrono ops (ra ++ rp) ∧ Pend P ops le (LL listed) e0 H (ra ++ rp) ∧ okOrd ops ((ra ++ rp).map (·.1)) rest2 = true ∧
        vcChain P ops le k rest2 (envP ops (fun _ => true) e0 (ra ++ rp)) H ∧ (i ∈ (ra ++ rp).map (·.1) ∨ (i ∉ (ra ++ rp).map (·.1) ∧ ∃ rest3, rest2 = (i, true) :: rest3)) ∧ ∃ pre, pre ++ rest2 = rest := by
      by_cases hm : i ∈ rp.map (·.1)
      · exact ⟨[], rest, by simp, hch, hp, hord, hv, .inl hm, [], rfl⟩
      · exact advance hil hdeps rest rp hch hord hv hp hL hm
    obtain ⟨ra, rest2, hra, hch2, hp2, hord2, hv2, hcase, pre1, hpre1⟩ := hadv
    have hpre2 : ∃ pre, pre ++ rest2 = ord0 := by
      obtain ⟨pre0, h0⟩ := hpre
      exact ⟨pre0 ++ pre1, by rw [List.append_assoc, hpre1, h0]⟩
    have hea2 : envOf a = envP ops (LL listed) e0 (ra ++ rp) := by
      rw [hea]
      funext t
      exact (envP_app ops _ e0 t ra rp fun p hp _ => hra p hp).symm
    have hL2 : ∀ j, LL listed j = true → j ∈ (ra ++ rp).map (·.1) := fun j hj => by
      rw [List.map_append, List.mem_append]; exact .inr (hL j hj)
    have hL2' : ∀ rq : List (Nat × Value), (∀ j, j ∈ (ra ++ rp).map (·.1) → j ∈ rq.map (·.1)) → i ∈ rq.map (·.1) → ∀ j, LL (listed.setIfInBounds i true) j = true → j ∈ rq.map (·.1) := fun rq hsub hirq j hj => by
      by_cases hji : j = i
      · subst hji; exact hirq
      · rw [hLne j hji] at hj; exact hsub j (hL2 j hj)
    generalize hrq : ra ++ rp = rq at *
    rcases hcase with hin | ⟨hnin, rest3, rfl⟩
    · -- its value is fixed
      obtain ⟨⟨i', x⟩, hm, hii⟩ := List.mem_map.1 hin
      simp only at hii
      subst hii
      obtain ⟨rA, rB, rfl⟩ := List.append_of_mem hm
      have hsp := Chrono.split hch2
      have hrun := Pend.split hp2 h0' o ho w hH
      -- those behind i in the list: none that has run writes what i looks at or writes
      have behind : ∀ t, (∀ j, dstAt ops j = some t → clash ops i' j = true) → ∀ p ∈ rA, dstAt ops p.1 = some t → LL listed p.1 = false := by
        intro t hcl p hp hpt
        have hpi : p.1 ≠ i' := fun e => hsp.2.2.1 (e ▸ List.mem_map_of_mem hp)
        rcases hsp.2.2.2.2 p.1 (hcl p.1 hpt) with e | e | e
        · exact absurd e.symm hpi
        · exfalso
          have hmemB := hsp.2.2.2.1 p.1 e
          -- p stands behind i and ahead of it
          obtain ⟨rC, rD, hCD⟩ := List.append_of_mem hp
          rw [hCD, List.append_assoc, List.cons_append] at hch2
          have := (Chrono.split (i := p.1) (x := p.2) hch2).2.1
          exact this (by simp; exact .inr (.inr (by simpa using hmemB)))
        · cases h : LL listed p.1 with
          | false => rfl
          | true => have := hdown p.1 h i' e; rw [h0'] at this; cases this
      refine vcO_wpOp (N := wpAny P .any ops _ fuel (listed.setIfInBounds i' true)) ho (fun cs b => Region.noSelect_spec hok'.1 i' o cs b ho) ?_ hrun fun v w' hvw => ?_
      · intro t ht
        have hcl : ∀ j, dstAt ops j = some t → clash ops i' j = true := fun j hj => clash_looks ho ht hj
        rw [hea2, envP_app ops _ e0 t rA _ (behind t hcl), envP_skip _ _ _ _ _ _ h0']
        refine envP_at ops _ _ e0 t rB fun p hp hpt => ?_
        rcases hsp.2.2.2.2 p.1 (hcl p.1 hpt) with e | e | e
        · exact absurd (e ▸ List.mem_map_of_mem hp) hsp.2.1
        · exact hdeps p.1 e
        · exfalso
          have hchB : Chrono ops rB := by
            clear hm hin hp2 hv2 hord2 hea2 hL2 hL2' hrun behind hsp hrq
            induction rA with
            | nil => exact hch2.2.2.2.2
            | cons q rA ihA => exact ihA hch2.2.2.2.2
          exact hsp.2.1 (Chrono.deps hchB (List.mem_map_of_mem hp) e)
      · obtain ⟨rfl, hle'⟩ := hvw
        refine ih (listed.setIfInBounds i' true) _ w' _ rest2 H hch2 hord2 hpre2 hv2 (Pend.imp (fun j hj => ?_) (fun _ h => h) hp2) (hst _ _ hH hle') hst (by rw [put_size]; exact hn) (by rw [put_defers0]; exact hd) ?_ hss
          (hL2' _ (fun j hj => hj) hin) hdown' (by omega)
        · cases h : LL listed j with
          | false => rfl
          | true => rw [hLmono j h] at hj; cases hj
        · rw [envOf_put _ _ _ (fun t h => by rw [hn]; exact hlt i' o ho t h), hea2, hd0]
          funext t
          by_cases ht : dstAt ops i' = some t
          · have hcl : ∀ j, dstAt ops j = some t → clash ops i' j = true := fun j hj => clash_dst ht hj
            rw [envP_app ops (LL (listed.setIfInBounds i' true)) e0 t rA _ fun p hp hpt => by
              rw [hLne p.1 fun e => hsp.2.2.1 (e ▸ List.mem_map_of_mem hp)]; exact behind t hcl p hp hpt]
            rw [envP_cons _ _ _ _ _ _ hLi, ht]
            simp [updO, upd, Nat.beq_refl]
          · rw [updO_other _ _ _ _ ht]
            refine envP_at ops _ _ e0 t _ fun p hp hpt => ?_
            rw [hLne p.1 fun e => ht (e ▸ hpt)]
    · -- its value is open: all that stand behind it wait
      have ho2 := okOrd_cons hord2
      cases rest3 with
      | nil =>
        have hv3 : (match ops[i]? with
          | none => False
          | some o => xEnd H fun w => vcO P ops (envP ops (fun _ => true) e0 rq) o w fun v w' => k (updO (envP ops (fun _ => true) e0 rq) o.dst v) w') := hv2
        rw [ho] at hv3
        simp only at hv3
        obtain ⟨pre, hpre'⟩ := hpre2
        have hsink := hS i (by rw [← hpre']; simp)
        have hmem : ∀ l, l < ops.size → l ≠ i → l ∈ rq.map (·.1) := fun l hl hli => by
          by_cases hm : l ∈ rq.map (·.1)
          · exact hm
          · have := okOrd_all hord2 l hl hm
            simp at this
            exact absurd this hli
        have hallq := sink_done hsink hdeps hdown hch2 hnin hmem
        have hee : envP ops (LL listed) e0 rq = envP ops (fun _ => true) e0 rq := funext fun t => envP_at ops _ _ e0 t rq fun p hp _ => hallq p hp
        refine vcO_wpOp (N := wpAny P .any ops _ fuel (listed.setIfInBounds i true)) ho (fun cs b => Region.noSelect_spec hok'.1 i o cs b ho) ?_ (hv3.out w hH) fun v w' hk => ?_
        · intro t _
          rw [hea2, hee]
        · have hall' : ∀ j, j < ops.size → LL (listed.setIfInBounds i true) j = true := fun j hj => by
            by_cases hji : j = i
            · subst hji; exact hLi
            · obtain ⟨p, hp, rfl⟩ := List.mem_map.1 (hmem j hj hji)
              exact hLmono _ (hallq p hp)
          have hr' : Region.ready .any ops (listed.setIfInBounds i true) = [] := by
            cases hr : Region.ready .any ops (listed.setIfInBounds i true) with
            | nil => rfl
            | cons m l =>
              exfalso
              have hm : m ∈ Region.ready .any ops (listed.setIfInBounds i true) := by rw [hr]; exact List.mem_cons_self ..
              obtain ⟨hm0, om, hom, _⟩ := mem_ready.1 hm
              have hml : m < ops.size := (Array.getElem?_eq_some_iff.1 hom).1
              rw [getD_true_false (by omega)] at hm0
              have := hall' m hml
              unfold LL at this
              rw [this] at hm0
              cases hm0
          have henv : envOf (a.put o.dst v) = updO (envP ops (fun _ => true) e0 rq) o.dst v := by
            rw [envOf_put _ _ _ (fun t h => by rw [hn]; exact hlt i o ho t h), hea2, hee]
          refine wpAny_done hr' ⟨rfl, by rw [put_size]; exact hn, by rw [put_defers0]; exact hd, fun t ht => ?_, by rw [henv]; exact hk⟩ fuel
          rw [henv, updO_other _ _ _ _ (fun e => ht (hD o (by simpa using Array.mem_of_getElem? ho) t e)), envP_other ops _ e0 t rq, he t ht]
          intro p hp hpt
          unfold dstAt at hpt
          cases hop : ops[p.1]? with
          | none => rw [hop] at hpt; simp at hpt
          | some o' => rw [hop] at hpt; simp at hpt; exact ht (hD o' (by simpa using Array.mem_of_getElem? hop) t hpt)
      | cons q3 rest4 =>
      have hv2 : (match ops[i]? with
        | none => False
        | some o => bif true then xNon le H (fun w K => vcO P ops (envP ops (fun _ => true) e0 rq) o w K) fun v h => vcChain P ops le k (q3 :: rest4) (updO (envP ops (fun _ => true) e0 rq) o.dst v) fun w => H w ∧ h w
          else xDet le H (fun w K => vcO P ops (envP ops (fun _ => true) e0 rq) o w K) fun x => vcChain P ops le k (q3 :: rest4) (updO (envP ops (fun _ => true) e0 rq) o.dst x) H) := hv2
      rw [ho] at hv2
      simp only [cond_true] at hv2
      obtain ⟨V, hVst, hrun, hnext⟩ := hv2.out
      refine vcO_wpOp (N := wpAny P .any ops _ fuel (listed.setIfInBounds i true)) ho (fun cs b => Region.noSelect_spec hok'.1 i o cs b ho) ?_ (hrun w hH) fun v w' hvw => ?_
      · intro t ht
        rw [hea2]
        refine envP_at ops _ _ e0 t rq fun p hp hpt => ?_
        rcases ho2.2.2.2.1 p.1 (clash_looks ho ht hpt) with e | e | e
        · exact absurd (e ▸ List.mem_map_of_mem hp) hnin
        · exact hdeps p.1 e
        · exact absurd (Chrono.deps hch2 (List.mem_map_of_mem hp) e) hnin
      · have hch3 : Chrono ops ((i, v) :: rq) := ⟨ho2.1, ho2.2.1, ho2.2.2.1, ho2.2.2.2.1, hch2⟩
        refine ih (listed.setIfInBounds i true) _ w' ((i, v) :: rq) (q3 :: rest4) (fun w => H w ∧ V v w) hch3 (by simpa using ho2.2.2.2.2.2) (by obtain ⟨pre, hp⟩ := hpre2; exact ⟨pre ++ [(i, true)], by rw [← hp]; simp⟩) ?_ ⟨fun h => (by rw [hLi] at h; cases h), Pend.imp (fun j hj => ?_) (fun _ h => h.1) hp2⟩
          ⟨hst _ _ hH hvw.2, hvw.1⟩ (fun w w' h hl => ⟨hst _ _ h.1 hl, hVst _ _ _ h.2 hl⟩) (by rw [put_size]; exact hn) (by rw [put_defers0]; exact hd) ?_ hss
          (hL2' _ (fun j hj => List.mem_cons_of_mem _ hj) (by simp)) hdown' (by omega)
        · have := hnext v
          rw [hd0, ← envP_cons ops (fun _ => true) e0 i v rq rfl] at this
          exact this
        · cases h : LL listed j with
          | false => rfl
          | true => rw [hLmono j h] at hj; cases hj
        · rw [envOf_put _ _ _ (fun t h => by rw [hn]; exact hlt i o ho t h), hea2, hd0, envP_cons _ _ _ _ _ _ hLi]
          congr 1
          funext t
          refine envP_at ops _ _ e0 t rq fun p hp _ => ?_
          rw [hLne p.1 fun e => hnin (e ▸ List.mem_map_of_mem hp)]

theorem draw_sound (hm : P.follows .mixedOrders = true) {id : Nat} {t : Told} (hok : okDraw n ops t = true) (D : List Nat) (hD : ∀ o ∈ ops.toList, ∀ t, o.dst = some t → t ∈ D)
    {a : Act} {w : World} (hn : a.tmps.size = n) (hd : a.defers = []) (h : xDraw w.drew fun le H => vcChain P ops le k (ordOf t) (envOf a) H) :
    (Code.region id ops true).wp P (fun x a' w' => x = .normal ∧ a'.tmps.size = n ∧ a'.defers = [] ∧ (∀ t, t ∉ D → envOf a' t = envOf a t) ∧ k (envOf a') w') a w := by
  obtain ⟨le, hrefl, htrans, hc⟩ := h.out
  have hok : okOps n ops = true ∧ okTold ops t = true ∧ tailOk t = true := by
    unfold okDraw at hok
    cases h : okOps n ops with
    | false => rw [h] at hok; cases hok
    | true =>
      rw [h] at hok
      simp only [cond_true] at hok
      cases h2 : tailOk t with
      | false => rw [h2] at hok; cases hok
      | true => rw [h2] at hok; exact ⟨rfl, hok, rfl⟩
  have hS : ∀ i, (ordOf t).getLast? = some (i, true) → Sink ops i := by
    intro i hi j hj hji
    have hl := lastOf_ord hi
    have ht := hok.2.2
    unfold tailOk at ht
    rw [hl] at ht
    obtain ⟨hrow, hall⟩ := told_rows hok.2.1
    obtain ⟨q, hq, hqj⟩ := hall j hj
    have h1 := allL_mem ht q hq
    have h2 : Nat.beq q.1 i = false := by rw [Bool.eq_false_iff]; exact fun hb => hji (hqj ▸ Nat.eq_of_beq_eq_true hb)
    simp only [h2, cond_false] at h1
    obtain ⟨q', hq', hb⟩ := orDep_bit h1
    rw [hqj] at hb
    exact ⟨q'.1, (rowOf_dep (hrow q' hq')).1 hb⟩
  have hLL : ∀ i, LL (Array.replicate ops.size false) i = false := fun i => by
    unfold LL
    by_cases hi : i < ops.size <;> simp [hi]
  refine wp_region_any hm ?_
  refine chain_any hok.1 htrans D (envOf a) (envOf a) hD (fun _ _ => rfl) (ordOf t) hS ops.size _ a w.drew [] (ordOf t) (le w.drew) trivial (okOrd_told hok.2.1) ⟨[], rfl⟩ hc trivial (hrefl _) (fun _ _ h h' => htrans _ _ _ h h') hn hd rfl (by simp) (fun j hj => ?_) (fun i hi => ?_) ?_
  · rw [hLL j] at hj; cases hj
  · rw [hLL i] at hi; cases hi
  · unfold left
    exact Nat.le_trans (List.length_filter_le ..) (by simp)

end
end
end Go.Sh
