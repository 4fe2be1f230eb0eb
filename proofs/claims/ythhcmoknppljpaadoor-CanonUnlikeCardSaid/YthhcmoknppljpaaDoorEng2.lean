/- The shallow reading suffices for the machine's run: operations, regions in order, code without open orders. -/
import Derived.Test.YthhcmoknppljpaaDoorEng1
set_option linter.unusedVariables false
set_option linter.unusedSimpArgs false
namespace Go.Sh
noncomputable section

def envOf (a : Act) : Env := fun t => a.tmps.getD t undef

theorem eval_eq (a : Act) : a.eval = opd (envOf a) := by
  funext x; cases x <;> rfl

theorem okN_value (P : Program) (s : Sem Value) (w : World) (K : K1) (h : okV (s.run P w) K) :
    okN P ((do let x ← s; pure (Next.value x) : Sem Next).run P w) K := by
  rw [Sem.run_bind]
  cases hr : s.run P w with
  | ok v w' => rw [hr] at h; simpa [okV, okN] using h
  | halt x w' => rw [hr] at h; exact h.elim

theorem okN_skip (P : Program) (s : Sem Unit) (w : World) (K : K1) (h : okU (s.run P w) K) :
    okN P ((do let _ ← s; pure Next.skip : Sem Next).run P w) K := by
  rw [Sem.run_bind]
  cases hr : s.run P w with
  | ok v w' => rw [hr] at h; simpa [okU, okN] using h
  | halt x w' => rw [hr] at h; exact h.elim

theorem eqGuard_cst (op : BinOp) (t : TypeId) (x y : Operand) (a b : Value) : eqGuard op t x y a b = eqGuard op t (cOp (cst x)) (cOp (cst y)) a b := by
  cases x <;> cases y <;> rfl

theorem vcOp_run (P : Program) (ρ : Env) (o : Oper) (w : World) (K : K1) (h : vcOp P ρ o.op o.type w K) :
    okN P ((execOp (opd ρ) o).run P w) K := by
  obtain ⟨dst, op, type, pos, after, guard⟩ := o
  cases op with
  | move x => exact h
  | assign x => exact h
  | pick c a b =>
    have h := h.out
    simp only [execOp]
    cases hc : opd ρ c with
    | bool t => rw [hc] at h; cases t <;> exact h
    | _ => rw [hc] at h; exact h.elim
  | alloc t => exact okN_value P _ w K h.out
  | box t x => exact okN_value P _ w K h.out
  | build t ps =>
    have he : (ps.toList.map fun p => (p.1, opd ρ p.2)).toArray = ps.map fun (i, x) => (i, opd ρ x) := by rw [← Array.toList_map, Array.toArray_toList]
    have h := h.out
    simp only [he] at h
    exact okN_value P _ w K h
  | buildSlice t n ps =>
    have he : (ps.toList.map fun p => (p.1, opd ρ p.2)).toArray = ps.map fun (i, x) => (i, opd ρ x) := by rw [← Array.toList_map, Array.toArray_toList]
    have h := h.out
    simp only [he] at h
    exact okN_value P _ w K h
  | load t a => exact okN_value P _ w K h.out
  | store t a x => exact okN_skip P _ w K h.out
  | binOp op t x y u =>
    have h := h.out
    rw [← eqGuard_cst] at h
    exact okN_value P _ w K h
  | unOp op t x => exact okN_value P _ w K h.out
  | convert s d x => exact okN_value P _ w K h.out
  | makeInterface t x => exact okN_value P _ w K h.out
  | makeFunc fn a b =>
    have he : ∀ x : Array Operand, (x.toList.map (opd ρ)).toArray = x.map (opd ρ) := fun x => by rw [← Array.toList_map, Array.toArray_toList]
    have h := h.out
    simp only [he] at h
    exact okN_value P _ w K h
  | makeMap t r => exact okN_value P _ w K h.out
  | makeSlice t l c => exact okN_value P _ w K h.out
  | slice t x lo hi mx => exact okN_value P _ w K h.out
  | fieldAddr t x f => exact okN_value P _ w K h.out
  | field t x f => exact okN_value P _ w K h.out
  | indexAddr t x i => exact okN_value P _ w K h.out
  | index t x i => exact okN_value P _ w K h.out
  | lookup t x i ok => exact okN_value P _ w K h.out
  | mapUpdate t m k x => exact okN_skip P _ w K h.out
  | insert t m k x => exact okN_skip P _ w K h.out
  | mapEntry t m k => exact okN_value P _ w K h.out
  | entryStore t m s x => exact okN_skip P _ w K h.out
  | range t x => exact okN_value P _ w K h.out
  | next it s => exact okN_value P _ w K h.out
  | entry it => exact okN_value P _ w K h.out
  | extract t i => exact okN_value P _ w K h.out
  | nilCheck x =>
    have h := h.out
    simp only [execOp]
    cases hx : opd ρ x with
    | pointer p =>
      cases p with
      | none => rw [hx] at h; exact h.elim
      | some p => rw [hx] at h; exact h
    | _ => rw [hx] at h; exact h.elim
  | call c =>
    obtain ⟨callee, args, argTypes⟩ := c
    have he : ∀ x : Array Operand, (x.toList.map (opd ρ)).toArray = x.map (opd ρ) := fun x => by rw [← Array.toList_map, Array.toArray_toList]
    have he' : ∀ x : Array Operand, (x.toList.map cst).toArray = x.map cst := fun x => by rw [← Array.toList_map, Array.toArray_toList]
    cases callee with
    | value f =>
      have h := h.out
      simp only [he] at h
      exact h
    | builtin b =>
      have hc : (fun x : Operand => match x with | .const _ => true | _ => false) = cst := by funext x; cases x <;> rfl
      have h := h.out
      simp only [he, he'] at h
      simp only [execOp, resolve, hc]
      exact h
    | invoke r m => exact h.elim
  | _ => exact h.elim

theorem okN_upon (P : Program) (o : Oper) (a : Act) (next : Act → World → Prop) (Q : Exit → Act → World → Prop) (r : Result Next) (K : K1)
    (h : okN P r K) (hk : ∀ v w', K v w' → next (a.put o.dst v) w') : o.upon P a next Q r := by
  cases r with
  | halt x w => exact h.elim
  | ok n w =>
    cases n with
    | value v => exact hk _ _ h
    | skip => exact hk _ _ h
    | enter f args => exact Calls.mono h fun e w' ⟨v, he, hK⟩ => by subst he; exact hk _ _ hK
    | _ => exact h.elim

theorem wanted_guard (ops : Array Oper) (o : Oper) (a : Act) (j : Nat) (want : Bool) (hg : o.guard = some (j, want)) :
    Region.wanted o (yielded ops a.tmps) = match guardVal ops (envOf a) j with | .bool b => b == want | _ => false := by
  simp only [Region.wanted, hg]
  unfold yielded guardVal
  generalize (ops[j]?).bind (·.dst) = d
  cases d with
  | none => simp [undef]
  | some t =>
    simp only [Option.bind_some, envOf, Array.getD_eq_getD_getElem?]
    cases ht : a.tmps[t]? with
    | none => simp [undef]
    | some v => cases v <;> simp

/-- One operation of a region, from what its shallow reading asks, at slots that agree where it looks. -/
theorem vcO_wpOp {P : Program} {ops : Array Oper} {i : Nat} {o : Oper} {e : Env} {a : Act} {w : World} {K : K1} {N : Act → World → Prop} {Q : Exit → Act → World → Prop}
    (hi : ops[i]? = some o) (hs : ∀ cs b, o.op ≠ .select cs b) (hag : ∀ t ∈ o.looksAt ops, envOf a t = e t) (h : vcO P ops e o w K)
    (hk : ∀ v w', K v w' → N (a.put o.dst v) w') : wpOp P ops Q i N a w := by
  have hop : ∀ x ∈ o.op.operands, opd e x = a.eval x := by
    intro x hx
    rw [eval_eq]
    cases x with
    | tmp t => exact (hag t (List.mem_append_left _ (List.mem_filterMap.2 ⟨.tmp t, by simpa using hx, rfl⟩))).symm
    | _ => rfl
  have hrun : vcOp P e o.op o.type w K → o.wp P a w N Q := by
    intro hv
    have := vcOp_run P e o w K hv
    rw [execOp_congr o hs hop] at this
    exact okN_upon P o a N Q _ K this hk
  unfold wpOp
  rw [hi]
  unfold vcO at h
  cases hg : o.guard with
  | none =>
    rw [hg] at h
    simp only [Region.wanted, hg, if_true]
    exact .inl (hrun h)
  | some jw =>
    obtain ⟨j, want⟩ := jw
    rw [hg] at h
    have hgv : guardVal ops e j = guardVal ops (envOf a) j := by
      unfold guardVal
      cases hd : (ops[j]?).bind (·.dst) with
      | none => rfl
      | some t => exact (hag t (by simp [Oper.looksAt, hg, hd])).symm
    have h := h.out
    simp only [hgv] at h
    simp only [wanted_guard ops o a j want hg]
    cases hv : guardVal ops (envOf a) j with
    | bool b =>
      rw [hv] at h
      simp only at h ⊢
      split
      · rename_i hb; rw [if_pos hb] at h; exact .inl (hrun h)
      · rename_i hb; rw [if_neg hb] at h; exact hk _ _ h
    | _ => rw [hv] at h; simpa using hk _ _ h

/-! ### regions in their text's order -/
def allL {α : Type} (p : α → Bool) (l : List α) : Bool := List.rec (motive := fun _ => Bool) true (fun a _ ih => bif p a then ih else false) l
theorem allL_mem {α : Type} {p : α → Bool} : ∀ {l : List α}, allL p l = true → ∀ a ∈ l, p a = true
  | [], _, a, h => by cases h
  | b :: l, h, a, hm => by
    have h' : (bif p b then allL p l else false) = true := h
    cases hb : p b with
    | false => rw [hb] at h'; cases h'
    | true =>
      rw [hb] at h'
      rcases List.mem_cons.1 hm with e | e
      · exact e ▸ hb
      · exact allL_mem h' a e
def noSel : Op → Bool
  | .select .. => false
  | _ => true
def okOps (n : Nat) (ops : Array Oper) : Bool := allL (fun o => bif noSel o.op then (match o.dst with | some t => Nat.ble (t + 1) n | none => true) else false) ops.toList
theorem okOps_spec {n : Nat} {ops : Array Oper} (h : okOps n ops = true) : Region.noSelect ops = true ∧ ∀ o ∈ ops.toList, ∀ t, o.dst = some t → t < n := by
  have hm := allL_mem h
  refine ⟨?_, ?_⟩
  · unfold Region.noSelect
    rw [Array.all_eq_true_iff_forall_mem]
    intro o ho
    have := hm o (by simpa using ho)
    cases hn : noSel o.op with
    | false => rw [hn] at this; cases this
    | true =>
      revert hn
      cases o.op <;> simp [noSel]
  · intro o ho t ht
    have := hm o ho
    cases hn : noSel o.op with
    | false => rw [hn] at this; cases this
    | true =>
      rw [hn] at this
      simp only [cond_true, ht] at this
      exact Nat.le_of_ble_eq_true this

theorem put_size (a : Act) (d : Option Nat) (v : Value) : (a.put d v).tmps.size = a.tmps.size := by cases d <;> simp [Act.put]
theorem put_defers0 (a : Act) (d : Option Nat) (v : Value) : (a.put d v).defers = a.defers := by cases d <;> rfl
theorem envOf_put (a : Act) (d : Option Nat) (v : Value) (h : ∀ t, d = some t → t < a.tmps.size) : envOf (a.put d v) = updO (envOf a) d v := by
  cases d with
  | none => rfl
  | some t =>
    funext s
    have ht := h t rfl
    by_cases hs : s = t
    · subst hs; simp [envOf, Act.put, updO, upd, ht]
    · have : Nat.beq s t = false := by rw [Bool.eq_false_iff]; exact fun hb => hs (Nat.eq_of_beq_eq_true hb)
      simp [envOf, Act.put, updO, upd, this, Array.getElem?_setIfInBounds_ne (Ne.symm hs)]

theorem updO_other (e : Env) (d : Option Nat) (v : Value) (t : Nat) (h : d ≠ some t) : updO e d v t = e t := by
  cases d with
  | none => rfl
  | some s =>
    have : Nat.beq t s = false := by
      rw [Bool.eq_false_iff]; intro hb; exact h (by rw [Nat.eq_of_beq_eq_true hb])
    simp [updO, upd, this]

theorem vcOps_sound {P : Program} {ops : Array Oper} {n : Nat} (hok : okOps n ops = true) {k : Env → World → Prop} (D : List Nat) (e0 : Env)
    (hD : ∀ o ∈ ops.toList, ∀ t, o.dst = some t → t ∈ D) :
    ∀ (l : List Oper) (s : Nat) (a : Act) (w : World), (∀ j, l[j]? = ops[s + j]?) → a.tmps.size = n → a.defers = [] → (∀ t, t ∉ D → envOf a t = e0 t) →
      vcOps P ops l (envOf a) w k →
      wpOps P ops (fun x a' w' => x = .normal ∧ a'.tmps.size = n ∧ a'.defers = [] ∧ (∀ t, t ∉ D → envOf a' t = e0 t) ∧ k (envOf a') w') (List.range' s l.length) a w := by
  intro l
  induction l with
  | nil => intro s a w _ hn hd ha h; exact ⟨rfl, hn, hd, ha, h⟩
  | cons o l ih =>
    intro s a w hl hn hd ha h
    have h0 : ops[s]? = some o := by simpa using (hl 0).symm
    have hmem : o ∈ ops := Array.mem_of_getElem? h0
    have hok' := okOps_spec hok
    have hlt : ∀ t, o.dst = some t → t < n := hok'.2 o (by simpa using hmem)
    simp only [List.length_cons, List.range'_succ]
    rw [wpOps_cons]
    refine vcO_wpOp h0 (fun cs b => Region.noSelect_spec hok'.1 s o cs b h0) (fun _ _ => rfl) h fun v w' hk => ?_
    refine ih (s + 1) _ w' (fun j => by have := hl (j + 1); simpa [Nat.add_assoc, Nat.add_comm 1 j] using this) (by rw [put_size]; exact hn) (by rw [put_defers0]; exact hd) ?_ ?_
    · intro t ht
      rw [envOf_put _ _ _ (fun t h => by rw [hn]; exact hlt t h), updO_other _ _ _ _ (fun he => ht (hD o (by simpa using hmem) t he))]
      exact ha t ht
    · rw [envOf_put _ _ _ (fun t h => by rw [hn]; exact hlt t h)]; exact hk

end
end Go.Sh
