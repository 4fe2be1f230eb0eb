/- The shallow reading by a row of things to do: what the machine of the kernel evaluates in few steps. -/
import Derived.Test.YthhcmoknppljpaaDoorEng4
set_option linter.unusedVariables false
set_option linter.unusedSimpArgs false
namespace Go.Sh
noncomputable section

inductive It where
  | code (c : Code)
  | blk (id : Nat)
  | nxt (S : List Nat) (f : List Value → World → Prop)

def leave (id : Nat) (k : List It) : List It :=
  List.rec (motive := fun _ => List It) [] (fun i k' ih => match i with
    | .blk j => bif Nat.beq id j then k' else ih
    | _ => ih) k
def has (id : Nat) (k : List It) : Bool :=
  List.rec (motive := fun _ => Bool) false (fun i _ ih => match i with
    | .blk j => bif Nat.beq id j then true else ih
    | _ => ih) k
def curOf (k : List It) : Nat :=
  List.rec (motive := fun _ => Nat) 0 (fun i _ ih => match i with
    | .blk j => j
    | _ => ih) k

def run (P : Program) (A : Ann) (R : Env → World → Prop) (n : Nat) : List It → Env → World → Prop :=
  Nat.rec (motive := fun _ => List It → Env → World → Prop) (fun _ _ _ => False)
    (fun _ ih todo e w => match todo with
      | [] => R e w
      | .blk _ :: k => ih k e w
      | .nxt S f :: _ => f (S.map e) w
      | .code c :: k => match c with
        | .skip => ih k e w
        | .ret => R e w
        | .seq a b => ih (.code a :: .code b :: k) e w
        | .cond c a b => xIf (opd e c) (ih (.code a :: k) e w) (ih (.code b :: k) e w)
        | .block id c => ih (.code c :: .blk id :: k) e w
        | .exit id => bif has id k then ih (leave id k) e w else False
        | .region id ops draw => bif draw then (match A.sq id with
            | some s => xSq w.drew fun w => vcSq P ops (fun e w => ih k e w) s e w
            | none => match A.plan id with
            | none => xDraw w.drew fun le H => vcChain P ops le (fun e w => ih k e w) (ordOf (A.told id)) e H
            | some p => xDraw w.drew fun le H => vcPlan P ops le (fun e w => ih k e w) p.inner p.tail p.kinds p.items e H fun _ w => H w)
          else vcOps P ops ops.toList e w fun e w => ih k e w
        | .loop c => xLoop ((A.loop (curOf k)).map e) w (A.loop (curOf k)) fun u w nxt => ih (.code c :: .nxt (A.loop (curOf k)) nxt :: k) (mix (A.wr (curOf k)) u e) w
        | _ => False) n

/-- What a row of things to do asks at each ending. -/
def qOf (P : Program) (A : Ann) (R : Env → World → Prop) : List It → Q1
  | [] => fun x e w => match x with | .normal | .ret => R e w | _ => False
  | .code c :: k => qThen (fun e w => vc P A (curOf k) c e w (qOf P A R k)) (qOf P A R k)
  | .blk id :: k => qBlock id (qOf P A R k)
  | .nxt S f :: k => qThen (fun e w => f (S.map e) w) (qOf P A R k)

theorem vcOps_mono {P : Program} {ops : Array Oper} {k k' : Env → World → Prop} (h : ∀ e w, k e w → k' e w) : ∀ (l : List Oper) (e : Env) (w : World), vcOps P ops l e w k → vcOps P ops l e w k'
  | [], _, _, hr => h _ _ hr
  | o :: l, _, _, hr => vcO_mono (fun _ _ hk => vcOps_mono h l _ _ hk) hr

theorem vcChain_mono {P : Program} {ops : Array Oper} {le : World → World → Prop} {k k' : Env → World → Prop} (h : ∀ e w, k e w → k' e w) :
    ∀ (l : List (Nat × Bool)) (e : Env) (H : World → Prop), vcChain P ops le k l e H → vcChain P ops le k' l e H
  | [], _, _, hr => ⟨fun w hw => h _ _ (hr.out w hw)⟩
  | [(i, true)], e, H, hr => by
    have hr' : (match ops[i]? with
      | none => False
      | some o => xEnd H fun w => vcO P ops e o w fun v w' => k (updO e o.dst v) w') := hr
    show (match ops[i]? with
      | none => False
      | some o => xEnd H fun w => vcO P ops e o w fun v w' => k' (updO e o.dst v) w')
    cases ho : ops[i]? with
    | none => rw [ho] at hr'; exact hr'
    | some o =>
      rw [ho] at hr'
      exact ⟨fun w hw => vcO_mono (fun _ _ hk => h _ _ hk) (hr'.out w hw)⟩
  | (i, true) :: q :: l, e, H, hr => by
    have hr' : (match ops[i]? with
      | none => False
      | some o => xNon le H (fun w K => vcO P ops e o w K) fun v h => vcChain P ops le k (q :: l) (updO e o.dst v) fun w => H w ∧ h w) := hr
    show (match ops[i]? with
      | none => False
      | some o => xNon le H (fun w K => vcO P ops e o w K) fun v h => vcChain P ops le k' (q :: l) (updO e o.dst v) fun w => H w ∧ h w)
    cases ho : ops[i]? with
    | none => rw [ho] at hr'; exact hr'
    | some o =>
      rw [ho] at hr'
      obtain ⟨V, h0, h1, h2⟩ := hr'.out
      exact ⟨V, h0, h1, fun v => vcChain_mono h (q :: l) _ _ (h2 v)⟩
  | (i, false) :: l, e, H, hr => by
    have hr' : (match ops[i]? with
      | none => False
      | some o => xDet le H (fun w K => vcO P ops e o w K) fun x => vcChain P ops le k l (updO e o.dst x) H) := hr
    show (match ops[i]? with
      | none => False
      | some o => xDet le H (fun w K => vcO P ops e o w K) fun x => vcChain P ops le k' l (updO e o.dst x) H)
    cases ho : ops[i]? with
    | none => rw [ho] at hr'; exact hr'
    | some o =>
      rw [ho] at hr'
      obtain ⟨x, h1, h2⟩ := hr'.out
      exact ⟨x, h1, vcChain_mono h l _ _ h2⟩

theorem vcTail_mono {P : Program} {ops : Array Oper} {k k' : Env → World → Prop} (h : ∀ e w, k e w → k' e w) : ∀ (l : List Nat) (e : Env) (w : World), vcTail P ops k l e w → vcTail P ops k' l e w
  | [], _, _, hr => h _ _ hr
  | j :: l, e, w, hr => by
    have hr' : (match ops[j]? with
      | none => False
      | some o => vcO P ops e o w fun v w => vcTail P ops k l (updO e o.dst v) w) := hr
    show (match ops[j]? with
      | none => False
      | some o => vcO P ops e o w fun v w => vcTail P ops k' l (updO e o.dst v) w)
    cases ho : ops[j]? with
    | none => rw [ho] at hr'; exact hr'
    | some o => rw [ho] at hr'; exact vcO_mono (fun _ _ hk => vcTail_mono h l _ _ hk) hr'
theorem vcPlan_mono {P : Program} {ops : Array Oper} {le : World → World → Prop} {inner tail : List Nat} {kd : List (Nat × Nat)} {k k' : Env → World → Prop} (h : ∀ e w, k e w → k' e w) :
    ∀ (l : List (List Nat)) (e : Env) (H : World → Prop) (E : Env → World → Prop), vcPlan P ops le k inner tail kd l e H E → vcPlan P ops le k' inner tail kd l e H E
  | [], _, _, _, hr => ⟨fun u w hw => vcTail_mono h _ _ _ (hr.out u w hw)⟩
  | [] :: _, _, _, _, hr => hr.elim
  | (j :: r) :: l, e, H, E, hr => by
    have hr' : (bif Nat.beq (kindL kd (lastD (j :: r))) 0 then
            (match (generalizing := false) r with
            | [] => (match ops[j]? with
              | none => False
              | some o => xDet le H (fun w K => vcO P ops e o w K) fun x => vcPlan P ops le k inner tail kd l (updO e o.dst x) H E)
            | _ :: _ => xStr (fun N => vcSeq P ops le (j :: r) e H N) fun x => vcPlan P ops le k inner tail kd l (updO e (dstO ops (lastD (j :: r))) x) H E)
          else bif Nat.beq (kindL kd (lastD (j :: r))) 2 then xOpn le (fun N => vcSeqG P ops le (j :: r) e H N) fun V => vcPlan P ops le k inner tail kd l e H fun u w => E u w ∧ V (slotV u (dstO ops (lastD (j :: r)))) w
          else xStrV le (fun N => vcSeqG P ops le (j :: r) e H N) fun x V => vcPlan P ops le k inner tail kd l (updO e (dstO ops (lastD (j :: r))) x) H fun u w => E u w ∧ V w) := hr
    show (bif Nat.beq (kindL kd (lastD (j :: r))) 0 then
            (match (generalizing := false) r with
            | [] => (match ops[j]? with
              | none => False
              | some o => xDet le H (fun w K => vcO P ops e o w K) fun x => vcPlan P ops le k' inner tail kd l (updO e o.dst x) H E)
            | _ :: _ => xStr (fun N => vcSeq P ops le (j :: r) e H N) fun x => vcPlan P ops le k' inner tail kd l (updO e (dstO ops (lastD (j :: r))) x) H E)
          else bif Nat.beq (kindL kd (lastD (j :: r))) 2 then xOpn le (fun N => vcSeqG P ops le (j :: r) e H N) fun V => vcPlan P ops le k' inner tail kd l e H fun u w => E u w ∧ V (slotV u (dstO ops (lastD (j :: r)))) w
          else xStrV le (fun N => vcSeqG P ops le (j :: r) e H N) fun x V => vcPlan P ops le k' inner tail kd l (updO e (dstO ops (lastD (j :: r))) x) H fun u w => E u w ∧ V w)
    cases h0 : Nat.beq (kindL kd (lastD (j :: r))) 0 with
    | true =>
      rw [h0] at hr'
      simp only [cond_true] at hr' ⊢
      cases r with
      | nil =>
        simp only at hr' ⊢
        cases ho : ops[j]? with
        | none => rw [ho] at hr'; exact hr'
        | some o =>
          rw [ho] at hr'
          obtain ⟨x, h1, h2⟩ := hr'.out
          exact ⟨x, h1, vcPlan_mono h l _ _ _ h2⟩
      | cons b r =>
        obtain ⟨x, h1, h2⟩ := hr'.out
        exact ⟨x, h1, vcPlan_mono h l _ _ _ h2⟩
    | false =>
      rw [h0] at hr'
      simp only [cond_false] at hr' ⊢
      cases h2 : Nat.beq (kindL kd (lastD (j :: r))) 2 with
      | true =>
        rw [h2] at hr'
        obtain ⟨V, a1, a2, a3⟩ := hr'.out
        exact ⟨V, a1, a2, vcPlan_mono h l _ _ _ a3⟩
      | false =>
        rw [h2] at hr'
        obtain ⟨x, V, a1, a2, a3⟩ := hr'.out
        exact ⟨x, V, a1, a2, vcPlan_mono h l _ _ _ a3⟩

theorem vcRe_mono {P : Program} {ops : Array Oper} {e : Env} {w : World} {A B : Prop} (h : A → B) : ∀ (l : List Nat), vcRe P ops e w A l → vcRe P ops e w B l
  | [], hr => h hr
  | j :: l, hr => by
    have hr' : (match ops[j]? with
      | none => False
      | some o => xRe w (fun K => vcO P ops e o w K) (slotV e o.dst) (vcRe P ops e w A l)) := hr
    show (match ops[j]? with
      | none => False
      | some o => xRe w (fun K => vcO P ops e o w K) (slotV e o.dst) (vcRe P ops e w B l))
    cases ho : ops[j]? with
    | none => rw [ho] at hr'; exact hr'
    | some o => rw [ho] at hr'; exact ⟨hr'.out.1, vcRe_mono h l hr'.out.2⟩
theorem vcSq_mono {P : Program} {ops : Array Oper} {k k' : Env → World → Prop} (h : ∀ e w, k e w → k' e w) : ∀ (s : Sq) (e : Env) (w : World), vcSq P ops k s e w → vcSq P ops k' s e w
  | .done, _, _, hr => h _ _ hr
  | .rd p i s, e, w, hr => by
    have hr' : (match ops[i]? with
      | none => False
      | some o => bif p then xPur w (fun w K => vcO P ops e o w K) fun x => vcSq P ops k s (updO e o.dst x) w
        else xRd w (fun K => vcO P ops e o w K) fun x => vcSq P ops k s (updO e o.dst x) w) := hr
    show (match ops[i]? with
      | none => False
      | some o => bif p then xPur w (fun w K => vcO P ops e o w K) fun x => vcSq P ops k' s (updO e o.dst x) w
        else xRd w (fun K => vcO P ops e o w K) fun x => vcSq P ops k' s (updO e o.dst x) w)
    cases ho : ops[i]? with
    | none => rw [ho] at hr'; exact hr'
    | some o =>
      rw [ho] at hr'
      cases p with
      | true => obtain ⟨x, h1, h2⟩ := hr'.out; exact ⟨x, h1, vcSq_mono h s _ _ h2⟩
      | false => obtain ⟨x, h1, h2⟩ := hr'.out; exact ⟨x, h1, vcSq_mono h s _ _ h2⟩
  | .ef i re s, e, w, hr => by
    have hr' : (match ops[i]? with
      | none => False
      | some o => vcO P ops e o w fun v w => vcRe P ops (updO e o.dst v) w (vcSq P ops k s (updO e o.dst v) w) re) := hr
    show (match ops[i]? with
      | none => False
      | some o => vcO P ops e o w fun v w => vcRe P ops (updO e o.dst v) w (vcSq P ops k' s (updO e o.dst v) w) re)
    cases ho : ops[i]? with
    | none => rw [ho] at hr'; exact hr'
    | some o => rw [ho] at hr'; exact vcO_mono (fun v w hv => vcRe_mono (vcSq_mono h s _ _) _ hv) hr'
  | .alt a b, e, w, hr => by
    have hr' : xAlt (vcSq P ops k a e w) (vcSq P ops k b e w) := hr
    exact ⟨vcSq_mono h a _ _ hr'.out.1, vcSq_mono h b _ _ hr'.out.2⟩

theorem qOf_exit (P : Program) (A : Ann) (R : Env → World → Prop) (id : Nat) (e : Env) (w : World) : ∀ (k : List It), has id k = true → qOf P A R (leave id k) .normal e w → qOf P A R k (.exit id) e w
  | [], h, _ => by cases h
  | .code c :: k, h, hq => qOf_exit P A R id e w k h hq
  | .nxt S f :: k, h, hq => qOf_exit P A R id e w k h hq
  | .blk j :: k, h, hq => by
    have h' : (bif Nat.beq id j then true else has id k) = true := h
    have hq' : qOf P A R (bif Nat.beq id j then k else leave id k) .normal e w := hq
    show (bif Nat.beq id j then qOf P A R k .normal e w else qOf P A R k (.exit id) e w)
    cases hb : Nat.beq id j with
    | true => rw [hb] at hq'; exact hq'
    | false => rw [hb] at hq' h'; exact qOf_exit P A R id e w k h' hq'

theorem qOf_ret (P : Program) (A : Ann) (R : Env → World → Prop) (e : Env) (w : World) (h : R e w) : ∀ (k : List It), qOf P A R k .ret e w
  | [] => h
  | .code _ :: k => qOf_ret P A R e w h k
  | .nxt _ _ :: k => qOf_ret P A R e w h k
  | .blk _ :: k => qOf_ret P A R e w h k

theorem run_sound {P : Program} {A : Ann} {R : Env → World → Prop} : ∀ (n : Nat) (todo : List It) (e : Env) (w : World), run P A R n todo e w → qOf P A R todo .normal e w := by
  intro n
  induction n with
  | zero => intro todo e w h; exact h.elim
  | succ n ih =>
    intro todo e w h
    match todo with
    | [] => exact h
    | .blk id :: k => exact ih k e w h
    | .nxt S f :: k => exact h
    | .code .skip :: k => exact ih k e w h
    | .code .ret :: k => exact qOf_ret P A R e w h k
    | .code (.seq a b) :: k => exact ih (.code a :: .code b :: k) e w h
    | .code (.cond c a b) :: k =>
      have h : xIf (opd e c) (run P A R n (.code a :: k) e w) (run P A R n (.code b :: k) e w) := h
      show xIf (opd e c) _ _
      have h := h.out
      refine ⟨?_⟩
      cases hc : opd e c with
      | bool t =>
        rw [hc] at h
        simp only at h ⊢
        split
        · rename_i ht; rw [if_pos ht] at h; exact ih _ e w h
        · rename_i ht; rw [if_neg ht] at h; exact ih _ e w h
      | _ => rw [hc] at h; exact h
    | .code (.block id c) :: k => exact ih (.code c :: .blk id :: k) e w h
    | .code (.exit id) :: k =>
      have h : (bif has id k then run P A R n (leave id k) e w else False) := h
      show qOf P A R k (.exit id) e w
      cases hh : has id k with
      | false => rw [hh] at h; exact h.elim
      | true => rw [hh] at h; exact qOf_exit P A R id e w k hh (ih _ e w h)
    | .code (.region id ops true) :: k =>
      have h : (match A.sq id with
        | some s => xSq w.drew fun w => vcSq P ops (fun e w => run P A R n k e w) s e w
        | none => match A.plan id with
        | none => xDraw w.drew fun le H => vcChain P ops le (fun e w => run P A R n k e w) (ordOf (A.told id)) e H
        | some p => xDraw w.drew fun le H => vcPlan P ops le (fun e w => run P A R n k e w) p.inner p.tail p.kinds p.items e H fun _ w => H w) := h
      show (match A.sq id with
        | some s => xSq w.drew fun w => vcSq P ops (fun e w => qOf P A R k .normal e w) s e w
        | none => match A.plan id with
        | none => xDraw w.drew fun le H => vcChain P ops le (fun e w => qOf P A R k .normal e w) (ordOf (A.told id)) e H
        | some p => xDraw w.drew fun le H => vcPlan P ops le (fun e w => qOf P A R k .normal e w) p.inner p.tail p.kinds p.items e H fun _ w => H w)
      cases hq : A.sq id with
      | some s => rw [hq] at h; exact ⟨vcSq_mono (fun e w hk => ih k e w hk) _ _ _ h.out⟩
      | none =>
      rw [hq] at h
      simp only at h ⊢
      cases hp : A.plan id with
      | none =>
        rw [hp] at h
        obtain ⟨le, h1, h2, h3⟩ := h.out
        exact ⟨le, h1, h2, vcChain_mono (fun e w hk => ih k e w hk) _ _ _ h3⟩
      | some p =>
        rw [hp] at h
        obtain ⟨le, h1, h2, h3⟩ := h.out
        exact ⟨le, h1, h2, vcPlan_mono (fun e w hk => ih k e w hk) _ _ _ _ h3⟩
    | .code (.region id ops false) :: k => exact vcOps_mono (fun e w hk => ih k e w hk) _ _ _ h
    | .code (.loop c) :: k =>
      have h : xLoop ((A.loop (curOf k)).map e) w (A.loop (curOf k)) fun u w nxt => run P A R n (.code c :: .nxt (A.loop (curOf k)) nxt :: k) (mix (A.wr (curOf k)) u e) w := h
      obtain ⟨I, μ, h0, h1⟩ := h.out
      refine ⟨I, μ, h0, fun u w hI => ?_⟩
      exact ih _ _ _ (h1 u w hI)
    | .code (.scope c) :: k => exact h.elim
    | .code (.rangeFunc _ _ _ _) :: k => exact h.elim
    | .code (.label _) :: k => exact h.elim
    | .code (.goto _) :: k => exact h.elim
    | .code (.refuse _) :: k => exact h.elim

/-- A loop's block must be told: in the reading by rows of things to do it is the block that the loop stands in at once. -/
theorem calls_of_run {P : Program} (hm : P.follows .mixedOrders = true) {f : FuncId} {fn : Func} {c : Code} {args : Array Value} {w : World} {K : K1} (A : Ann) (n : Nat)
    (hf : P.funcs[f]? = some fn) (hb : fn.body = some c) (hok : okc fn.ntmps A 0 c = true) (hn : args.size ≤ fn.ntmps)
    (h : run P A (fun e w => vcRes P fn.results.toList e w [] fun v => K v w) n [.code c] (fun t => args.getD t undef) w) : Yld P f args w K := by
  refine calls_of_vc hm A hf hb hok hn ?_
  have := run_sound n _ _ _ h
  have hq : qOf P A (fun e w => vcRes P fn.results.toList e w [] fun v => K v w) [.code c] = qThen (fun e w => vc P A 0 c e w (retQ P fn.results.toList K)) (retQ P fn.results.toList K) := by
    have : qOf P A (fun e w => vcRes P fn.results.toList e w [] fun v => K v w) [] = retQ P fn.results.toList K := by
      funext x e w; cases x <;> rfl
    show qThen (fun e w => vc P A (curOf []) c e w (qOf P A _ [])) (qOf P A _ []) = _
    rw [this]; rfl
  rw [hq] at this
  exact this

/-- All that is asked of a function's text, at once. -/
def bodyOf (fn : Func) : Code := fn.body.getD .skip
def okFn (A : Ann) (fn : Func) (n : Nat) : Bool := fn.body.isSome && okc fn.ntmps A 0 (bodyOf fn) && Nat.ble n fn.ntmps
def reads (P : Program) (A : Ann) (fn : Func) (args : Array Value) (w : World) (K : K1) : Prop :=
  run P A (fun e w => vcRes P fn.results.toList e w [] fun v => K v w) 2000 [.code (bodyOf fn)] (fun t => args.getD t undef) w
theorem yld_of {P : Program} (hm : P.follows .mixedOrders = true) {f : FuncId} {fn : Func} {args : Array Value} {w : World} {K : K1} (A : Ann)
    (hf : P.funcs[f]? = some fn) (hok : okFn A fn args.size = true) {q : Prop} (he : reads P A fn args w K = q) (h : q) : Yld P f args w K := by
  unfold okFn at hok
  simp only [Bool.and_eq_true] at hok
  obtain ⟨⟨h1, h2⟩, h3⟩ := hok
  have hb : fn.body = some (bodyOf fn) := by
    unfold bodyOf
    cases hbd : fn.body with
    | none => rw [hbd] at h1; cases h1
    | some c => rfl
  exact calls_of_run hm A 2000 hf hb h2 (Nat.le_of_ble_eq_true h3) (by subst he; exact h)

end
end Go.Sh
