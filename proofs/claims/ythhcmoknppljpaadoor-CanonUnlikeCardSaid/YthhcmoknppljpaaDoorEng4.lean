/- The shallow reading of a function's text suffices for the machine's call of it. -/
import Derived.Test.YthhcmoknppljpaaDoorEng13
set_option linter.unusedVariables false
set_option linter.unusedSimpArgs false
namespace Go.Sh
noncomputable section

def okc (n : Nat) (A : Ann) : Nat → Code → Bool
  | _, .skip | _, .ret | _, .exit _ => true
  | cur, .seq a b | cur, .cond _ a b => okc n A cur a && okc n A cur b
  | _, .block id c => okc n A id c
  | cur, .loop c => okc n A cur c && (dsts c).all fun t => (A.wr cur).contains t
  | _, .region _ ops false => okOps n ops
  | _, .region id ops true => match A.sq id with
    | some s => okSqAll n ops (A.told id) s
    | none => match A.plan id with
    | none => okDraw n ops (A.told id)
    | some p => bif okOps n ops then bif okTold ops (A.told id) then okPlan (A.told id) p else false else false
  | _, _ => false

def Keep (n : Nat) (D : List Nat) (e : Env) (a : Act) : Prop := a.tmps.size = n ∧ a.defers = [] ∧ ∀ t, t ∉ D → envOf a t = e t
theorem Keep.refl {n : Nat} {D : List Nat} {a : Act} (hn : a.tmps.size = n) (hd : a.defers = []) : Keep n D (envOf a) a := ⟨hn, hd, fun _ _ => rfl⟩
theorem Keep.left {n : Nat} {D D' : List Nat} {e : Env} {a : Act} (h : Keep n D e a) : Keep n (D ++ D') e a :=
  ⟨h.1, h.2.1, fun t ht => h.2.2 t fun hd => ht (List.mem_append_left _ hd)⟩
theorem Keep.right {n : Nat} {D D' : List Nat} {e : Env} {a : Act} (h : Keep n D e a) : Keep n (D' ++ D) e a :=
  ⟨h.1, h.2.1, fun t ht => h.2.2 t fun hd => ht (List.mem_append_right _ hd)⟩
theorem Keep.trans {n : Nat} {D D' : List Nat} {e : Env} {a a' : Act} (h : Keep n D e a) (h' : Keep n D' (envOf a) a') : Keep n (D ++ D') e a' :=
  ⟨h'.1, h'.2.1, fun t ht => (h'.2.2 t fun hd => ht (List.mem_append_right _ hd)).trans (h.2.2 t fun hd => ht (List.mem_append_left _ hd))⟩

theorem vc_sound {P : Program} (hm : P.follows .mixedOrders = true) {n : Nat} {A : Ann} : ∀ (c : Code) (cur : Nat), okc n A cur c = true →
    ∀ (a : Act) (w : World) (Q : Q1), a.tmps.size = n → a.defers = [] → vc P A cur c (envOf a) w Q →
      c.wp P (fun x a' w' => Keep n (dsts c) (envOf a) a' ∧ Q x (envOf a') w') a w := by
  intro c
  induction c with
  | skip => intro cur _ a w Q hn hd h; exact wp_skip ⟨.refl hn hd, h⟩
  | ret => intro cur _ a w Q hn hd h; exact wp_ret ⟨.refl hn hd, h⟩
  | exit id => intro cur _ a w Q hn hd h; exact wp_exit ⟨.refl hn hd, h⟩
  | seq x y ihx ihy =>
    intro cur hok a w Q hn hd h
    simp only [okc, Bool.and_eq_true] at hok
    refine wp_seq (wp_mono (ihx cur hok.1 a w _ hn hd h) fun e a' w' hq => ?_)
    obtain ⟨hk, hq⟩ := hq
    cases e with
    | normal =>
      refine wp_mono (ihy cur hok.2 a' w' Q hk.1 hk.2.1 hq) fun e a'' w'' hq' => ⟨hk.trans hq'.1, hq'.2⟩
    | exit id => exact ⟨hk.left, hq⟩
    | goto l => exact ⟨hk.left, hq⟩
    | ret => exact ⟨hk.left, hq⟩
    | panic ch => exact ⟨hk.left, hq⟩
    | outgrown => exact ⟨hk.left, hq⟩
  | cond c x y ihx ihy =>
    intro cur hok a w Q hn hd h
    simp only [okc, Bool.and_eq_true] at hok
    have h := h.out
    rw [← eval_eq] at h
    cases hc : a.eval c with
    | bool b =>
      rw [hc] at h
      simp only at h
      refine wp_cond_split hc (fun hb => ?_) (fun hb => ?_)
      · rw [if_pos hb] at h
        exact wp_mono (ihx cur hok.1 a w Q hn hd h) fun e a' w' hq => ⟨hq.1.left, hq.2⟩
      · rw [if_neg (by simp [hb])] at h
        exact wp_mono (ihy cur hok.2 a w Q hn hd h) fun e a' w' hq => ⟨hq.1.right, hq.2⟩
    | _ => rw [hc] at h; exact h.elim
  | block id c ih =>
    intro cur hok a w Q hn hd h
    refine wp_block (wp_mono (ih id hok a w _ hn hd h) fun e a' w' hq => ?_)
    obtain ⟨hk, hq⟩ := hq
    cases e with
    | exit j =>
      simp only [qBlock] at hq
      show (if j = id then _ else _)
      by_cases hj : j = id
      · subst hj
        rw [Nat.beq_refl] at hq
        rw [if_pos rfl]
        exact ⟨hk, hq⟩
      · have : Nat.beq j id = false := by rw [Bool.eq_false_iff]; exact fun hb => hj (Nat.eq_of_beq_eq_true hb)
        rw [this] at hq
        rw [if_neg hj]
        exact ⟨hk, hq⟩
    | normal => exact ⟨hk, hq⟩
    | goto l => exact ⟨hk, hq⟩
    | ret => exact ⟨hk, hq⟩
    | panic ch => exact ⟨hk, hq⟩
    | outgrown => exact ⟨hk, hq⟩
  | loop c ih =>
    intro cur hok a w Q hn hd h
    simp only [okc, Bool.and_eq_true, List.all_eq_true] at hok
    have h : xLoop ((A.loop cur).map (envOf a)) w (A.loop cur) fun u w nxt => vc P A cur c (mix (A.wr cur) u (envOf a)) w (qThen (fun e w => nxt ((A.loop cur).map e) w) Q) := h
    obtain ⟨I, μ, h0, hround⟩ := h.out
    refine wp_loop (fun a' w' => Keep n (dsts c) (envOf a) a' ∧ I ((A.loop cur).map (envOf a')) w') (fun a' w' => μ ((A.loop cur).map (envOf a')) w') ⟨.refl hn hd, h0⟩ fun a' w' hI => ?_
    obtain ⟨hk, hI⟩ := hI
    have hr := hround (envOf a') w' hI
    dsimp only at hr
    have hmix : mix (A.wr cur) (envOf a') (envOf a) = envOf a' := by
      funext t
      unfold mix
      by_cases ht : t ∈ A.wr cur
      · have : (A.wr cur).contains t = true := by simpa using ht
        rw [this]; rfl
      · have : (A.wr cur).contains t = false := by simpa using ht
        rw [this]; exact (hk.2.2 t fun hd => ht (by simpa using hok.2 t hd)).symm
    rw [hmix] at hr
    refine wp_mono (ih cur hok.1 a' w' _ hk.1 hk.2.1 hr) fun e a'' w'' hq => ?_
    obtain ⟨hk', hq⟩ := hq
    have hk2 : Keep n (dsts c) (envOf a) a'' := ⟨hk'.1, hk'.2.1, fun t ht => (hk'.2.2 t ht).trans (hk.2.2 t ht)⟩
    cases e with
    | normal => exact ⟨⟨hk2, hq.1⟩, hq.2⟩
    | exit id => exact ⟨hk2, hq⟩
    | goto l => exact ⟨hk2, hq⟩
    | ret => exact ⟨hk2, hq⟩
    | panic ch => exact ⟨hk2, hq⟩
    | outgrown => exact ⟨hk2, hq⟩
  | region id ops draw =>
    intro cur hok a w Q hn hd h
    have hD : ∀ o ∈ ops.toList, ∀ t, o.dst = some t → t ∈ dsts (.region id ops draw) := fun o ho t ht => List.mem_filterMap.2 ⟨o, ho, ht⟩
    cases draw with
    | false =>
      have := vcOps_sound hok (dsts (.region id ops false)) (envOf a) hD ops.toList 0 a w (by simp) hn hd (fun _ _ => rfl) h
      refine wp_mono (wp_region (id := id) (by rw [List.range_eq_range', ← Array.length_toList]; exact this)) fun e a' w' hq => ?_
      obtain ⟨rfl, h1, h2, h3, h4⟩ := hq
      exact ⟨⟨h1, h2, h3⟩, h4⟩
    | true =>
      have hok : (match A.sq id with
        | some s => okSqAll n ops (A.told id) s
        | none => match A.plan id with
        | none => okDraw n ops (A.told id)
        | some p => bif okOps n ops then bif okTold ops (A.told id) then okPlan (A.told id) p else false else false) = true := hok
      have h : (match A.sq id with
        | some s => xSq w.drew fun w => vcSq P ops (Q .normal) s (envOf a) w
        | none => match A.plan id with
        | none => xDraw w.drew fun le H => vcChain P ops le (Q .normal) (ordOf (A.told id)) (envOf a) H
        | some p => xDraw w.drew fun le H => vcPlan P ops le (Q .normal) p.inner p.tail p.kinds p.items (envOf a) H fun _ w => H w) := h
      cases hq : A.sq id with
      | some s =>
        rw [hq] at hok h
        refine wp_mono (sq_sound hm hok (dsts (.region id ops true)) hD hn hd h) fun e a' w' hq => ?_
        obtain ⟨rfl, h1, h2, h3, h4⟩ := hq
        exact ⟨⟨h1, h2, h3⟩, h4⟩
      | none =>
      rw [hq] at hok h
      simp only at hok h
      cases hp : A.plan id with
      | none =>
        rw [hp] at hok h
        refine wp_mono (draw_sound hm hok (dsts (.region id ops true)) hD hn hd h) fun e a' w' hq => ?_
        obtain ⟨rfl, h1, h2, h3, h4⟩ := hq
        exact ⟨⟨h1, h2, h3⟩, h4⟩
      | some p =>
        rw [hp] at hok h
        simp only at hok h
        have hok3 : okOps n ops = true ∧ okTold ops (A.told id) = true ∧ okPlan (A.told id) p = true := by
          cases h1 : okOps n ops <;> cases h2 : okTold ops (A.told id) <;> cases h3 : okPlan (A.told id) p <;> simp [h1, h2, h3] at hok ⊢
        refine wp_mono (plan_sound hm hok3.1 hok3.2.1 hok3.2.2 (dsts (.region id ops true)) hD hn hd h) fun e a' w' hq => ?_
        obtain ⟨rfl, h1, h2, h3, h4⟩ := hq
        exact ⟨⟨h1, h2, h3⟩, h4⟩
  | _ => intro cur hok; cases hok

/-! ### what a call hands back -/
structure xLoadR (P : Program) (t : TypeId) (a : Value) (w : World) (k : Value → Prop) : Prop where
  out : match a with
  | .pointer (some p) => ∃ v, (loadVar t p).run P w = .ok v w ∧ k v
  | _ => False
def pack : List Value → Value
  | [v] => v
  | vs => .tuple vs.toArray
def vcRes (P : Program) : List ResultVar → Env → World → List Value → (Value → Prop) → Prop
  | [], _, _, acc, k => k (pack acc)
  | .tmp t :: rs, e, w, acc, k => vcRes P rs e w (acc ++ [e t]) k
  | .cell a t :: rs, e, w, acc, k => xLoadR P t (e a) w fun v => vcRes P rs e w (acc ++ [v]) k
def retQ (P : Program) (rs : List ResultVar) (K : K1) : Q1 := fun x e w => match x with
  | .normal | .ret => vcRes P rs e w [] fun v => K v w
  | _ => False

def resF (tmps : Array Value) : ResultVar → Sem Value
  | .tmp t => pure (tmps.getD t undef)
  | .cell p t => do loadVar t (← asAddr (tmps.getD p undef))
theorem results_eq (fn : Func) (tmps : Array Value) : results fn tmps = (do let vs ← fn.results.mapM (resF tmps); pure (if h : vs.size = 1 then vs[0] else .tuple vs)) := by
  unfold results
  refine congrArg (fun f : ResultVar → Sem Value => (do let vs ← fn.results.mapM f; pure (if h : vs.size = 1 then vs[0] else .tuple vs) : Sem Value)) ?_
  funext x; cases x <;> rfl

theorem res_sound {P : Program} {fn : Func} {a : Act} {w : World} {k : Value → Prop} (h : vcRes P fn.results.toList (envOf a) w [] k) :
    ∃ v, (results fn a.tmps).run P w = .ok v w ∧ k v := by
  have key : ∀ (l : List ResultVar) (acc : List Value), vcRes P l (envOf a) w acc k →
      ∃ vs, (l.mapM (resF a.tmps) : Sem (List Value)).run P w = .ok vs w ∧ k (pack (acc ++ vs)) := by
    intro l
    induction l with
    | nil => intro acc h; exact ⟨[], rfl, by simpa [vcRes] using h⟩
    | cons r l ih =>
      intro acc h
      cases r with
      | tmp t =>
        obtain ⟨vs, h1, h2⟩ := ih (acc ++ [envOf a t]) h
        refine ⟨envOf a t :: vs, ?_, by simpa using h2⟩
        rw [List.mapM_cons]
        simp only [resF, Sem.run_bind, Sem.run_pure, Result.andThen_ok, h1]
        rfl
      | cell p t =>
        have h := h.out
        cases hp : envOf a p with
        | pointer q =>
          cases q with
          | none => rw [hp] at h; exact h.elim
          | some q =>
            rw [hp] at h
            obtain ⟨v, hv, h⟩ := h
            obtain ⟨vs, h1, h2⟩ := ih (acc ++ [v]) h
            refine ⟨v :: vs, ?_, by simpa using h2⟩
            have hp' : a.tmps.getD p undef = .pointer (some q) := hp
            have hr : (resF a.tmps (.cell p t)).run P w = .ok v w := by
              simp only [resF, hp', asAddr, Sem.run_bind, Sem.run_pure, Result.andThen_ok, hv]
            rw [List.mapM_cons]
            simp only [Sem.run_bind, hr, Sem.run_pure, Result.andThen_ok, h1]
        | _ => rw [hp] at h; exact h.elim
  obtain ⟨vs, h1, h2⟩ := key _ [] h
  rw [List.nil_append] at h2
  refine ⟨_, ?_, h2⟩
  rw [results_eq, Array.mapM_eq_mapM_toList]
  simp only [Sem.run_bind, map_eq_pure_bind, Sem.run_pure]
  rw [h1]
  simp only [Result.andThen_ok, Sem.run_pure]
  congr 1
  match vs with
  | [] => rfl
  | [v] => rfl
  | v :: u :: vs => simp [pack]

theorem calls_of_vc {P : Program} (hm : P.follows .mixedOrders = true) {f : FuncId} {fn : Func} {c : Code} {args : Array Value} {w : World} {K : K1} (A : Ann)
    (hf : P.funcs[f]? = some fn) (hb : fn.body = some c) (hok : okc fn.ntmps A 0 c = true) (hn : args.size ≤ fn.ntmps)
    (h : vc P A 0 c (fun t => args.getD t undef) w (retQ P fn.results.toList K)) : Yld P f args w K := by
  refine calls_of_wp hf hb ?_
  have he : envOf { tmps := args ++ Array.replicate (fn.ntmps - args.size) undef, defers := [] } = fun t => args.getD t undef := by
    funext t
    unfold envOf
    simp only [Array.getD_eq_getD_getElem?, Array.getElem?_append]
    by_cases ht : t < args.size
    · simp [ht]
    · simp [ht, Array.getElem?_replicate]
      split <;> rfl
  refine wp_mono (vc_sound hm c 0 hok _ w _ (by simp; omega) rfl (by rw [he]; exact h)) fun e a w' hq => ?_
  obtain ⟨hk, hq⟩ := hq
  cases e with
  | normal => obtain ⟨v, hv, hK⟩ := res_sound hq; exact ⟨hk.2.1, v, hv, v, rfl, hK⟩
  | ret => obtain ⟨v, hv, hK⟩ := res_sound hq; exact ⟨hk.2.1, v, hv, v, rfl, hK⟩
  | _ => exact hq.elim

end
end Go.Sh
