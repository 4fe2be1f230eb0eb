/- Rules: what each operation of the shallow reading comes to. -/
import Derived.Test.YthhcmoknppljpaaDoorEng5
set_option linter.unusedVariables false
set_option linter.unusedSimpArgs false
namespace Go.Sh
open Go.RowKit
noncomputable section
variable {P : Program} {w : World} {K : K1}

theorem Yld.mono {f : FuncId} {args : Array Value} {K K' : K1} (h : Yld P f args w K) (hk : ∀ v w', K v w' → K' v w') : Yld P f args w K' :=
  Calls.mono h fun _ _ ⟨v, he, hv⟩ => ⟨v, he, hk _ _ hv⟩

/-! ### tests, picks, guards -/
theorem xIf_t {A B : Prop} : xIf (.bool true) A B = A := propext ⟨fun h => h.out, fun h => ⟨h⟩⟩
theorem xIf_f {A B : Prop} : xIf (.bool false) A B = B := propext ⟨fun h => h.out, fun h => ⟨h⟩⟩
theorem xPick_b {a b : Value} {t : Bool} : xPick (.bool t) a b w K = K (if t then a else b) w := propext ⟨fun h => h.out, fun h => ⟨h⟩⟩
theorem xPick_t {a b : Value} : xPick (.bool true) a b w K = K a w := xPick_b
theorem xPick_f {a b : Value} : xPick (.bool false) a b w K = K b w := xPick_b
theorem xGuard_tt {r : World → K1 → Prop} : xGuard (.bool true) true r w K = r w K := propext ⟨fun h => h.out, fun h => ⟨h⟩⟩
theorem xGuard_ff {r : World → K1 → Prop} : xGuard (.bool false) false r w K = r w K := propext ⟨fun h => h.out, fun h => ⟨h⟩⟩
theorem xGuard_tf {r : World → K1 → Prop} : xGuard (.bool true) false r w K = K undef w := propext ⟨fun h => h.out, fun h => ⟨h⟩⟩
theorem xGuard_ft {r : World → K1 → Prop} : xGuard (.bool false) true r w K = K undef w := propext ⟨fun h => h.out, fun h => ⟨h⟩⟩

/-! ### what runs is told -/
theorem okV_ok {s : Sem Value} {v : Value} {w' : World} (h : s.run P w = .ok v w') : okV (s.run P w) K = K v w' := by rw [h]; rfl
theorem okU_ok {s : Sem Unit} {u : Unit} {w' : World} (h : s.run P w = .ok u w') : okU (s.run P w) K = K undef w' := by rw [h]; rfl
theorem xBin_ok {op : BinOp} {t : TypeId} {cx cy : Bool} {x y v : Value} {w' : World} (h : (do eqGuard op t (cOp cx) (cOp cy) x y; binOp op t x y : Sem Value).run P w = .ok v w') :
    xBin P op t cx x cy y w K = K v w' := propext ⟨fun hx => by rw [← okV_ok (K := K) h]; exact hx.out, fun hk => ⟨by rw [okV_ok h]; exact hk⟩⟩

section ints
variable {t : TypeId} {cx cy : Bool} {k : IntKind} {a b : Int}
theorem xBin_add : xBin P .add t cx (.int k a) cy (.int k b) w K = K (.int k (k.wrap (a + b))) w := xBin_ok (by simp [eqGuard, binOp, Op.intArith])
theorem xBin_sub : xBin P .sub t cx (.int k a) cy (.int k b) w K = K (.int k (k.wrap (a - b))) w := xBin_ok (by simp [eqGuard, binOp, Op.intArith])
theorem xBin_mul : xBin P .mul t cx (.int k a) cy (.int k b) w K = K (.int k (k.wrap (a * b))) w := xBin_ok (by simp [eqGuard, binOp, Op.intArith])
theorem xBin_lss : xBin P .lss t cx (.int k a) cy (.int k b) w K = K (.bool (decide (a < b))) w := xBin_ok (by simp [eqGuard, binOp, Op.intCmp])
theorem xBin_leq : xBin P .leq t cx (.int k a) cy (.int k b) w K = K (.bool (decide (a ≤ b))) w := xBin_ok (by simp [eqGuard, binOp, Op.intCmp])
theorem xBin_gtr : xBin P .gtr t cx (.int k a) cy (.int k b) w K = K (.bool (decide (b < a))) w := xBin_ok (by simp [eqGuard, binOp, Op.intCmp])
theorem xBin_geq : xBin P .geq t cx (.int k a) cy (.int k b) w K = K (.bool (decide (b ≤ a))) w := xBin_ok (by simp [eqGuard, binOp, Op.intCmp])
theorem xBin_eql : xBin P .eql t cx (.int k a) cy (.int k b) w K = K (.bool (decide (a = b))) w := xBin_ok (by simp [eqGuard, binOp, Op.intCmp]; rfl)
theorem xBin_neq : xBin P .neq t cx (.int k a) cy (.int k b) w K = K (.bool (decide (a ≠ b))) w := xBin_ok (by simp [eqGuard, binOp, Op.intCmp]; rfl)
theorem xBin_quo (h : b ≠ 0) : xBin P .quo t cx (.int k a) cy (.int k b) w K = K (.int k (k.wrap (a.tdiv b))) w := xBin_ok (by simp [eqGuard, binOp, Op.intDiv, h])
theorem xBin_rem (h : b ≠ 0) : xBin P .rem t cx (.int k a) cy (.int k b) w K = K (.int k (a.tmod b)) w := xBin_ok (by simp [eqGuard, binOp, Op.intDiv, h])

theorem wrap_in {n : Int} (h1 : -9223372036854775808 ≤ n) (h2 : n ≤ 9223372036854775807) : IntKind.i64.wrap n = n := by rw [IntKind.wrap_i64]; omega
/-- int: where nothing wraps -/
theorem xBin_add' (h1 : -9223372036854775808 ≤ a + b) (h2 : a + b ≤ 9223372036854775807) : xBin P .add t cx (.int .i64 a) cy (.int .i64 b) w K = K (.int .i64 (a + b)) w := by rw [xBin_add, wrap_in h1 h2]
theorem xBin_sub' (h1 : -9223372036854775808 ≤ a - b) (h2 : a - b ≤ 9223372036854775807) : xBin P .sub t cx (.int .i64 a) cy (.int .i64 b) w K = K (.int .i64 (a - b)) w := by rw [xBin_sub, wrap_in h1 h2]
theorem xBin_mul' (h1 : -9223372036854775808 ≤ a * b) (h2 : a * b ≤ 9223372036854775807) : xBin P .mul t cx (.int .i64 a) cy (.int .i64 b) w K = K (.int .i64 (a * b)) w := by rw [xBin_mul, wrap_in h1 h2]
theorem xBin_quo' (h : 0 < b) (h0 : 0 ≤ a) (h1 : a ≤ 9223372036854775807) : xBin P .quo t cx (.int .i64 a) cy (.int .i64 b) w K = K (.int .i64 (a / b)) w := by
  rw [xBin_quo (by omega), Int.tdiv_eq_ediv_of_nonneg h0, wrap_in]
  · have := Int.ediv_nonneg h0 (Int.le_of_lt h); omega
  · have := Int.ediv_le_self b h0; omega
theorem xBin_rem' (h : 0 < b) (h0 : 0 ≤ a) : xBin P .rem t cx (.int .i64 a) cy (.int .i64 b) w K = K (.int .i64 (a % b)) w := by
  rw [xBin_rem (by omega), Int.tmod_eq_emod_of_nonneg h0]
end ints

theorem xUn_not {b : Bool} : xUn P .not (.bool b) w K = K (.bool (!b)) w := propext ⟨fun h => h.out, fun h => ⟨h⟩⟩
theorem bytes_beq (a b : ByteArray) : (a.toList == b.toList) = decide (a = b) := by
  by_cases h : a = b
  · subst h; simp
  · have : ¬ a.toList = b.toList := fun e => h (by
      rw [ByteArray.toList_eq, ByteArray.toList_eq] at e
      cases a; cases b
      exact congrArg ByteArray.mk (Array.toList_inj.1 e))
    simp [h, this]
theorem xBin_eqs {t : TypeId} {cx cy : Bool} {a b : ByteArray} : xBin P .eql t cx (.string a) cy (.string b) w K = K (.bool (decide (a = b))) w :=
  xBin_ok (by simp [eqGuard, binOp, Op.stringOp, bytes_beq])
theorem xBin_nes {t : TypeId} {cx cy : Bool} {a b : ByteArray} : xBin P .neq t cx (.string a) cy (.string b) w K = K (.bool (decide (a ≠ b))) w :=
  xBin_ok (by simp [eqGuard, binOp, Op.stringOp, bytes_beq])
theorem xExtract_i {vs : Array Value} {i : Nat} {v : Value} (h : vs[i]? = some v) : xExtract P (.tuple vs) i w K = K v w :=
  propext ⟨fun hx => by have := hx.out; simpa [Instr.extract, h, okV] using this, fun hk => ⟨by simpa [Instr.extract, h, okV] using hk⟩⟩

/-! ### memory -/
theorem xBox_r {t : TypeId} {v : Value} : xBox P t v w K = K (.pointer (some ⟨w.heap.size, 0, none⟩)) (w.alloc (.cells v.cells t)) :=
  propext ⟨fun h => h.out, fun h => ⟨h⟩⟩
theorem xAlloc_r {t : TypeId} {cs : Array Value} (hz : ((P.info? t).bind (·.zero)).map Value.cells = some cs) :
    xAlloc P t w K = K (.pointer (some ⟨w.heap.size, 0, none⟩)) (w.alloc (.cells cs t)) := by
  cases hi : P.info? t with
  | none => rw [hi] at hz; cases hz
  | some i =>
    rw [hi] at hz
    cases hzz : i.zero with
    | none => simp [hzz] at hz
    | some z =>
      simp [hzz] at hz
      have : (Instr.alloc t true (.tuple #[])).run P w = .ok (.pointer (some ⟨w.heap.size, 0, none⟩)) (w.alloc (.cells cs t)) := by
        simp [Instr.alloc, zeroValue, typeInfo, hi, hzz, newVar, newRow, ← hz]
      exact propext ⟨fun h => by rw [← okV_ok (K := K) this]; exact h.out, fun h => ⟨by rw [okV_ok this]; exact h⟩⟩

def scal (P : Program) (t : TypeId) : Bool := match P.underlying t with
  | some (.struct _) | some (.array _ _) | none => false
  | _ => true
def loadK (P : Program) (t : TypeId) (a : Addr) (o : Option Value) (w : World) (K : K1) : Prop := match o with
  | some v => K v w
  | none => xLoad P t (.pointer (some a)) w K
theorem isAgg_scal {t : TypeId} (h : scal P t = true) : (isAgg t).run P w = .ok false w := by
  unfold scal at h
  unfold isAgg underlying
  cases hu : P.underlying t with
  | none => rw [hu] at h; cases h
  | some d => cases d <;> simp_all [program, Sem.run]
theorem loadVar_scal {t : TypeId} {a : Addr} {v : Value} (h : scal P t = true) (hc : w.cell? a = some v) : (loadVar t a).run P w = .ok v w := by
  unfold loadVar
  rw [Sem.run_bind, isAgg_scal h]
  simp [load, Sem.run, hc]
theorem xLoad_s {t : TypeId} {a : Addr} (h : scal P t = true) : xLoad P t (.pointer (some a)) w K = loadK P t a (w.cell? a) w K := by
  cases hc : w.cell? a with
  | none => rfl
  | some v =>
    have : (Instr.loadAt t (.pointer (some a))).run P w = .ok v w := by
      simp [Instr.loadAt, Instr.sureAddr, loadVar_scal h hc]
    exact propext ⟨fun h => by have h := h.out; rw [okV_ok this] at h; exact h, fun h => ⟨by rw [okV_ok this]; exact h⟩⟩
theorem loadK_some {t : TypeId} {a : Addr} {v : Value} : loadK P t a (some v) w K = K v w := id rfl


/-! structs -/
def aggN (P : Program) (t : TypeId) : Option Nat := match P.underlying t with
  | some (.struct _) | some (.array _ _) => (P.info? t).map (·.size)
  | _ => none
def loadsK (P : Program) (t : TypeId) (a : Addr) (w : World) (K : K1) : List (Option Value) → List Value → Prop
  | [], acc => K (.agg acc.toArray) w
  | some v :: l, acc => loadsK P t a w K l (acc ++ [v])
  | none :: _, _ => xLoad P t (.pointer (some a)) w K
theorem loadVar_agg {t : TypeId} {a : Addr} {cs : List Value} (h : aggN P t = some cs.length) (hc : ∀ j v, cs[j]? = some v → w.cell? (a.add j) = some v) :
    (loadVar t a).run P w = .ok (.agg cs.toArray) w := by
  unfold aggN at h
  have hagg : (isAgg t).run P w = .ok true w ∧ ∃ i, P.info? t = some i ∧ i.size = cs.length := by
    unfold isAgg underlying
    cases hu : P.underlying t with
    | none => rw [hu] at h; cases h
    | some d =>
      rw [hu] at h
      cases d <;> first
        | cases h
        | (simp only [Option.map_eq_some_iff] at h
           obtain ⟨i, hi, hs⟩ := h
           exact ⟨by simp [hu, program, Sem.run], i, hi, hs⟩)
  obtain ⟨h1, i, hi, hs⟩ := hagg
  unfold loadVar
  rw [Sem.run_bind, h1]
  have hl := run_loadCells_list (P := P) w a cs hc
  simp [sizeOf, typeInfo, hi, hs, hl]
theorem xLoad_agg {t : TypeId} {a : Addr} {cs : List Value} (h : aggN P t = some cs.length) (hc : ∀ j v, cs[j]? = some v → w.cell? (a.add j) = some v) :
    xLoad P t (.pointer (some a)) w K = K (.agg cs.toArray) w := by
  have : (Instr.loadAt t (.pointer (some a))).run P w = .ok (.agg cs.toArray) w := by
    simp [Instr.loadAt, Instr.sureAddr, loadVar_agg h hc]
  exact propext ⟨fun h => by have h := h.out; rw [okV_ok this] at h; exact h, fun h => ⟨by rw [okV_ok this]; exact h⟩⟩
theorem xLoadR_agg {t : TypeId} {a : Addr} {cs : List Value} {k : Value → Prop} (h : aggN P t = some cs.length) (hc : ∀ j v, cs[j]? = some v → w.cell? (a.add j) = some v) (hk : k (.agg cs.toArray)) :
    xLoadR P t (.pointer (some a)) w k := ⟨⟨_, loadVar_agg h hc, hk⟩⟩
theorem loadsK_all {t : TypeId} {a : Addr} (l : List (Option Value)) : ∀ acc, (∃ vs : List Value, l = vs.map some ∧ loadsK P t a w K l acc = K (.agg (acc ++ vs).toArray) w) ∨ loadsK P t a w K l acc = xLoad P t (.pointer (some a)) w K := by
  induction l with
  | nil => intro acc; exact .inl ⟨[], rfl, by simp [loadsK]⟩
  | cons o l ih =>
    intro acc
    cases o with
    | none => exact .inr rfl
    | some v =>
      rcases ih (acc ++ [v]) with ⟨vs, h1, h2⟩ | h
      · exact .inl ⟨v :: vs, by simp [h1], by simpa [loadsK] using h2⟩
      · exact .inr h
theorem xLoad_a {t : TypeId} {a : Addr} {l : List (Option Value)} (h : aggN P t = some l.length) (hl : ∀ j o, l[j]? = some o → w.cell? (a.add j) = o) :
    xLoad P t (.pointer (some a)) w K = loadsK P t a w K l [] := by
  rcases loadsK_all (P := P) (w := w) (K := K) (t := t) (a := a) l [] with ⟨vs, h1, h2⟩ | h'
  · rw [h2, List.nil_append]
    refine xLoad_agg (by rw [h, h1, List.length_map]) fun j v hj => hl j _ ?_
    rw [h1, List.getElem?_map, hj]; rfl
  · rw [h']
theorem cell_add {b o j : Nat} : w.cell? ((⟨b, o, none⟩ : Addr).add j) = w.cell? ⟨b, o + j, none⟩ := by
  unfold Addr.add
  split
  · rename_i h; subst h; rfl
  · rfl
theorem xFieldAddr_r {t : TypeId} {f off n : Nat} {b o : Nat} (h : (match P.underlying t with | some (.struct fs) => (fs[f]?).bind fun x => (P.info? x.type).map fun i => (x.offset, i.size) | _ => none) = some (off, n + 1)) :
    xFieldAddr P t (.pointer (some ⟨b, o, none⟩)) f w K = K (.pointer (some ⟨b, o + off, none⟩)) w := by
  cases hu : P.underlying t with
  | none => rw [hu] at h; cases h
  | some d =>
    rw [hu] at h
    cases d <;> first
      | cases h
      | skip
    rename_i fs
    simp only at h
    cases hf : fs[f]? with
    | none => rw [hf] at h; cases h
    | some x =>
      rw [hf] at h
      simp only [Option.bind_some] at h
      cases hi : P.info? x.type with
      | none => rw [hi] at h; cases h
      | some i =>
        rw [hi] at h
        simp only [Option.map_some, Option.some.injEq, Prod.mk.injEq] at h
        obtain ⟨h1, h2⟩ := h
        have ha : (⟨b, o, none⟩ : Addr).add off = ⟨b, o + off, none⟩ := by
          unfold Addr.add
          split
          · rename_i h; subst h; rfl
          · rfl
        have : (Instr.fieldAt t (.pointer (some ⟨b, o, none⟩)) f).run P w = .ok (.pointer (some ⟨b, o + off, none⟩)) w := by
          simp [Instr.fieldAt, underlying, hu, hf, Instr.sureAddr, fieldPlace, sizeOf, typeInfo, hi, h2, h1, ha]
        exact propext ⟨fun h => by have h := h.out; rw [okV_ok this] at h; exact h, fun h => ⟨by rw [okV_ok this]; exact h⟩⟩

theorem xLoad_an {t : TypeId} {b o n : Nat} (h : aggN P t = some n) :
    xLoad P t (.pointer (some ⟨b, o, none⟩)) w K = loadsK P t ⟨b, o, none⟩ w K ((List.range n).map fun i => w.cell? ⟨b, o + i, none⟩) [] := by
  refine xLoad_a (by simpa using h) fun j c hj => ?_
  rw [cell_add]
  rw [List.getElem?_map] at hj
  cases hr : (List.range n)[j]? with
  | none => rw [hr] at hj; cases hj
  | some i =>
    rw [hr] at hj
    have : i = j := by
      have := List.getElem?_eq_some_iff.1 hr
      obtain ⟨h1, h2⟩ := this
      simpa using h2.symm
    subst this
    simpa using hj
def loadsR (P : Program) (t : TypeId) (a : Addr) (w : World) (k : Value → Prop) : List (Option Value) → List Value → Prop
  | [], acc => k (.agg acc.toArray)
  | some v :: l, acc => loadsR P t a w k l (acc ++ [v])
  | none :: _, _ => xLoadR P t (.pointer (some a)) w k
theorem loadsR_all {t : TypeId} {a : Addr} {k : Value → Prop} (l : List (Option Value)) : ∀ acc, (∃ vs : List Value, l = vs.map some ∧ loadsR P t a w k l acc = k (.agg (acc ++ vs).toArray)) ∨ loadsR P t a w k l acc = xLoadR P t (.pointer (some a)) w k := by
  induction l with
  | nil => intro acc; exact .inl ⟨[], rfl, by simp [loadsR]⟩
  | cons o l ih =>
    intro acc
    cases o with
    | none => exact .inr rfl
    | some v =>
      rcases ih (acc ++ [v]) with ⟨vs, h1, h2⟩ | h
      · exact .inl ⟨v :: vs, by simp [h1], by simpa [loadsR] using h2⟩
      · exact .inr h
theorem xLoadR_an {t : TypeId} {b o n : Nat} {k : Value → Prop} (h : aggN P t = some n) :
    xLoadR P t (.pointer (some ⟨b, o, none⟩)) w k = loadsR P t ⟨b, o, none⟩ w k ((List.range n).map fun i => w.cell? ⟨b, o + i, none⟩) [] := by
  rcases loadsR_all (P := P) (w := w) (k := k) (t := t) (a := ⟨b, o, none⟩) ((List.range n).map fun i => w.cell? ⟨b, o + i, none⟩) [] with ⟨vs, h1, h2⟩ | h'
  · have hlen : vs.length = n := by have := congrArg List.length h1; simpa using this.symm
    have hc : ∀ j v, vs[j]? = some v → w.cell? ((⟨b, o, none⟩ : Addr).add j) = some v := by
      intro j v hj
      rw [cell_add]
      have hjn : j < n := by rw [← hlen]; exact (List.getElem?_eq_some_iff.1 hj).1
      have := congrArg (fun l => l[j]?) h1
      simp only [List.getElem?_map, hj, List.getElem?_range hjn, Option.map_some] at this
      exact Option.some.inj this
    rw [h2, List.nil_append]
    refine propext ⟨fun hx => ?_, fun hk => xLoadR_agg (by rw [h, hlen]) hc hk⟩
    obtain ⟨v, hv, hk⟩ := hx.out
    rw [loadVar_agg (by rw [h, hlen]) hc] at hv
    injection hv with hv1 _
    exact hv1 ▸ hk
  · rw [h']
theorem loadsK_s {t : TypeId} {a : Addr} {v : Value} {l : List (Option Value)} {acc : List Value} : loadsK P t a w K (some v :: l) acc = loadsK P t a w K l (acc ++ [v]) := id rfl
theorem loadsK_n {t : TypeId} {a : Addr} {acc : List Value} : loadsK P t a w K [] acc = K (.agg acc.toArray) w := id rfl
theorem loadsR_s {t : TypeId} {a : Addr} {v : Value} {l : List (Option Value)} {acc : List Value} {k : Value → Prop} : loadsR P t a w k (some v :: l) acc = loadsR P t a w k l (acc ++ [v]) := id rfl
theorem loadsR_n {t : TypeId} {a : Addr} {acc : List Value} {k : Value → Prop} : loadsR P t a w k [] acc = k (.agg acc.toArray) := id rfl
theorem xBuild_ok {t : TypeId} {ps : List (Nat × Value)} {v : Value} {w' : World} (h : (Instr.build t ps.toArray).run P w = .ok v w') : xBuild P t ps w K = K v w' :=
  propext ⟨fun hx => by rw [← okV_ok (K := K) h]; exact hx.out, fun hk => ⟨by rw [okV_ok h]; exact hk⟩⟩
theorem xField_ok {t : TypeId} {x : Value} {f : Nat} {v : Value} {w' : World} (h : (Instr.field t x f).run P w = .ok v w') : xField P t x f w K = K v w' :=
  propext ⟨fun hx => by rw [← okV_ok (K := K) h]; exact hx.out, fun hk => ⟨by rw [okV_ok h]; exact hk⟩⟩
theorem xIndex_ok {t : TypeId} {x i : Value} {v : Value} {w' : World} (h : (Instr.index t x i).run P w = .ok v w') : xIndex P t x i w K = K v w' :=
  propext ⟨fun hx => by rw [← okV_ok (K := K) h]; exact hx.out, fun hk => ⟨by rw [okV_ok h]; exact hk⟩⟩
theorem xConv_ok {s d : TypeId} {x : Value} {v : Value} {w' : World} (h : (convert s d x).run P w = .ok v w') : xConv P s d x w K = K v w' :=
  propext ⟨fun hx => by rw [← okV_ok (K := K) h]; exact hx.out, fun hk => ⟨by rw [okV_ok h]; exact hk⟩⟩
theorem okN_ok {s : Sem Next} {v : Value} {w' : World} (h : s.run P w = .ok (.value v) w') : okN P (s.run P w) K = K v w' := by rw [h]; rfl
theorem xBuiltin_ok {b : Builtin} {ats : Array TypeId} {ty : TypeId} {cs : List Bool} {args : List Value} {v : Value} {w' : World} (h : (builtin b ats ty cs.toArray args.toArray).run P w = .ok (.value v) w') :
    xBuiltin P b ats ty cs args w K = K v w' :=
  propext ⟨fun hx => by rw [← okN_ok (K := K) h]; exact hx.out, fun hk => ⟨by rw [okN_ok h]; exact hk⟩⟩
theorem xStore_ok {t : TypeId} {a x : Value} {u : Unit} {w' : World} (h : (Instr.storeAt t a x).run P w = .ok u w') : xStore P t a x w K = K undef w' :=
  propext ⟨fun hx => by rw [← okU_ok (K := K) h]; exact hx.out, fun hk => ⟨by rw [okU_ok h]; exact hk⟩⟩

/-! calls -/
theorem xCall_of {f : FuncId} {fn : Func} {args : List Value} {cap : Array Value} (hf : P.funcs[f]? = some fn) (hb : fn.body.isSome = true) (hn : (fn.name == "runtime.NumGoroutine") = false)
    (h : Yld P f (args.toArray ++ cap) w K) : xCall P (.func (.func f) #[] cap) args w K := by
  refine ⟨?_⟩
  have hb' : fn.body.isNone = false := by cases hbd : fn.body <;> simp_all
  have hn' : ¬ fn.name = "runtime.NumGoroutine" := by simpa using hn
  have : ((do let d ← Deferred.ofValue (.func (.func f) #[] cap) args.toArray; invoke d.target d.args : Sem Next)).run P w = .ok (.enter f (args.toArray ++ cap)) w := by
    simp [Deferred.ofValue, invoke, callFunc, program, hf, hn', Sem.run]
    intro hnone
    rw [hnone] at hb'
    cases hb'
  rw [this]
  exact h

theorem xCall_of0 {f : FuncId} {fn : Func} {args : List Value} (hf : P.funcs[f]? = some fn) (hb : fn.body.isSome = true) (hn : (fn.name == "runtime.NumGoroutine") = false)
    (h : Yld P f args.toArray w K) : xCall P (.func (.func f) #[] #[]) args w K := xCall_of hf hb hn (by simpa using h)

/-! a world that has kept all that was there -/
structure Ext (M : List Nat) (w w' : World) : Prop where
  os : w'.os = w.os
  tape : w'.tape = w.tape
  output : w'.output = w.output
  size : w.heap.size ≤ w'.heap.size
  block : ∀ k, k < w.heap.size → k ∉ M → w'.heap[k]? = w.heap[k]?
theorem Ext.refl (M : List Nat) (w : World) : Ext M w w := ⟨rfl, rfl, rfl, Nat.le_refl _, fun _ _ _ => rfl⟩
theorem Ext.trans {M : List Nat} {a b c : World} (h : Ext M a b) (k : Ext M b c) : Ext M a c :=
  ⟨k.os.trans h.os, k.tape.trans h.tape, k.output.trans h.output, Nat.le_trans h.size k.size, fun i hi hm => (k.block i (Nat.lt_of_lt_of_le hi h.size) hm).trans (h.block i hi hm)⟩
theorem Ext.drew (M : List Nat) (w : World) : Ext M w w.drew := ⟨rfl, rfl, rfl, Nat.le_refl _, fun _ _ _ => rfl⟩
theorem Ext.alloc (M : List Nat) (w : World) (o : Obj) : Ext M w (w.alloc o) :=
  ⟨rfl, rfl, rfl, by simp, fun k hk _ => Below.heap_alloc w o k hk⟩
theorem Ext.below {w w' : World} (h : Ext [] w w') : Below w.heap.size w w' := ⟨h.os, h.tape, h.output, h.size, fun k hk => h.block k hk (by simp)⟩
theorem Ext.cell {M : List Nat} {w w' : World} (h : Ext M w w') {a : Addr} (hb : a.block < w.heap.size) (hm : a.block ∉ M) : w'.cell? a = w.cell? a := World.cell?_of_block (w := w) (h.block a.block hb hm)
theorem Ext.cell0 {w w' : World} (h : Ext [] w w') {a : Addr} {v : Value} (hc : w.cell? a = some v) : w'.cell? a = some v := by
  rw [h.cell (World.block_lt_of_cell? w a hc) (by simp)]; exact hc

end
end Go.Sh
