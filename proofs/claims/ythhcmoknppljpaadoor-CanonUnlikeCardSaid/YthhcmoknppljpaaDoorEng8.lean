/- Congruences: a walk looks at an operation and its world, not at what comes behind. -/
import Derived.Test.YthhcmoknppljpaaDoorEng7
set_option linter.unusedVariables false
set_option linter.unusedSimpArgs false
namespace Go.Sh
open Go.RowKit
noncomputable section
/-- a mark that the walk takes off at once: so a congruence always counts as used, and what comes behind is left alone -/
def tick (w : World) : World := w
theorem tick_eq {w : World} : tick w = w := by cases w; rfl
def tickV (w : Value) : Value := w
theorem tickV_eq {w : Value} : tickV w = w := by cases w <;> rfl
@[congr] theorem xPick_congr {c c' : Value} {a a' : Value} {b b' : Value} {w w' : World} {K : K1} (hc : c = c') (ha : a = a') (hb : b = b') (hw : tick w = w') : xPick c a b w K = xPick c' a' b' w' K := by unfold tick at hw; subst hc ha hb hw; rfl
@[congr] theorem xAlloc_congr {P : Program} {t : TypeId} {w w' : World} {K : K1} (hw : tick w = w') : xAlloc P t w K = xAlloc P t w' K := by unfold tick at hw; subst hw; rfl
@[congr] theorem xBox_congr {P : Program} {t : TypeId} {v v' : Value} {w w' : World} {K : K1} (hv : v = v') (hw : tick w = w') : xBox P t v w K = xBox P t v' w' K := by unfold tick at hw; subst hv hw; rfl
@[congr] theorem xBuild_congr {P : Program} {t : TypeId} {ps ps' : List (Nat × Value)} {w w' : World} {K : K1} (hps : ps = ps') (hw : tick w = w') : xBuild P t ps w K = xBuild P t ps' w' K := by unfold tick at hw; subst hps hw; rfl
@[congr] theorem xBuildSlice_congr {P : Program} {t : TypeId} {n : Nat} {ps ps' : List (Nat × Value)} {w w' : World} {K : K1} (hps : ps = ps') (hw : tick w = w') : xBuildSlice P t n ps w K = xBuildSlice P t n ps' w' K := by unfold tick at hw; subst hps hw; rfl
@[congr] theorem xLoad_congr {P : Program} {t : TypeId} {a a' : Value} {w w' : World} {K : K1} (ha : a = a') (hw : tick w = w') : xLoad P t a w K = xLoad P t a' w' K := by unfold tick at hw; subst ha hw; rfl
@[congr] theorem xLoadR_congr {P : Program} {t : TypeId} {a a' : Value} {w w' : World} {k : Value → Prop} (ha : a = a') (hw : tick w = w') : xLoadR P t a w k = xLoadR P t a' w' k := by unfold tick at hw; subst ha hw; rfl
@[congr] theorem xStore_congr {P : Program} {t : TypeId} {a a' : Value} {x x' : Value} {w w' : World} {K : K1} (ha : a = a') (hx : x = x') (hw : tick w = w') : xStore P t a x w K = xStore P t a' x' w' K := by unfold tick at hw; subst ha hx hw; rfl
@[congr] theorem xBin_congr {P : Program} {op : BinOp} {t : TypeId} {cx : Bool} {x x' : Value} {cy : Bool} {y y' : Value} {w w' : World} {K : K1} (hx : x = x') (hy : y = y') (hw : tick w = w') : xBin P op t cx x cy y w K = xBin P op t cx x' cy y' w' K := by unfold tick at hw; subst hx hy hw; rfl
@[congr] theorem xUn_congr {P : Program} {op : UnOp} {x x' : Value} {w w' : World} {K : K1} (hx : x = x') (hw : tick w = w') : xUn P op x w K = xUn P op x' w' K := by unfold tick at hw; subst hx hw; rfl
@[congr] theorem xConv_congr {P : Program} {s : TypeId} {d : TypeId} {x x' : Value} {w w' : World} {K : K1} (hx : x = x') (hw : tick w = w') : xConv P s d x w K = xConv P s d x' w' K := by unfold tick at hw; subst hx hw; rfl
@[congr] theorem xMakeIface_congr {P : Program} {t : TypeId} {x x' : Value} {w w' : World} {K : K1} (hx : x = x') (hw : tick w = w') : xMakeIface P t x w K = xMakeIface P t x' w' K := by unfold tick at hw; subst hx hw; rfl
@[congr] theorem xMakeMap_congr {P : Program} {t : TypeId} {r r' : Option Value} {w w' : World} {K : K1} (hr : r = r') (hw : tick w = w') : xMakeMap P t r w K = xMakeMap P t r' w' K := by unfold tick at hw; subst hr hw; rfl
@[congr] theorem xMakeSlice_congr {P : Program} {t : TypeId} {l l' : Value} {c c' : Value} {w w' : World} {K : K1} (hl : l = l') (hc : c = c') (hw : tick w = w') : xMakeSlice P t l c w K = xMakeSlice P t l' c' w' K := by unfold tick at hw; subst hl hc hw; rfl
@[congr] theorem xSlice_congr {P : Program} {t : TypeId} {x x' : Value} {lo lo' : Option Value} {hi hi' : Option Value} {mx mx' : Option Value} {w w' : World} {K : K1} (hx : x = x') (hlo : lo = lo') (hhi : hi = hi') (hmx : mx = mx') (hw : tick w = w') : xSlice P t x lo hi mx w K = xSlice P t x' lo' hi' mx' w' K := by unfold tick at hw; subst hx hlo hhi hmx hw; rfl
@[congr] theorem xFieldAddr_congr {P : Program} {t : TypeId} {x x' : Value} {f : Nat} {w w' : World} {K : K1} (hx : x = x') (hw : tick w = w') : xFieldAddr P t x f w K = xFieldAddr P t x' f w' K := by unfold tick at hw; subst hx hw; rfl
@[congr] theorem xField_congr {P : Program} {t : TypeId} {x x' : Value} {f : Nat} {w w' : World} {K : K1} (hx : x = x') (hw : tick w = w') : xField P t x f w K = xField P t x' f w' K := by unfold tick at hw; subst hx hw; rfl
@[congr] theorem xIndexAddr_congr {P : Program} {t : TypeId} {x x' : Value} {i i' : Value} {w w' : World} {K : K1} (hx : x = x') (hi : i = i') (hw : tick w = w') : xIndexAddr P t x i w K = xIndexAddr P t x' i' w' K := by unfold tick at hw; subst hx hi hw; rfl
@[congr] theorem xIndex_congr {P : Program} {t : TypeId} {x x' : Value} {i i' : Value} {w w' : World} {K : K1} (hx : x = x') (hi : i = i') (hw : tick w = w') : xIndex P t x i w K = xIndex P t x' i' w' K := by unfold tick at hw; subst hx hi hw; rfl
@[congr] theorem xLookup_congr {P : Program} {t : TypeId} {x x' : Value} {i i' : Value} {ok : Bool} {w w' : World} {K : K1} (hx : x = x') (hi : i = i') (hw : tick w = w') : xLookup P t x i ok w K = xLookup P t x' i' ok w' K := by unfold tick at hw; subst hx hi hw; rfl
@[congr] theorem xMapUpdate_congr {P : Program} {t : TypeId} {m m' : Value} {k k' : Value} {x x' : Value} {w w' : World} {K : K1} (hm : m = m') (hk : k = k') (hx : x = x') (hw : tick w = w') : xMapUpdate P t m k x w K = xMapUpdate P t m' k' x' w' K := by unfold tick at hw; subst hm hk hx hw; rfl
@[congr] theorem xMapEntry_congr {P : Program} {t : TypeId} {m m' : Value} {k k' : Value} {w w' : World} {K : K1} (hm : m = m') (hk : k = k') (hw : tick w = w') : xMapEntry P t m k w K = xMapEntry P t m' k' w' K := by unfold tick at hw; subst hm hk hw; rfl
@[congr] theorem xEntryStore_congr {P : Program} {t : TypeId} {m m' : Value} {s s' : Value} {x x' : Value} {w w' : World} {K : K1} (hm : m = m') (hs : s = s') (hx : x = x') (hw : tick w = w') : xEntryStore P t m s x w K = xEntryStore P t m' s' x' w' K := by unfold tick at hw; subst hm hs hx hw; rfl
@[congr] theorem xRange_congr {P : Program} {t : TypeId} {x x' : Value} {w w' : World} {K : K1} (hx : x = x') (hw : tick w = w') : xRange P t x w K = xRange P t x' w' K := by unfold tick at hw; subst hx hw; rfl
@[congr] theorem xNext_congr {P : Program} {it it' : Value} {s : Bool} {ty : TypeId} {w w' : World} {K : K1} (hit : it = it') (hw : tick w = w') : xNext P it s ty w K = xNext P it' s ty w' K := by unfold tick at hw; subst hit hw; rfl
@[congr] theorem xEntry_congr {P : Program} {it it' : Value} {w w' : World} {K : K1} (hit : it = it') (hw : tick w = w') : xEntry P it w K = xEntry P it' w' K := by unfold tick at hw; subst hit hw; rfl
@[congr] theorem xExtract_congr {P : Program} {t t' : Value} {i : Nat} {w w' : World} {K : K1} (ht : t = t') (hw : tick w = w') : xExtract P t i w K = xExtract P t' i w' K := by unfold tick at hw; subst ht hw; rfl
@[congr] theorem xNilCheck_congr {x x' : Value} {w w' : World} {K : K1} (hx : x = x') (hw : tick w = w') : xNilCheck x w K = xNilCheck x' w' K := by unfold tick at hw; subst hx hw; rfl
@[congr] theorem xBuiltin_congr {P : Program} {b : Builtin} {ats : Array TypeId} {ty : TypeId} {cs : List Bool} {args args' : List Value} {w w' : World} {K : K1} (hargs : args = args') (hw : tick w = w') : xBuiltin P b ats ty cs args w K = xBuiltin P b ats ty cs args' w' K := by unfold tick at hw; subst hargs hw; rfl
@[congr] theorem xCall_congr {P : Program} {f f' : Value} {args args' : List Value} {w w' : World} {K : K1} (hf : f = f') (hargs : args = args') (hw : tick w = w') : xCall P f args w K = xCall P f' args' w' K := by unfold tick at hw; subst hf hargs hw; rfl
@[congr] theorem xGuard_congr {c c' : Value} {want : Bool} {run : World → K1 → Prop} {w w' : World} {K : K1} (hc : c = c') (hw : tick w = w') : xGuard c want run w K = xGuard c' want run w' K := by unfold tick at hw; subst hc hw; rfl
@[congr] theorem loadK_congr {P : Program} {t : TypeId} {a : Addr} {o o' : Option Value} {w w' : World} {K : K1} (ho : o = o') (hw : tick w = w') : loadK P t a o w K = loadK P t a o' w' K := by unfold tick at hw; subst ho hw; rfl
@[congr] theorem loadsK_congr {P : Program} {t : TypeId} {a : Addr} {w w' : World} {K : K1} {lo lo' : List (Option Value)} {acc : List Value} (hw : tick w = w') (hlo : lo = lo') : loadsK P t a w K lo acc = loadsK P t a w' K lo' acc := by unfold tick at hw; subst hw hlo; rfl
@[congr] theorem loadsR_congr {P : Program} {t : TypeId} {a : Addr} {w w' : World} {k : Value → Prop} {lo lo' : List (Option Value)} {acc : List Value} (hw : tick w = w') (hlo : lo = lo') : loadsR P t a w k lo acc = loadsR P t a w' k lo' acc := by unfold tick at hw; subst hw hlo; rfl
@[congr] theorem storesK_congr {P : Program} {t : TypeId} {a : Addr} {v v' : Value} {w w' : World} {K : K1} {lc lc' : List (Option Value × Bool × Bool)} (hv : v = v') (hw : tick w = w') (hlc : lc = lc') : storesK P t a v w K lc = storesK P t a v' w' K lc' := by unfold tick at hw; subst hv hw hlc; rfl
@[congr] theorem xIf_congr {c c' : Value} {A B : Prop} (hc : tickV c = c') : xIf c A B = xIf c' A B := by unfold tickV at hc; subst hc; rfl
@[congr] theorem xDet_congr {le : World → World → Prop} {H : World → Prop} {run run' : World → K1 → Prop} {next : Value → Prop} (hr : ∀ w K, run (tick w) K = run' w K) : xDet le H run next = xDet le H run' next := by
  have : run = run' := funext fun w => funext fun K => hr w K
  rw [this]
@[congr] theorem xSq_congr {w w' : World} {body : World → Prop} (hw : tick w = w') : xSq w body = xSq w' body := by unfold tick at hw; subst hw; rfl
@[congr] theorem xPur_congr {w w' : World} {run run' : World → K1 → Prop} {next : Value → Prop} (hw : tick w = w') (hr : ∀ w K, run w K = run' w K) : xPur w run next = xPur w' run' next := by
  unfold tick at hw
  have : run = run' := funext fun w => funext fun K => hr w K
  rw [this, hw]
@[congr] theorem xRd_congr {w w' : World} {run run' : K1 → Prop} {next : Value → Prop} (hw : tick w = w') (hr : ∀ K, run K = run' K) : xRd w run next = xRd w' run' next := by
  unfold tick at hw
  have : run = run' := funext fun K => hr K
  rw [this, hw]
@[congr] theorem xRe_congr {w w' : World} {run run' : K1 → Prop} {x x' : Value} {next : Prop} (hw : tick w = w') (hr : ∀ K, run K = run' K) (hx : x = x') : xRe w run x next = xRe w' run' x' next := by
  unfold tick at hw
  have : run = run' := funext fun K => hr K
  rw [this, hw, hx]
@[congr] theorem xAlt_congr {A B : Prop} : xAlt A B = xAlt A B := rfl
theorem xSq_r {w : World} {body : World → Prop} : xSq w body = body w := propext ⟨fun h => h.out, fun h => ⟨h⟩⟩
theorem xPur_s {w : World} {x : Value} {next : Value → Prop} : xPur w (fun w K => K x w) next = next x :=
  propext ⟨fun h => by obtain ⟨y, h1, h2⟩ := h.out; rw [(h1 w).1]; exact h2, fun h => ⟨x, fun _ => ⟨rfl, rfl⟩, h⟩⟩
theorem xRd_s {w : World} {x : Value} {next : Value → Prop} : xRd w (fun K => K x w) next = next x :=
  propext ⟨fun h => by obtain ⟨y, h1, h2⟩ := h.out; rw [h1.1]; exact h2, fun h => ⟨x, ⟨rfl, rfl⟩, h⟩⟩
theorem xRe_s {w : World} {x : Value} {next : Prop} : xRe w (fun K => K x w) x next = next :=
  propext ⟨fun h => h.out.2, fun h => ⟨⟨rfl, rfl⟩, h⟩⟩
@[congr] theorem xNon_congr {le : World → World → Prop} {H H' : World → Prop} {run : World → K1 → Prop} {next : Value → (World → Prop) → Prop} (hH : ∀ w, H (tick w) = H' w) : xNon le H run next = xNon le H' run next := by
  have : H = H' := funext fun w => hH w
  rw [this]
@[congr] theorem xEnd_congr {H H' : World → Prop} {k : World → Prop} (hH : ∀ w, H (tick w) = H' w) : xEnd H k = xEnd H' k := by
  have : H = H' := funext fun w => hH w
  rw [this]
@[congr] theorem xEndU_congr {E E' k : Env → World → Prop} (hE : ∀ u w, E u (tick w) = E' u w) : xEndU E k = xEndU E' k := by
  have : E = E' := funext fun u => funext fun w => hE u w
  rw [this]
@[congr] theorem xLast_congr {le : World → World → Prop} {H H' : World → Prop} {run : World → K1 → Prop} {N : Value → World → Prop} (hH : ∀ w, H (tick w) = H' w) : xLast le H run N = xLast le H' run N := by
  have : H = H' := funext fun w => hH w
  rw [this]
@[congr] theorem xStrV_congr {le : World → World → Prop} {chain chain' : (Value → World → Prop) → Prop} {next : Value → (World → Prop) → Prop} (hc : ∀ N, chain N = chain' N) : xStrV le chain next = xStrV le chain' next := by
  have : chain = chain' := funext fun N => hc N
  rw [this]
@[congr] theorem xOpn_congr {le : World → World → Prop} {chain chain' : (Value → World → Prop) → Prop} {next : (Value → World → Prop) → Prop} (hc : ∀ N, chain N = chain' N) : xOpn le chain next = xOpn le chain' next := by
  have : chain = chain' := funext fun N => hc N
  rw [this]
@[congr] theorem xStr_congr {chain chain' : (Value → Prop) → Prop} {next : Value → Prop} (hc : ∀ N, chain N = chain' N) : xStr chain next = xStr chain' next := by
  have : chain = chain' := funext fun N => hc N
  rw [this]
@[congr] theorem xDraw_congr {w w' : World} {body : (World → World → Prop) → (World → Prop) → Prop} (hw : tick w = w') : xDraw w body = xDraw w' body := by unfold tick at hw; subst hw; rfl
@[congr] theorem xLoop_congr {vs vs' : List Value} {w w' : World} {S : List Nat} {B : Env → World → (List Value → World → Prop) → Prop} (hv : vs = vs') (hw : tick w = w') : xLoop vs w S B = xLoop vs' w' S B := by unfold tick at hw; subst hv hw; rfl

/-! tests whose answer is open -/
variable {w : World} {K : K1}
theorem xIf_tt {c : Value} {A B C : Prop} : xIf c (xIf c A B) C = xIf c A C := by
  refine propext ⟨fun h => ⟨?_⟩, fun h => ⟨?_⟩⟩
  all_goals
    have := h.out
    revert this
    cases c <;> try exact id
    rename_i b
    cases b
    · exact id
    · first | exact fun h => h.out | exact fun h => ⟨h⟩
theorem wf_u8 {n : Int} (h : (Lit.int .u8 n).wf = true) : 0 ≤ n ∧ n ≤ 255 := by simpa [Lit.wf, IntKind.min, IntKind.max, IntKind.bits, IntKind.signed] using h
variable {P : Program}
theorem xEx0 {a : Value} {l : List Value} : xExtract P (.tuple (a :: l).toArray) 0 w K = K a w := xExtract_i (by simp)
theorem xEx1 {a b : Value} {l : List Value} : xExtract P (.tuple (a :: b :: l).toArray) 1 w K = K b w := xExtract_i (by simp)
theorem xEx2 {a b c : Value} {l : List Value} : xExtract P (.tuple (a :: b :: c :: l).toArray) 2 w K = K c w := xExtract_i (by simp)
theorem xEx3 {a b c d : Value} {l : List Value} : xExtract P (.tuple (a :: b :: c :: d :: l).toArray) 3 w K = K d w := xExtract_i (by simp)
/-! ### equality of structs -/
def eqV : Value → Value → Bool
  | .int _ a, .int _ b => decide (a = b)
  | .bool a, .bool b => a == b
  | .string a, .string b => decide (a = b)
  | _, _ => false
def okF (P : Program) (xs ys : Array Value) (f : Field) : Bool := match P.underlying f.type, xs[f.offset]?, ys[f.offset]? with
  | some (.int _), some (.int k _), some (.int k' _) => if k = k' then f.name != "_" else false
  | some .bool, some (.bool _), some (.bool _) => f.name != "_"
  | some .string, some (.string _), some (.string _) => f.name != "_"
  | _, _, _ => false
def eqF (xs ys : Array Value) (f : Field) : Bool := match xs[f.offset]?, ys[f.offset]? with
  | some a, some b => eqV a b
  | _, _ => false
theorem run_part_scal {P : Program} {w : World} {t : TypeId} {cs : Array Value} {o : Nat} {v : Value} (h : scal P t = true) (hc : cs[o]? = some v) : (part t cs o).run P w = .ok v w := by
  unfold part
  rw [Sem.run_bind, isAgg_scal h]
  simp [hc]
theorem run_eqFields {P : Program} {w : World} {d : Nat} {xs ys : Array Value} : ∀ fs : List Field, fs.all (okF P xs ys) = true → (Op.eqFields (d + 1) xs ys fs).run P w = .ok (fs.all (eqF xs ys)) w
  | [], _ => rfl
  | f :: fs, h => by
    simp only [List.all_cons, Bool.and_eq_true] at h
    have ih := run_eqFields (P := P) (w := w) (d := d) (xs := xs) (ys := ys) fs h.2
    have h1 := h.1
    unfold okF at h1
    cases hu : P.underlying f.type with
    | none => rw [hu] at h1; cases h1
    | some u =>
      have hs : scal P f.type = true := by
        unfold scal; rw [hu] at h1 ⊢
        cases u <;> first | rfl | cases h1
      cases hx : xs[f.offset]? with
      | none => rw [hu, hx] at h1; cases u <;> cases h1
      | some a =>
        cases hy : ys[f.offset]? with
        | none => rw [hu, hx, hy] at h1; cases u <;> cases a <;> cases h1
        | some b =>
          have pa := run_part_scal (P := P) (w := w) hs hx
          have pb := run_part_scal (P := P) (w := w) hs hy
          rw [hu, hx, hy] at h1
          have hn : f.name ≠ "_" ∧ (Op.equalIn (d + 1) f.type a b).run P w = .ok (eqV a b) w := by
            cases u <;> cases a <;> first | (cases h1; done) | skip
            all_goals cases b <;> first | (cases h1; done) | skip
            all_goals first
              | (refine ⟨by simpa using h1, ?_⟩; rw [run_equalIn_bool' _ _ _ _ _ hu]; rfl)
              | (refine ⟨by simpa using h1, ?_⟩; rw [run_equalIn_string _ _ _ _ _ hu, bytes_beq]; rfl)
              | (simp only at h1
                 split at h1
                 · rename_i hk
                   subst hk
                   refine ⟨by simpa using h1, ?_⟩
                   rw [run_equalIn_int _ _ _ _ _ _ _ hu]
                   rfl
                 · cases h1)
          have he : eqF xs ys f = eqV a b := by unfold eqF; rw [hx, hy]
          simp only [Op.eqFields, if_pos hn.1, Sem.run_bind, pa, pb, hn.2, Result.andThen_ok, List.all_cons, he]
          cases eqV a b
          · simp
          · simpa using ih
theorem xBin_neS {P : Program} {t : TypeId} {xs ys : Array Value} {cx cy : Bool} (hm : P.eqGuardType P.depth t = false) (ht : P.underlying t = some (.struct (P.fieldsOf t))) (hp : P.stoodInHeld t = false) {b : Bool} (ho : (P.fieldsOf t).toList.all (okF P xs ys) = true) (hb : (P.fieldsOf t).toList.all (eqF xs ys) = b) :
    xBin P .neq t cx (.agg xs) cy (.agg ys) w K = K (.bool (!b)) w :=
  xBin_ok (by rw [Sem.run_bind, run_eqGuard_agg _ _ _ _ _ _ _ hm, Result.andThen_ok, run_neq_struct, run_equalIn_struct _ _ _ _ _ ht hp, run_eqFields (d := 9998) _ ho, hb]; rfl)
end
end Go.Sh
