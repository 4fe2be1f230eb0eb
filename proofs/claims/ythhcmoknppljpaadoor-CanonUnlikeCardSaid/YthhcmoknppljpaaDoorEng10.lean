/- Rules: rows of one-cell elements: read, made, copied, appended to, cut; loops that count. -/
import Derived.Test.YthhcmoknppljpaaDoorEng9
import Derived.Laws.AppendOwn
import Derived.Laws.OwnMore
import Derived.Laws.MakeOwn
import Derived.Laws.IdiomCopy
import Derived.Laws.IdiomStrings
import Derived.Laws.BytesString
import Derived.Laws.Slices
set_option linter.unusedVariables false
set_option linter.unusedSimpArgs false
namespace Go.Sh
open Go.RowKit
noncomputable section
variable {P : Program} {w : World} {K : K1} {t e : TypeId}

theorem xGuard_u {want : Bool} {r : World → K1 → Prop} : xGuard undef want r w K = K undef w := propext ⟨fun h => h.out, fun h => ⟨h⟩⟩
/-! ### rows that are read -/
def RowAt (w : World) (a : Option Addr) (cs : List Value) : Prop := cs = [] ∨ ∃ b o, a = some ⟨b, o, none⟩ ∧ ∀ i x, cs[i]? = some x → w.cell? ⟨b, o + i, none⟩ = some x
theorem RowAt.nil {a : Option Addr} : RowAt w a [] := .inl rfl
theorem RowAt.get {a : Option Addr} {cs : List Value} (h : RowAt w a cs) (hc : cs ≠ []) : ∃ b o, a = some ⟨b, o, none⟩ ∧ b < w.heap.size ∧ ∀ i x, cs[i]? = some x → w.cell? ⟨b, o + i, none⟩ = some x := by
  rcases h with h | ⟨b, o, h1, h2⟩
  · exact absurd h hc
  · refine ⟨b, o, h1, ?_, h2⟩
    cases cs with
    | nil => exact absurd rfl hc
    | cons x cs => exact World.block_lt_of_cell? w ⟨b, o + 0, none⟩ (h2 0 x rfl)
theorem RowAt.at {a : Option Addr} {cs : List Value} {i : Nat} (h : RowAt w a cs) (hi : i < cs.length) : ∃ b o, a = some ⟨b, o, none⟩ ∧ b < w.heap.size ∧ w.cell? ⟨b, o + i, none⟩ = some cs[i] := by
  obtain ⟨b, o, h1, h2, h3⟩ := h.get (by intro e; subst e; simp at hi)
  exact ⟨b, o, h1, h2, h3 i _ (by simp [hi])⟩
theorem RowAt.ext {M : List Nat} {w' : World} {a : Option Addr} {cs : List Value} (h : RowAt w a cs) (hx : Ext M w w') (hm : ∀ b o, a = some ⟨b, o, none⟩ → b ∉ M) : RowAt w' a cs := by
  by_cases hc : cs = []
  · exact .inl hc
  · obtain ⟨b, o, h1, h2, h3⟩ := h.get hc
    exact .inr ⟨b, o, h1, fun i x hi => by rw [hx.cell (a := ⟨b, o + i, none⟩) h2 (hm b o h1)]; exact h3 i x hi⟩
theorem RowAt.ext0 {w' : World} {a : Option Addr} {cs : List Value} (h : RowAt w a cs) (hx : Ext [] w w') : RowAt w' a cs := h.ext hx (by simp)
theorem RowAt.take {a : Option Addr} {cs : List Value} (h : RowAt w a cs) (n : Nat) : RowAt w a (cs.take n) := by
  rcases h with h | ⟨b, o, h1, h2⟩
  · exact .inl (by simp [h])
  · refine .inr ⟨b, o, h1, fun i x hi => h2 i x ?_⟩
    rw [List.getElem?_take] at hi
    split at hi
    · exact hi
    · cases hi
theorem RowAt.drop {a : Option Addr} {cs : List Value} (h : RowAt w a cs) (n c : Nat) (hc : cs.length ≤ c) : RowAt w (if c = n then a else a.map (·.add n)) (cs.drop n) := by
  by_cases hn : c = n
  · exact .inl (List.drop_eq_nil_of_le (by omega))
  · rw [if_neg hn]
    rcases h with h | ⟨b, o, h1, h2⟩
    · exact .inl (by simp [h])
    · refine .inr ⟨b, o + n, by rw [h1, Option.map_some, addr_add], fun i x hi => ?_⟩
      rw [Nat.add_assoc]
      exact h2 (n + i) x (by simpa using hi)
/-! ### rows that are written -/
def Blk (w : World) (g : Nat) (e : TypeId) (cs : List Value) : Prop := w.heap[g]? = some (.cells cs.toArray e (0, 0))
theorem Blk.lt {g : Nat} {cs : List Value} (h : Blk w g e cs) : g < w.heap.size := (Array.getElem?_eq_some_iff.1 h).1
theorem Blk.cell {g i : Nat} {cs : List Value} (h : Blk w g e cs) : w.cell? ⟨g, i, none⟩ = cs[i]? := by
  unfold World.cell?
  simp only [show w.heap[(⟨g, i, none⟩ : Addr).block]? = some (.cells cs.toArray e (0, 0)) from h]
  simp
theorem Blk.frozen {g i : Nat} {cs : List Value} (h : Blk w g e cs) : w.frozen? ⟨g, i, none⟩ = false := by
  unfold World.frozen?
  simp only [show w.heap[(⟨g, i, none⟩ : Addr).block]? = some (.cells cs.toArray e (0, 0)) from h]
  simp
theorem Blk.row {g : Nat} {cs : List Value} (h : Blk w g e cs) : RowAt w (some ⟨g, 0, none⟩) cs := .inr ⟨g, 0, rfl, fun i x hi => by rw [h.cell, Nat.zero_add]; exact hi⟩
theorem Blk.new (w : World) (cs : List Value) : Blk (w.alloc (.cells cs.toArray e)) w.heap.size e cs := by
  unfold Blk
  rw [heap_alloc_new]
theorem Blk.ext {M : List Nat} {w' : World} {g : Nat} {cs : List Value} (h : Blk w g e cs) (hx : Ext M w w') (hm : g ∉ M) : Blk w' g e cs := by
  unfold Blk
  rw [hx.block g h.lt hm]
  exact h
theorem Blk.set {g i : Nat} {cs : List Value} {v : Value} (h : Blk w g e cs) : Blk (w.setCell ⟨g, i, none⟩ v) g e (cs.set i v) := by
  unfold Blk World.setCell
  rw [Array.getElem?_modify]
  rw [show w.heap[g]? = some (.cells cs.toArray e (0, 0)) from h]
  simp
theorem Blk.sets : ∀ {l : List Value} {w : World} {g o : Nat} {cs : List Value}, Blk w g e cs → o + l.length ≤ cs.length → Blk (w.setCells g o l) g e (cs.take o ++ l ++ cs.drop (o + l.length))
  | [], w, g, o, cs, h, _ => by simpa [setCells_n] using h
  | v :: l, w, g, o, cs, h, hl => by
    rw [setCells_c]
    have := Blk.sets (l := l) (o := o + 1) (h.set (i := o) (v := v)) (by simp at hl ⊢; omega)
    simp only [List.length_cons] at hl ⊢
    have e : cs.take o ++ v :: l ++ cs.drop (o + (l.length + 1)) = (cs.set o v).take (o + 1) ++ l ++ (cs.set o v).drop (o + 1 + l.length) := by
      rw [List.drop_set_of_lt (by omega), List.take_add_one, List.take_set_of_le (Nat.le_refl _), List.getElem?_set_self (by omega), show o + 1 + l.length = o + (l.length + 1) by omega]
      simp
    rw [e]
    exact this
theorem Ext.sets {M : List Nat} {a w : World} {g o : Nat} {l : List Value} (h : Ext M a w) (hg : g ∈ M ∨ a.heap.size ≤ g) : Ext M a (w.setCells g o l) := setCells_ext g hg l w o h
theorem Blk.own {g cap n base : Nat} {cs : List Value} (h : Blk w g e cs) (hb : base ≤ g) (hm : cs.length ≤ maxLen) : w.ownsRow base e 1 (.slice (some ⟨g, 0, none⟩) cs.length cs.length) cs.length cs :=
  ⟨by simp, .inr ⟨g, cs.length, cs.toArray, rfl, hb, h, Nat.le_refl _, hm, by simp, by simp⟩⟩

/-! ### operations on rows -/
theorem xSlice_h {k : IntKind} {a : Option Addr} {n c : Nat} {h : Int} (ht : P.underlying t = some (.slice (P.elem t))) (hs : (P.info? (P.elem t)).map (·.size) = some 1) (h0 : 0 ≤ h) (h1 : h ≤ c) :
    xSlice P t (.slice a n c) none (some (.int k h)) none w K = K (.slice a h.toNat c) w := by
  have hr := run_slice_h (P := P) (w := w) t a n c ht k h h0 h1
  have hz : sliced a 0 h.toNat c 1 = .slice a h.toNat c := by
    unfold sliced
    by_cases hc : c = 0
    · rw [if_pos hc]; rfl
    · rw [if_neg hc]; cases a <;> simp [Addr.add]
  have : (Instr.sliceAt t (.slice a n c) none (some (.int k h)) none).run P w = .ok (.slice a h.toNat c) w := by
    rw [run_sliceAt_slice w t _ _ _ _ ht, hr]
    cases hq : P.info? (P.elem t) with
    | none => rw [hq] at hs; cases hs
    | some i => simp [hq] at hs; simp [sizeOf, typeInfo, hq, hs, hz]
  exact propext ⟨fun h => by have := h.out; rw [‹(Instr.sliceAt _ _ _ _ _).run P w = _›] at this; exact this, fun h => ⟨by rw [this]; exact h⟩⟩
theorem xSlice_l {k : IntKind} {a : Option Addr} {n c : Nat} {l : Int} (ht : P.underlying t = some (.slice (P.elem t))) (hs : (P.info? (P.elem t)).map (·.size) = some 1) (h0 : 0 ≤ l) (h1 : l ≤ n) :
    xSlice P t (.slice a n c) (some (.int k l)) none none w K = K (.slice (if c = l.toNat then a else a.map (·.add l.toNat)) (n - l.toNat) (c - l.toNat)) w := by
  have hr := run_slice_l (P := P) (w := w) t a n c ht k l h0 h1
  have : (Instr.sliceAt t (.slice a n c) (some (.int k l)) none none).run P w = .ok (.slice (if c = l.toNat then a else a.map (·.add l.toNat)) (n - l.toNat) (c - l.toNat)) w := by
    rw [run_sliceAt_slice w t _ _ _ _ ht, hr]
    cases hq : P.info? (P.elem t) with
    | none => rw [hq] at hs; cases hs
    | some i => simp [hq] at hs; simp [sizeOf, typeInfo, hq, hs, sliced]
  exact propext ⟨fun h => by have := h.out; rw [‹(Instr.sliceAt _ _ _ _ _).run P w = _›] at this; exact this, fun h => ⟨by rw [this]; exact h⟩⟩
theorem xSlice_hm {k k' : IntKind} {a : Option Addr} {n c : Nat} {h m : Int} (ht : P.underlying t = some (.slice (P.elem t))) (hs : (P.info? (P.elem t)).map (·.size) = some 1) (h0 : 0 ≤ h) (h1 : h ≤ m) (h2 : m ≤ c) :
    xSlice P t (.slice a n c) none (some (.int k h)) (some (.int k' m)) w K = K (.slice a h.toNat m.toNat) w := by
  have hr := run_slice_hm (P := P) (w := w) t a n c ht k k' h m h0 h1 h2
  have hz : sliced a 0 h.toNat m.toNat 1 = .slice a h.toNat m.toNat := by
    unfold sliced
    by_cases hc : m.toNat = 0
    · rw [if_pos hc]; rfl
    · rw [if_neg hc]; cases a <;> simp [Addr.add]
  have : (Instr.sliceAt t (.slice a n c) none (some (.int k h)) (some (.int k' m))).run P w = .ok (.slice a h.toNat m.toNat) w := by
    rw [run_sliceAt_slice w t _ _ _ _ ht, hr]
    cases hq : P.info? (P.elem t) with
    | none => rw [hq] at hs; cases hs
    | some i => simp [hq] at hs; simp [sizeOf, typeInfo, hq, hs, hz]
  exact propext ⟨fun h => by have := h.out; rw [‹(Instr.sliceAt _ _ _ _ _).run P w = _›] at this; exact this, fun h => ⟨by rw [this]; exact h⟩⟩
theorem xNil_r {a : Addr} : xNilCheck (.pointer (some a)) w K = K (.pointer (some a)) w := propext ⟨fun h => h.out, fun h => ⟨h⟩⟩
theorem xBuiltin_okv {b : Builtin} {ats : Array TypeId} {ty : TypeId} {cs : List Bool} {args : List Value} {v : Value} {w' : World} (h : (builtin b ats ty cs.toArray args.toArray).run P w = .ok (.value v) w') :
    xBuiltin P b ats ty cs args w K = K v w' := propext ⟨fun hx => by have := hx.out; rw [h] at this; exact this, fun hk => ⟨by rw [h]; exact hk⟩⟩
/-- onto a row that nobody else has -/
theorem xAppend_own {ty : TypeId} {c1 c2 : Bool} {base bytes n m c : Nat} {v : Value} {a : Option Addr} {xs news : List Value} {z : Value}
    (ht : P.underlying t = some (.slice e)) (hi : (P.info? e).map (fun i => (i.size, i.bytes, i.zero)) = some (1, bytes, some z)) (hzs : z.cells.size = 1)
    (hown : w.ownsRow base e 1 v n xs) (hm : m = news.length) (hsrc : RowAt w a news) (hnil : a = none → c = 0) (h1 : ∀ u ∈ news, u.oneCell' = true) (hlen : n + m ≤ 4294967296) (hbytes : (n + m) * bytes ≤ 140737488355328) (hbase : base ≤ w.heap.size)
    (hK : ∀ v' w', w'.ownsRow base e 1 v' (n + m) (xs ++ news) → w.grownBy w' v.ownBlock → K v' w') : xBuiltin P .append #[t, t] ty [c1, c2] [v, .slice a m c] w K := by
  subst hm
  cases hq : P.info? e with
  | none => rw [hq] at hi; cases hi
  | some i =>
    rw [hq] at hi
    simp only [Option.map_some, Option.some.injEq, Prod.mk.injEq] at hi
    obtain ⟨hs, hby, hz⟩ := hi
    cases a with
    | none =>
      have hn : news = [] := by rcases hsrc with h | ⟨b, o, h, _⟩; exact h; cases h
      subst hn
      have := run_append_owned_none (P := P) w base t ty e i 1 ht hq v n xs hown
      rw [hnil rfl]
      rw [xBuiltin_okv (v := v) (w' := w) (by simp [builtin, this])]
      exact hK v w (by simpa using hown) ⟨rfl, rfl, rfl, Nat.le_refl _, fun _ _ _ => rfl⟩
    | some a =>
      obtain ⟨v', w', hr, ho, hg, _⟩ := run_append_own (P := P) w base t ty e i z 1 bytes ht hq hz hs hby hzs (by decide) v n xs hown a news.length c news (by simp) (fun j u hj => by
          rcases hsrc with h | ⟨b, o, h, h2⟩
          · subst h; simp at hj
          · simp only [Option.some.injEq] at h; subst h; rw [addr_add]; exact h2 j u hj) h1 (by simp only [maxLen]; omega) hbytes hbase
      rw [xBuiltin_okv (v := v') (w' := w') (by simp [builtin, hr])]
      exact hK v' w' ho hg
theorem grownBy_ext {w' : World} {M : List Nat} {r : Option Nat} (h : w.grownBy w' r) (hr : ∀ g, r = some g → g ∈ M) : Ext M w w' :=
  ⟨h.os, h.tape, h.output, h.size, fun k hk hm => h.block k hk (fun e => hm (hr k e.symm))⟩
/-- onto one's own row, seen from where one began -/
theorem grownBy_new {w0 w' : World} {r : Option Nat} (h0 : Ext [] w0 w) (h : w.grownBy w' r) (hr : ∀ g, r = some g → w0.heap.size ≤ g) : Ext [] w0 w' := by
  cases r with
  | none => exact h0.trans (grownBy_ext h (by simp))
  | some g => exact h0.new (grownBy_ext (M := [g]) h (by simp)) (by simpa using hr g rfl)

theorem xBuildSlice_ok {n : Nat} {ps : List (Nat × Value)} {v : Value} {w' : World} (h : (Instr.buildSlice t n ps.toArray).run P w = .ok v w') : xBuildSlice P t n ps w K = K v w' :=
  propext ⟨fun hx => by have := hx.out; rw [h] at this; exact this, fun hk => ⟨by rw [h]; exact hk⟩⟩
/-- bytes that a string's own bytes are: nothing but a mark behind them -/
theorem Ext.freeze (M : List Nat) {b o n : Nat} (hb : b ∈ M) : Ext M w (w.freeze ⟨b, o, none⟩ n) := by
  unfold World.freeze
  split
  · exact Ext.refl M w
  · exact ⟨rfl, rfl, rfl, by simp, fun k hk hm => by
      have : ¬ b = k := fun e => hm (e ▸ hb)
      simp [Array.getElem?_modify, this]⟩
theorem cell_freeze {b o n : Nat} {a : Addr} : (w.freeze ⟨b, o, none⟩ n).cell? a = w.cell? a := by
  unfold World.freeze
  split
  · rfl
  · unfold World.cell?
    simp only [Array.getElem?_modify]
    by_cases h : b = a.block
    · subst h
      cases hh : w.heap[a.block]? with
      | none => simp
      | some ob => cases ob <;> simp
    · simp [h]
theorem size_freeze {b o n : Nat} : (w.freeze ⟨b, o, none⟩ n).heap.size = w.heap.size := by
  unfold World.freeze
  split <;> simp
theorem RowAt.freeze {b o n : Nat} {a : Option Addr} {cs : List Value} (h : RowAt w a cs) : RowAt (w.freeze ⟨b, o, none⟩ n) a cs := by
  rcases h with h | ⟨b', o', h1, h2⟩
  · exact .inl h
  · exact .inr ⟨b', o', h1, fun i x hi => by rw [cell_freeze]; exact h2 i x hi⟩
theorem xConv_okw {s d : TypeId} {x v : Value} {w' : World} (h : (convert s d x).run P w = .ok v w') : xConv P s d x w K = K v w' := propext ⟨fun hx => by have := hx.out; rw [h] at this; exact this, fun hk => ⟨by rw [h]; exact hk⟩⟩
theorem xConv_lit {a : Addr} {n c m : Nat} {te : TypeId} (hs : P.underlying t = some (.slice e)) (he : P.underlying e = some (.int .u8)) (hsh : w.shape? a.block = some (te, m)) :
    xConv P t t (.slice (some a) n c) w K = K (.slice (some a) n c) (w.freeze ⟨a.block, m, none⟩ 1) := by
  refine xConv_okw ?_
  simp [convert, underlying, hs, he, markStringish, shape, freeze, hsh, program, Sem.run]
theorem shape_alloc {cs : Array Value} {te : TypeId} : (w.alloc (.cells cs te)).shape? w.heap.size = some (te, cs.size) := by
  unfold World.shape?
  rw [heap_alloc_new]

/-- a string's bytes as a row: the row, and a mark behind it -/
theorem xConv_bytes {n : Nat} {cs : List Value} (hs : P.underlying t = some (.slice e)) (he : P.underlying e = some (.int .u8))
    (hK : ∀ w', Ext [] w w' → RowAt w' (some ⟨w.heap.size, 0, none⟩) cs → w.heap.size < w'.heap.size → K (.slice (some ⟨w.heap.size, 0, none⟩) n n) w') :
    xConv P t t (.slice (some ⟨w.heap.size, 0, none⟩) n n) (w.alloc (.cells cs.toArray e)) K := by
  rw [xConv_lit (te := e) (m := cs.toArray.size) hs he shape_alloc]
  refine hK _ ((Ext.alloc [] w _).new (Ext.freeze [w.heap.size] (by simp)) (by simp)) (RowAt.freeze (Blk.new w cs).row) (by rw [size_freeze]; simp)

theorem own_ext {base n : Nat} {v : Value} {cs : List Value} {w' : World} (h : w.ownsRow base e 1 v n cs) (hx : Ext [] w w') : w'.ownsRow base e 1 v n cs :=
  h.kept (row := none) ⟨hx.os, hx.tape, hx.output, hx.size, fun k hk _ => hx.block k hk (by simp)⟩ (by cases v.ownBlock <;> simp)
/-! ### bytes and strings -/
abbrev bys (l : List (BitVec 8)) : List Value := l.map fun x => u8 x
def strOf (l : List (BitVec 8)) : ByteArray := ⟨(l.map UInt8.ofBitVec).toArray⟩
theorem strOf_inj {l l' : List (BitVec 8)} : strOf l = strOf l' ↔ l = l' := by
  constructor
  · intro h
    have := congrArg (fun x : ByteArray => x.data.toList) h
    simp only [strOf, List.map_map] at this
    have h2 := congrArg (List.map UInt8.toBitVec) this
    simpa [List.map_map, Function.comp_def] using h2
  · rintro rfl; rfl
theorem xConv_str {s d : TypeId} {a : Option Addr} {n c : Nat} {l : List (BitVec 8)} (hs : P.underlying s = some (.slice e)) (he : P.underlying e = some (.int .u8)) (hd : P.underlying d = some .string) (hn : n = l.length) (h : RowAt w a (bys l)) :
    xConv P s d (.slice a n c) w K = K (.string (strOf l)) w := by
  subst hn
  refine xConv_ok9 ?_
  cases a with
  | none =>
    have hl : l = [] := by rcases h with h | ⟨b, o, h, _⟩; simpa using h; cases h
    subst hl
    rw [run_convert_bytes_string w s d e none _ c hs he hd]
    rfl
  | some a =>
    have hr := run_convert_bytes_back (P := P) w s d e a c (l.map UInt8.ofBitVec) hs he hd (fun j hj => by
      have hj' : j < l.length := by simpa using hj
      rcases h with h | ⟨b, o, h, h2⟩
      · simp at h; subst h; simp at hj
      · simp only [Option.some.injEq] at h; subst h
        rw [addr_add, h2 j (u8 l[j]) (by simp [hj'])]
        simp)
    simpa [strOf] using hr

/-! ### tests that are plain from what is known -/
theorem dlt_t {a b : Int} (h : a < b) : decide (a < b) = true := decide_eq_true h
theorem dlt_f {a b : Int} (h : b ≤ a) : decide (a < b) = false := decide_eq_false (by omega)
theorem dle_t {a b : Int} (h : a ≤ b) : decide (a ≤ b) = true := decide_eq_true h
theorem dle_f {a b : Int} (h : b < a) : decide (a ≤ b) = false := decide_eq_false (by omega)
theorem deq_t {a b : Int} (h : a = b) : decide (a = b) = true := decide_eq_true h
theorem deq_f {a b : Int} (h : a < b ∨ b < a) : decide (a = b) = false := decide_eq_false (by omega)
theorem dne_t {a b : Int} (h : a < b ∨ b < a) : decide (¬ a = b) = true := decide_eq_true (by omega)
theorem dne_f {a b : Int} (h : a = b) : decide (¬ a = b) = false := decide_eq_false (by omega)

/-! ### loops -/
theorem least {q : Nat → Prop} (h : ∃ j, q j) : ∃ j, q j ∧ ∀ i, q i → j ≤ i := by
  obtain ⟨j, hj⟩ := h
  induction j using Nat.strongRecOn with
  | _ j ih =>
    by_cases hl : ∃ i, q i ∧ i < j
    · obtain ⟨i, hi, hij⟩ := hl
      exact ih i hij hi
    · exact ⟨j, hj, fun i hi => Nat.le_of_not_lt fun h => hl ⟨i, hi, h⟩⟩
open Classical in
/-- A loop of so many rounds, whatever it bears. -/
theorem xLoop_r {vs : List Value} {w0 : World} {S : List Nat} {B : Env → World → (List Value → World → Prop) → Prop} (n : Nat) (R : Nat → List Value → World → Prop) (hR : R 0 vs w0)
    (step : ∀ k, k < n → ∀ (u : Env) (w : World), R k (S.map u) w → ∀ nxt, (∀ vs' w', R (k + 1) vs' w' → nxt vs' w') → B u w nxt)
    (last : ∀ (u : Env) (w : World), R n (S.map u) w → ∀ nxt, B u w nxt) : xLoop vs w0 S B := by
  let q : List Value → World → Nat → Prop := fun vs w j => j ≤ n ∧ R (n - j) vs w
  let g : List Value → World → Nat := fun vs w => if h : ∃ j, q vs w j then Classical.choose (least h) else 0
  refine xLoop_of (fun vs w => ∃ j, q vs w j) g ⟨n, Nat.le_refl _, by rw [Nat.sub_self]; exact hR⟩ ?_
  intro u w hex
  have hg : g (S.map u) w = Classical.choose (least hex) := dif_pos hex
  obtain ⟨⟨hjn, hRk⟩, hmin⟩ := Classical.choose_spec (least hex)
  generalize Classical.choose (least hex) = j at *
  by_cases hj0 : j = 0
  · subst hj0
    exact last u w hRk _
  · have e : n - j + 1 = n - (j - 1) := by omega
    refine step (n - j) (by omega) u w hRk _ fun vs' w' hR' => ?_
    rw [e] at hR'
    have hex' : ∃ i, q vs' w' i := ⟨j - 1, by omega, hR'⟩
    have hg' : g vs' w' = Classical.choose (least hex') := dif_pos hex'
    have := (Classical.choose_spec (least hex')).2 (j - 1) ⟨by omega, hR'⟩
    exact ⟨hex', by omega⟩
/-- A loop of so many rounds, of which is told what it bears. -/
theorem xLoop_n {vs : List Value} {w0 : World} {S : List Nat} {B : Env → World → (List Value → World → Prop) → Prop} (n : Nat) (f : Nat → List Value) (R : Nat → World → Prop) (h0 : vs = f 0) (hR : R 0 w0)
    (step : ∀ k, k < n → ∀ (u : Env) (w : World), S.map u = f k → R k w → ∀ nxt, (∀ w', R (k + 1) w' → nxt (f (k + 1)) w') → B u w nxt)
    (last : ∀ (u : Env) (w : World), S.map u = f n → R n w → ∀ nxt, B u w nxt) : xLoop vs w0 S B :=
  xLoop_r n (fun k vs w => vs = f k ∧ R k w) ⟨h0, hR⟩ (fun k hk u w h nxt hn => step k hk u w h.1 h.2 nxt fun w' hw' => hn _ _ ⟨rfl, hw'⟩) (fun u w h nxt => last u w h.1 h.2 nxt)
end
end Go.Sh
