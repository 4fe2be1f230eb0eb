/- Maps whose keys are numbers. -/
import Derived.Test.YtdpmidgeipibbaaEng14
import Derived.MapKept
set_option linter.unusedVariables false
set_option linter.unusedSimpArgs false
namespace Go.Sh
open Go.MapKept

/-- a map's keys and values, in the order in which they came -/
def MapIs (w : World) (r : Nat) (l : List (Int × Value)) : Prop :=
  ∃ es clock, w.heap[r]? = some (.map es clock) ∧ es.toList.map (fun e => (e.key, e.val)) = l.map (fun p => (Value.int .i64 p.1, p.2))
def mget : List (Int × Value) → Int → Option Value
  | [], _ => none
  | p :: l, i => if p.1 = i then some p.2 else mget l i
theorem mget_none {l : List (Int × Value)} {i : Int} (h : ∀ p ∈ l, p.1 ≠ i) : mget l i = none := by
  induction l with
  | nil => rfl
  | cons p l ih => unfold mget; rw [if_neg (h p (by simp))]; exact ih fun q hq => h q (by simp [hq])
section
variable {P : Program} {w : World} {K : K1} {t kt et : TypeId} {r : Nat} {l : List (Int × Value)}
theorem MapIs.lt (h : MapIs w r l) : r < w.heap.size := by
  obtain ⟨es, clock, hb, _⟩ := h
  exact (Array.getElem?_eq_some_iff.1 hb).1
theorem MapIs.ext {M : List Nat} {w' : World} (h : MapIs w r l) (hx : Ext M w w') (hr : r ∉ M) : MapIs w' r l := by
  have := h.lt
  obtain ⟨es, clock, hb, hl⟩ := h
  exact ⟨es, clock, by rw [hx.block r this hr]; exact hb, hl⟩
theorem MapIs.ext0 {w' : World} (h : MapIs w r l) (hx : Ext [] w w') : MapIs w' r l := h.ext hx (by simp)
theorem MapIs.new (w : World) : MapIs (w.alloc (.map #[] 0)) w.heap.size [] := ⟨#[], 0, (MapKept.heap_alloc w _).1, rfl⟩
theorem xMakeMap_r : xMakeMap P t none w K = K (.map (some w.heap.size)) (w.alloc (.map #[] 0)) := by
  have h : (Instr.makeMap t none).run P w = .ok (.map (some w.heap.size)) (w.alloc (.map #[] 0)) := by simp [Instr.makeMap, Result.andThen]
  exact propext ⟨fun hx => by rw [← okV_ok (K := K) h]; exact hx.out, fun hk => ⟨by rw [okV_ok h]; exact hk⟩⟩
theorem find_int : ∀ (es : List MapEntry) (l : List (Int × Value)) (i : Int) (k : Nat), es.map (fun e => (e.key, e.val)) = l.map (fun p => (Value.int .i64 p.1, p.2)) →
    (mget l i = none ∧ Instr.findNow (.int .i64) (.int .i64 i) es k = some none) ∨ (∃ v j, mget l i = some v ∧ Instr.findNow (.int .i64) (.int .i64 i) es k = some (some (j, v)))
  | [], [], i, k, _ => .inl ⟨rfl, rfl⟩
  | [], _ :: _, _, _, h => by simp at h
  | _ :: _, [], _, _, h => by simp at h
  | e :: es, p :: l, i, k, h => by
    simp only [List.map_cons, List.cons.injEq, Prod.mk.injEq] at h
    obtain ⟨⟨h1, h2⟩, h3⟩ := h
    by_cases hp : p.1 = i
    · refine .inr ⟨p.2, k, by unfold mget; rw [if_pos hp], ?_⟩
      unfold Instr.findNow
      simp [Instr.sameNow, h1, h2, hp]
    · have hne : (i == p.1) = false := by simp; exact fun h => hp h.symm
      rcases find_int es l i (k + 1) h3 with ⟨h4, h5⟩ | ⟨v, j, h4, h5⟩
      · refine .inl ⟨by unfold mget; rw [if_neg hp]; exact h4, ?_⟩
        unfold Instr.findNow
        simp [Instr.sameNow, h1, hne, h5]
      · refine .inr ⟨v, j, by unfold mget; rw [if_neg hp]; exact h4, ?_⟩
        unfold Instr.findNow
        simp [Instr.sameNow, h1, hne, h5]
theorem run_lookup_int {z : Value} (c : Bool) (ht : P.underlying t = some (.map kt et)) (hk : P.underlying kt = some (.int .i64)) (hz : (zeroValue et).run P w = .ok z w) (h : MapIs w r l) (i : Int) :
    (Instr.lookup t (.map (some r)) (.int .i64 i) c).run P w = .ok (if c then .tuple #[(mget l i).getD z, .bool (mget l i).isSome] else (mget l i).getD z) w := by
  obtain ⟨es, clock, hb, hl⟩ := h
  have hc : (Instr.checkKey es.isEmpty 10000 kt (.int .i64 i)).run P w = .ok () w := MapKept.run_checkKey (n := 9999) hk (by simp [IsKey]) _
  rcases find_int es.toList l i 0 hl with ⟨h1, h2⟩ | ⟨v, j, h1, h2⟩
  · simp [Instr.lookup, run_underlying ht, MapKept.run_getObj_map hb, hc, MapKept.run_findKey hk h2, hz, Result.andThen, h1]
  · simp [Instr.lookup, run_underlying ht, MapKept.run_getObj_map hb, hc, MapKept.run_findKey hk h2, hz, Result.andThen, h1]
theorem xLookup_ok {z : Value} (ht : P.underlying t = some (.map kt et)) (hk : P.underlying kt = some (.int .i64)) (hz : (zeroValue et).run P w = .ok z w) (h : MapIs w r l) (i : Int) :
    xLookup P t (.map (some r)) (.int .i64 i) true w K = K (.tuple #[(mget l i).getD z, .bool (mget l i).isSome]) w := by
  have h := run_lookup_int true ht hk hz h i
  rw [if_pos rfl] at h
  exact propext ⟨fun hx => by rw [← okV_ok (K := K) h]; exact hx.out, fun hk => ⟨by rw [okV_ok h]; exact hk⟩⟩
theorem xLookup_v {z : Value} (ht : P.underlying t = some (.map kt et)) (hk : P.underlying kt = some (.int .i64)) (hz : (zeroValue et).run P w = .ok z w) (h : MapIs w r l) (i : Int) :
    xLookup P t (.map (some r)) (.int .i64 i) false w K = K ((mget l i).getD z) w := by
  have h := run_lookup_int false ht hk hz h i
  rw [if_neg (by simp)] at h
  exact propext ⟨fun hx => by rw [← okV_ok (K := K) h]; exact hx.out, fun hk => ⟨by rw [okV_ok h]; exact hk⟩⟩
theorem xMapUpdate_new {v : Value} {i : Int} (ht : P.underlying t = some (.map kt et)) (hk : P.underlying kt = some (.int .i64)) (h : MapIs w r l) (hn : ∀ p ∈ l, p.1 ≠ i)
    (hK : ∀ w', MapIs w' r (l ++ [(i, v)]) → Ext [r] w w' → K undef w') : xMapUpdate P t (.map (some r)) (.int .i64 i) v w K := by
  have hlt := h.lt
  obtain ⟨es, clock, hb, hl⟩ := h
  have hc : (Instr.checkKey false 10000 kt (.int .i64 i)).run P w = .ok () w := MapKept.run_checkKey (n := 9999) hk (by simp [IsKey]) _
  have h2 : Instr.findNow (.int .i64) (.int .i64 i) es.toList 0 = some none := by
    rcases find_int es.toList l i 0 hl with ⟨h1, h2⟩ | ⟨v, j, h1, h2⟩
    · exact h2
    · rw [mget_none hn] at h1; cases h1
  have hr : (Instr.mapUpdate t (.map (some r)) (.int .i64 i) v).run P w = .ok () { w with heap := w.heap.setIfInBounds r (.map (es.push { key := .int .i64 i, val := v, born := clock }) (clock + 1)) } := by
    simp [Instr.mapUpdate, run_underlying ht, MapKept.run_getObj_map hb, hc, MapKept.run_findKey hk h2, MapKept.run_setObj_map _ hb, Result.andThen]
  refine ⟨?_⟩
  rw [hr]
  obtain ⟨g1, g2⟩ := MapKept.heap_set (o' := .map (es.push { key := .int .i64 i, val := v, born := clock }) (clock + 1)) hb
  refine hK _ ⟨_, _, g1, ?_⟩ ⟨rfl, rfl, rfl, by simp, fun k hk hm => g2 k (by simpa using hm)⟩
  simp [hl]
theorem xSlice_hms {k k' : IntKind} {a : Option Addr} {n c z : Nat} {h m : Int} (ht : P.underlying t = some (.slice (P.elem t))) (hs : (P.info? (P.elem t)).map (·.size) = some z) (h0 : 0 ≤ h) (h1 : h ≤ m) (h2 : m ≤ c) :
    xSlice P t (.slice a n c) none (some (.int k h)) (some (.int k' m)) w K = K (.slice a h.toNat m.toNat) w := by
  have hr := run_slice_hm (P := P) (w := w) t a n c ht k k' h m h0 h1 h2
  have hz : sliced a 0 h.toNat m.toNat z = .slice a h.toNat m.toNat := by
    unfold sliced
    by_cases hc : m.toNat = 0
    · rw [if_pos hc]; rfl
    · rw [if_neg hc]; cases a <;> simp [Addr.add]
  have : (Instr.sliceAt t (.slice a n c) none (some (.int k h)) (some (.int k' m))).run P w = .ok (.slice a h.toNat m.toNat) w := by
    rw [run_sliceAt_slice w t _ _ _ _ ht, hr]
    cases hq : P.info? (P.elem t) with
    | none => rw [hq] at hs; cases hs
    | some i => simp [hq] at hs; simp [sizeOf, typeInfo, hq, hs, hz]
  exact propext ⟨fun h => by have := h.out; rw [‹(Instr.sliceAt _ _ _ _ _).run P w = _›] at this; exact this, fun h => ⟨by rw [this]; exact h⟩⟩
end
section
open Go.RowKit Go.ChangeShapes Go.WideShapes Go.ChangeAt
end
end Go.Sh
