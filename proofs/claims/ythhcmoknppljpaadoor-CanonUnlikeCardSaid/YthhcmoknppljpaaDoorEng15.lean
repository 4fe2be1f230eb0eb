/- Maps whose keys are numbers. -/
import Derived.Test.YthhcmoknppljpaaDoorEng14
import Derived.MapKept
set_option linter.unusedVariables false
set_option linter.unusedSimpArgs false
namespace Go.Sh
open Go.MapKept

/-- a map's keys and values, in the order in which they came -/
def MapIs (w : World) (r : Nat) (l : List (Int × Value)) : Prop :=
  ∃ es clock, w.heap[r]? = some (.map es clock) ∧ es.toList.map (fun e => (e.key, e.val)) = l.map (fun p => (Value.int .i64 p.1, p.2))
def mget : List (Int × Value) → Int → Option Value
  | [], _ => none
  | p :: l, i => if p.1 = i then some p.2 else mget l i
theorem mget_none {l : List (Int × Value)} {i : Int} (h : ∀ p ∈ l, p.1 ≠ i) : mget l i = none := by
  induction l with
  | nil => rfl
  | cons p l ih => unfold mget; rw [if_neg (h p (by simp))]; exact ih fun q hq => h q (by simp [hq])
theorem mget_some {l : List (Int × Value)} {i : Int} {v : Value} (h : mget l i = some v) : ∃ p ∈ l, p.1 = i ∧ p.2 = v := by
  induction l with
  | nil => cases h
  | cons p l ih =>
    unfold mget at h
    split at h
    · cases h; exact ⟨p, by simp, by assumption, rfl⟩
    · obtain ⟨q, hq, h1⟩ := ih h; exact ⟨q, by simp [hq], h1⟩
theorem mget_in {l : List (Int × Value)} {i : Int} (h : ∃ p ∈ l, p.1 = i) : ∃ v, mget l i = some v := by
  induction l with
  | nil => obtain ⟨p, hp, _⟩ := h; cases hp
  | cons p l ih =>
    unfold mget
    by_cases e : p.1 = i
    · exact ⟨p.2, if_pos e⟩
    · rw [if_neg e]
      obtain ⟨q, hq, h1⟩ := h
      rcases List.mem_cons.1 hq with rfl | hq
      · exact absurd h1 e
      · exact ih ⟨q, hq, h1⟩
section
variable {P : Program} {w : World} {K : K1} {t kt et : TypeId} {r : Nat} {l : List (Int × Value)}
theorem MapIs.lt (h : MapIs w r l) : r < w.heap.size := by
  obtain ⟨es, clock, hb, _⟩ := h
  exact (Array.getElem?_eq_some_iff.1 hb).1
theorem MapIs.ext {M : List Nat} {w' : World} (h : MapIs w r l) (hx : Ext M w w') (hr : r ∉ M) : MapIs w' r l := by
  have := h.lt
  obtain ⟨es, clock, hb, hl⟩ := h
  exact ⟨es, clock, by rw [hx.block r this hr]; exact hb, hl⟩
theorem MapIs.ext0 {w' : World} (h : MapIs w r l) (hx : Ext [] w w') : MapIs w' r l := h.ext hx (by simp)
theorem MapIs.new (w : World) : MapIs (w.alloc (.map #[] 0)) w.heap.size [] := ⟨#[], 0, (MapKept.heap_alloc w _).1, rfl⟩
theorem xMakeMap_r : xMakeMap P t none w K = K (.map (some w.heap.size)) (w.alloc (.map #[] 0)) := by
  have h : (Instr.makeMap t none).run P w = .ok (.map (some w.heap.size)) (w.alloc (.map #[] 0)) := by simp [Instr.makeMap, Result.andThen]
  exact propext ⟨fun hx => by rw [← okV_ok (K := K) h]; exact hx.out, fun hk => ⟨by rw [okV_ok h]; exact hk⟩⟩
theorem find_int : ∀ (es : List MapEntry) (l : List (Int × Value)) (i : Int) (k : Nat), es.map (fun e => (e.key, e.val)) = l.map (fun p => (Value.int .i64 p.1, p.2)) →
    (mget l i = none ∧ Instr.findNow (.int .i64) (.int .i64 i) es k = some none) ∨ (∃ v j, mget l i = some v ∧ Instr.findNow (.int .i64) (.int .i64 i) es k = some (some (j, v)))
  | [], [], i, k, _ => .inl ⟨rfl, rfl⟩
  | [], _ :: _, _, _, h => by simp at h
  | _ :: _, [], _, _, h => by simp at h
  | e :: es, p :: l, i, k, h => by
    simp only [List.map_cons, List.cons.injEq, Prod.mk.injEq] at h
    obtain ⟨⟨h1, h2⟩, h3⟩ := h
    by_cases hp : p.1 = i
    · refine .inr ⟨p.2, k, by unfold mget; rw [if_pos hp], ?_⟩
      unfold Instr.findNow
      simp [Instr.sameNow, h1, h2, hp]
    · have hne : (i == p.1) = false := by simp; exact fun h => hp h.symm
      rcases find_int es l i (k + 1) h3 with ⟨h4, h5⟩ | ⟨v, j, h4, h5⟩
      · refine .inl ⟨by unfold mget; rw [if_neg hp]; exact h4, ?_⟩
        unfold Instr.findNow
        simp [Instr.sameNow, h1, hne, h5]
      · refine .inr ⟨v, j, by unfold mget; rw [if_neg hp]; exact h4, ?_⟩
        unfold Instr.findNow
        simp [Instr.sameNow, h1, hne, h5]
theorem run_lookup_int {z : Value} (c : Bool) (ht : P.underlying t = some (.map kt et)) (hk : P.underlying kt = some (.int .i64)) (hz : (zeroValue et).run P w = .ok z w) (h : MapIs w r l) (i : Int) :
    (Instr.lookup t (.map (some r)) (.int .i64 i) c).run P w = .ok (if c then .tuple #[(mget l i).getD z, .bool (mget l i).isSome] else (mget l i).getD z) w := by
  obtain ⟨es, clock, hb, hl⟩ := h
  have hc : (Instr.checkKey es.isEmpty 10000 kt (.int .i64 i)).run P w = .ok () w := MapKept.run_checkKey (n := 9999) hk (by simp [IsKey]) _
  rcases find_int es.toList l i 0 hl with ⟨h1, h2⟩ | ⟨v, j, h1, h2⟩
  · simp [Instr.lookup, run_underlying ht, MapKept.run_getObj_map hb, hc, MapKept.run_findKey hk h2, hz, Result.andThen, h1]
  · simp [Instr.lookup, run_underlying ht, MapKept.run_getObj_map hb, hc, MapKept.run_findKey hk h2, hz, Result.andThen, h1]
theorem xLookup_v {z : Value} (ht : P.underlying t = some (.map kt et)) (hk : P.underlying kt = some (.int .i64)) (hz : (zeroValue et).run P w = .ok z w) (h : MapIs w r l) (i : Int) :
    xLookup P t (.map (some r)) (.int .i64 i) false w K = K ((mget l i).getD z) w := by
  have h := run_lookup_int false ht hk hz h i
  rw [if_neg (by simp)] at h
  exact propext ⟨fun hx => by rw [← okV_ok (K := K) h]; exact hx.out, fun hk => ⟨by rw [okV_ok h]; exact hk⟩⟩
theorem xMapUpdate_new {v : Value} {i : Int} (ht : P.underlying t = some (.map kt et)) (hk : P.underlying kt = some (.int .i64)) (h : MapIs w r l) (hn : ∀ p ∈ l, p.1 ≠ i)
    (hK : ∀ w', MapIs w' r (l ++ [(i, v)]) → Ext [r] w w' → K undef w') : xMapUpdate P t (.map (some r)) (.int .i64 i) v w K := by
  have hlt := h.lt
  obtain ⟨es, clock, hb, hl⟩ := h
  have hc : (Instr.checkKey false 10000 kt (.int .i64 i)).run P w = .ok () w := MapKept.run_checkKey (n := 9999) hk (by simp [IsKey]) _
  have h2 : Instr.findNow (.int .i64) (.int .i64 i) es.toList 0 = some none := by
    rcases find_int es.toList l i 0 hl with ⟨h1, h2⟩ | ⟨v, j, h1, h2⟩
    · exact h2
    · rw [mget_none hn] at h1; cases h1
  have hr : (Instr.mapUpdate t (.map (some r)) (.int .i64 i) v).run P w = .ok () { w with heap := w.heap.setIfInBounds r (.map (es.push { key := .int .i64 i, val := v, born := clock }) (clock + 1)) } := by
    simp [Instr.mapUpdate, run_underlying ht, MapKept.run_getObj_map hb, hc, MapKept.run_findKey hk h2, MapKept.run_setObj_map _ hb, Result.andThen]
  refine ⟨?_⟩
  rw [hr]
  obtain ⟨g1, g2⟩ := MapKept.heap_set (o' := .map (es.push { key := .int .i64 i, val := v, born := clock }) (clock + 1)) hb
  refine hK _ ⟨_, _, g1, ?_⟩ ⟨rfl, rfl, rfl, by simp, fun k hk hm => g2 k (by simpa using hm)⟩
  simp [hl]
theorem xSlice_hms {k k' : IntKind} {a : Option Addr} {n c z : Nat} {h m : Int} (ht : P.underlying t = some (.slice (P.elem t))) (hs : (P.info? (P.elem t)).map (·.size) = some z) (h0 : 0 ≤ h) (h1 : h ≤ m) (h2 : m ≤ c) :
    xSlice P t (.slice a n c) none (some (.int k h)) (some (.int k' m)) w K = K (.slice a h.toNat m.toNat) w := by
  have hr := run_slice_hm (P := P) (w := w) t a n c ht k k' h m h0 h1 h2
  have hz : sliced a 0 h.toNat m.toNat z = .slice a h.toNat m.toNat := by
    unfold sliced
    by_cases hc : m.toNat = 0
    · rw [if_pos hc]; rfl
    · rw [if_neg hc]; cases a <;> simp [Addr.add]
  have : (Instr.sliceAt t (.slice a n c) none (some (.int k h)) (some (.int k' m))).run P w = .ok (.slice a h.toNat m.toNat) w := by
    rw [run_sliceAt_slice w t _ _ _ _ ht, hr]
    cases hq : P.info? (P.elem t) with
    | none => rw [hq] at hs; cases hs
    | some i => simp [hq] at hs; simp [sizeOf, typeInfo, hq, hs, hz]
  exact propext ⟨fun h => by have := h.out; rw [‹(Instr.sliceAt _ _ _ _ _).run P w = _›] at this; exact this, fun h => ⟨by rw [this]; exact h⟩⟩
end
section
open Go.RowKit Go.ChangeShapes Go.WideShapes Go.ChangeAt
theorem rows_of {H : Type} {enc : TypeId × Value → H} {P : Program} {t e : TypeId} {l : List Leaf} {F : Nat} (ht : P.underlying t = some (.slice e)) (hc : P.cellsOf e = F) (hF : 0 < F) (hl : leaves P 9 e = some l) {W : World} {base fuel : Nat} {cs : List Value} {x : DataW H × List MemPlace}
    (hf : DataW.trod enc P W base (fun _ => true) true fuel t cs = some x) : ∃ a n c, ∃ C : Nat → List Value, cs = [.slice a n c] ∧ n ≤ c ∧ c ≤ maxLen ∧ (a = none → c = 0) ∧
      (∀ i, i < n → (C i).length = l.length ∧ ∀ (j : Nat) (d : Leaf) (x : Value), l[j]? = some d → (C i)[j]? = some x → leafOk W d x) ∧ RowAt W a ((List.range n).flatMap C) := by
  obtain ⟨a, n, c, C, hcs, hn, hm, hnil, hall, hR⟩ := trod_cells ht hc hF hf
  refine ⟨a, n, c, C, hcs, hn, hm, hnil, fun i hi => ?_, hR⟩
  obtain ⟨_, fuel', x, hx⟩ := hall i hi
  exact leaves_ok 9 e fuel' (C i) x l hl hx
/-- a struct of two rows of structs that came in -/
theorem open_two {H : Type} {enc : TypeId × Value → H} {P : Program} {t ea eb : TypeId} {f0 f1 : Field} {la lb : List Leaf} {Fa Fb : Nat} (hs : P.underlying t = some (.struct #[f0, f1])) (o0 : f0.offset = 0) (o1 : f1.offset = 1) (c0 : P.cellsOf f0.type = 1) (c1 : P.cellsOf f1.type = 1) (c2 : P.cellsOf t = 2)
    (hta : P.underlying f0.type = some (.slice ea)) (hca : P.cellsOf ea = Fa) (hFa : 0 < Fa) (hla : leaves P 9 ea = some la) (htb : P.underlying f1.type = some (.slice eb)) (hcb : P.cellsOf eb = Fb) (hFb : 0 < Fb) (hlb : leaves P 9 eb = some lb)
    {W : World} {base : Nat} {v : Value} {d : DataW H} {p : List MemPlace} (hv : Value.okWide P W .any base t v) (h : DataW.Trod enc P W 0 (fun _ => true) true t v d p) :
    ∃ a n c b m k, ∃ C D : Nat → List Value, v = .agg #[.slice a n c, .slice b m k] ∧ (n ≤ c ∧ c ≤ maxLen ∧ (a = none → c = 0)) ∧ (m ≤ k ∧ k ≤ maxLen ∧ (b = none → k = 0)) ∧
      (∀ i, i < n → (C i).length = la.length ∧ ∀ (j : Nat) (d : Leaf) (x : Value), la[j]? = some d → (C i)[j]? = some x → leafOk W d x) ∧ RowAt W a ((List.range n).flatMap C) ∧
      (∀ i, i < m → (D i).length = lb.length ∧ ∀ (j : Nat) (d : Leaf) (x : Value), lb[j]? = some d → (D i)[j]? = some x → leafOk W d x) ∧ RowAt W b ((List.range m).flatMap D) := by
  obtain ⟨cs, rfl, hsz⟩ := okWide_struct hs hv
  obtain ⟨fuel, hf⟩ := h
  have hf' : DataW.trod enc P W 0 (fun _ => true) true fuel t cs.toList = some (d, p) := hf
  obtain ⟨y0, y1, n', _, hlen, hA, hB⟩ := trod_struct2 hs hf'
  rw [o0, c0, List.drop_zero] at hA
  rw [o1, c1] at hB
  obtain ⟨a, n, c, C, hcs, h1, h2, h3, h4, h5⟩ := rows_of hta hca hFa hla hA
  obtain ⟨b, m, k, D, hcs2, g1, g2, g3, g4, g5⟩ := rows_of htb hcb hFb hlb hB
  rw [c2] at hlen
  have hcl : cs.toList = [.slice a n c, .slice b m k] := by
    match hq : cs.toList, hlen with
    | [x, y], _ =>
      rw [hq] at hcs hcs2
      simp at hcs hcs2
      rw [hcs, hcs2]
  have : cs = #[.slice a n c, .slice b m k] := by
    apply Array.ext'
    rw [hcl]
  exact ⟨a, n, c, b, m, k, C, D, by rw [this], ⟨h1, h2, h3⟩, ⟨g1, g2, g3⟩, h4, h5, g4, g5⟩
end
end Go.Sh
