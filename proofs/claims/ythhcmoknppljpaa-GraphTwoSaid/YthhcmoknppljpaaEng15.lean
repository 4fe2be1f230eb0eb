/- Maps whose keys are numbers. -/
import Derived.Test.YthhcmoknppljpaaEng14
import Derived.MapKept
set_option linter.unusedVariables false
set_option linter.unusedSimpArgs false
namespace Go.Sh
open Go.MapKept

/-- a map's keys and values, in the order in which they came -/
def MapIs (w : World) (r : Nat) (l : List (Int × Value)) : Prop :=
  ∃ es clock, w.heap[r]? = some (.map es clock) ∧ es.toList.map (fun e => (e.key, e.val)) = l.map (fun p => (Value.int .i64 p.1, p.2))
section
variable {P : Program} {w : World} {K : K1} {t kt et : TypeId} {r : Nat} {l : List (Int × Value)}
theorem MapIs.lt (h : MapIs w r l) : r < w.heap.size := by
  obtain ⟨es, clock, hb, _⟩ := h
  exact (Array.getElem?_eq_some_iff.1 hb).1
theorem MapIs.ext {M : List Nat} {w' : World} (h : MapIs w r l) (hx : Ext M w w') (hr : r ∉ M) : MapIs w' r l := by
  have := h.lt
  obtain ⟨es, clock, hb, hl⟩ := h
  exact ⟨es, clock, by rw [hx.block r this hr]; exact hb, hl⟩
theorem MapIs.ext0 {w' : World} (h : MapIs w r l) (hx : Ext [] w w') : MapIs w' r l := h.ext hx (by simp)
theorem MapIs.new (w : World) : MapIs (w.alloc (.map #[] 0)) w.heap.size [] := ⟨#[], 0, (MapKept.heap_alloc w _).1, rfl⟩
theorem xSlice_hms {k k' : IntKind} {a : Option Addr} {n c z : Nat} {h m : Int} (ht : P.underlying t = some (.slice (P.elem t))) (hs : (P.info? (P.elem t)).map (·.size) = some z) (h0 : 0 ≤ h) (h1 : h ≤ m) (h2 : m ≤ c) :
    xSlice P t (.slice a n c) none (some (.int k h)) (some (.int k' m)) w K = K (.slice a h.toNat m.toNat) w := by
  have hr := run_slice_hm (P := P) (w := w) t a n c ht k k' h m h0 h1 h2
  have hz : sliced a 0 h.toNat m.toNat z = .slice a h.toNat m.toNat := by
    unfold sliced
    by_cases hc : m.toNat = 0
    · rw [if_pos hc]; rfl
    · rw [if_neg hc]; cases a <;> simp [Addr.add]
  have : (Instr.sliceAt t (.slice a n c) none (some (.int k h)) (some (.int k' m))).run P w = .ok (.slice a h.toNat m.toNat) w := by
    rw [run_sliceAt_slice w t _ _ _ _ ht, hr]
    cases hq : P.info? (P.elem t) with
    | none => rw [hq] at hs; cases hs
    | some i => simp [hq] at hs; simp [sizeOf, typeInfo, hq, hs, hz]
  exact propext ⟨fun h => by have := h.out; rw [‹(Instr.sliceAt _ _ _ _ _).run P w = _›] at this; exact this, fun h => ⟨by rw [this]; exact h⟩⟩
end
section
open Go.RowKit Go.ChangeShapes Go.WideShapes Go.ChangeAt
theorem rows_of {H : Type} {enc : TypeId × Value → H} {P : Program} {t e : TypeId} {l : List Leaf} {F : Nat} (ht : P.underlying t = some (.slice e)) (hc : P.cellsOf e = F) (hF : 0 < F) (hl : leaves P 9 e = some l) {W : World} {base fuel : Nat} {cs : List Value} {x : DataW H × List MemPlace}
    (hf : DataW.trod enc P W base (fun _ => true) true fuel t cs = some x) : ∃ a n c, ∃ C : Nat → List Value, cs = [.slice a n c] ∧ n ≤ c ∧ c ≤ maxLen ∧ (a = none → c = 0) ∧
      (∀ i, i < n → (C i).length = l.length ∧ ∀ (j : Nat) (d : Leaf) (x : Value), l[j]? = some d → (C i)[j]? = some x → leafOk W d x) ∧ RowAt W a ((List.range n).flatMap C) := by
  obtain ⟨a, n, c, C, hcs, hn, hm, hnil, hall, hR⟩ := trod_cells ht hc hF hf
  refine ⟨a, n, c, C, hcs, hn, hm, hnil, fun i hi => ?_, hR⟩
  obtain ⟨_, fuel', x, hx⟩ := hall i hi
  exact leaves_ok 9 e fuel' (C i) x l hl hx
/-- a struct of two rows of structs that came in -/
theorem open_two {H : Type} {enc : TypeId × Value → H} {P : Program} {t ea eb : TypeId} {f0 f1 : Field} {la lb : List Leaf} {Fa Fb : Nat} (hs : P.underlying t = some (.struct #[f0, f1])) (o0 : f0.offset = 0) (o1 : f1.offset = 1) (c0 : P.cellsOf f0.type = 1) (c1 : P.cellsOf f1.type = 1) (c2 : P.cellsOf t = 2)
    (hta : P.underlying f0.type = some (.slice ea)) (hca : P.cellsOf ea = Fa) (hFa : 0 < Fa) (hla : leaves P 9 ea = some la) (htb : P.underlying f1.type = some (.slice eb)) (hcb : P.cellsOf eb = Fb) (hFb : 0 < Fb) (hlb : leaves P 9 eb = some lb)
    {W : World} {base : Nat} {v : Value} {d : DataW H} {p : List MemPlace} (hv : Value.okWide P W .any base t v) (h : DataW.Trod enc P W 0 (fun _ => true) true t v d p) :
    ∃ a n c b m k, ∃ C D : Nat → List Value, v = .agg #[.slice a n c, .slice b m k] ∧ (n ≤ c ∧ c ≤ maxLen ∧ (a = none → c = 0)) ∧ (m ≤ k ∧ k ≤ maxLen ∧ (b = none → k = 0)) ∧
      (∀ i, i < n → (C i).length = la.length ∧ ∀ (j : Nat) (d : Leaf) (x : Value), la[j]? = some d → (C i)[j]? = some x → leafOk W d x) ∧ RowAt W a ((List.range n).flatMap C) ∧
      (∀ i, i < m → (D i).length = lb.length ∧ ∀ (j : Nat) (d : Leaf) (x : Value), lb[j]? = some d → (D i)[j]? = some x → leafOk W d x) ∧ RowAt W b ((List.range m).flatMap D) := by
  obtain ⟨cs, rfl, hsz⟩ := okWide_struct hs hv
  obtain ⟨fuel, hf⟩ := h
  have hf' : DataW.trod enc P W 0 (fun _ => true) true fuel t cs.toList = some (d, p) := hf
  obtain ⟨y0, y1, n', _, hlen, hA, hB⟩ := trod_struct2 hs hf'
  rw [o0, c0, List.drop_zero] at hA
  rw [o1, c1] at hB
  obtain ⟨a, n, c, C, hcs, h1, h2, h3, h4, h5⟩ := rows_of hta hca hFa hla hA
  obtain ⟨b, m, k, D, hcs2, g1, g2, g3, g4, g5⟩ := rows_of htb hcb hFb hlb hB
  rw [c2] at hlen
  have hcl : cs.toList = [.slice a n c, .slice b m k] := by
    match hq : cs.toList, hlen with
    | [x, y], _ =>
      rw [hq] at hcs hcs2
      simp at hcs hcs2
      rw [hcs, hcs2]
  have : cs = #[.slice a n c, .slice b m k] := by
    apply Array.ext'
    rw [hcl]
  exact ⟨a, n, c, b, m, k, C, D, by rw [this], ⟨h1, h2, h3⟩, ⟨g1, g2, g3⟩, h4, h5, g4, g5⟩
end
end Go.Sh
