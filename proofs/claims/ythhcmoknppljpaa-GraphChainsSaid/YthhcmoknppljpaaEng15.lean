/- Maps whose keys are numbers. -/
import Derived.Test.YthhcmoknppljpaaEng14
import Derived.MapKept
set_option linter.unusedVariables false
set_option linter.unusedSimpArgs false
namespace Go.Sh
open Go.MapKept

/-- a map's keys and values, in the order in which they came -/
def MapIs (w : World) (r : Nat) (l : List (Int × Value)) : Prop :=
  ∃ es clock, w.heap[r]? = some (.map es clock) ∧ es.toList.map (fun e => (e.key, e.val)) = l.map (fun p => (Value.int .i64 p.1, p.2))
section
variable {P : Program} {w : World} {K : K1} {t kt et : TypeId} {r : Nat} {l : List (Int × Value)}
theorem MapIs.lt (h : MapIs w r l) : r < w.heap.size := by
  obtain ⟨es, clock, hb, _⟩ := h
  exact (Array.getElem?_eq_some_iff.1 hb).1
theorem MapIs.ext {M : List Nat} {w' : World} (h : MapIs w r l) (hx : Ext M w w') (hr : r ∉ M) : MapIs w' r l := by
  have := h.lt
  obtain ⟨es, clock, hb, hl⟩ := h
  exact ⟨es, clock, by rw [hx.block r this hr]; exact hb, hl⟩
theorem MapIs.ext0 {w' : World} (h : MapIs w r l) (hx : Ext [] w w') : MapIs w' r l := h.ext hx (by simp)
theorem MapIs.new (w : World) : MapIs (w.alloc (.map #[] 0)) w.heap.size [] := ⟨#[], 0, (MapKept.heap_alloc w _).1, rfl⟩
theorem xSlice_hms {k k' : IntKind} {a : Option Addr} {n c z : Nat} {h m : Int} (ht : P.underlying t = some (.slice (P.elem t))) (hs : (P.info? (P.elem t)).map (·.size) = some z) (h0 : 0 ≤ h) (h1 : h ≤ m) (h2 : m ≤ c) :
    xSlice P t (.slice a n c) none (some (.int k h)) (some (.int k' m)) w K = K (.slice a h.toNat m.toNat) w := by
  have hr := run_slice_hm (P := P) (w := w) t a n c ht k k' h m h0 h1 h2
  have hz : sliced a 0 h.toNat m.toNat z = .slice a h.toNat m.toNat := by
    unfold sliced
    by_cases hc : m.toNat = 0
    · rw [if_pos hc]; rfl
    · rw [if_neg hc]; cases a <;> simp [Addr.add]
  have : (Instr.sliceAt t (.slice a n c) none (some (.int k h)) (some (.int k' m))).run P w = .ok (.slice a h.toNat m.toNat) w := by
    rw [run_sliceAt_slice w t _ _ _ _ ht, hr]
    cases hq : P.info? (P.elem t) with
    | none => rw [hq] at hs; cases hs
    | some i => simp [hq] at hs; simp [sizeOf, typeInfo, hq, hs, hz]
  exact propext ⟨fun h => by have := h.out; rw [‹(Instr.sliceAt _ _ _ _ _).run P w = _›] at this; exact this, fun h => ⟨by rw [this]; exact h⟩⟩
end
section
open Go.RowKit Go.ChangeShapes Go.WideShapes Go.ChangeAt
end
end Go.Sh
