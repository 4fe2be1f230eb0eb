/- Arguments: rows of numbers that came in; what came in reads behind the call as it did before. -/
import Derived.Test.YtdpmidgeipibbaaEng10
import Derived.OpenVars
import Derived.ChangeSlices
import Derived.ProofKit
import Derived.Deep.Matrix
import Derived.ChangeArms
set_option linter.unusedVariables false
set_option linter.unusedSimpArgs false
namespace Go.Sh
open Go.RowKit Go.ChangeShapes Go.WideShapes Go.ChangeAt Go.WideElems
noncomputable section

theorem trodAll_stays {H : Type} {enc : TypeId × Value → H} {P : Program} (hl : laidOutB P = true) {W W' : World} (hb : Below W.heap.size W W') :
    ∀ {ts : List TypeId} {vs : List Value} {ds : List (DataW H)} {ps : List MemPlace}, (ts.all fun t => P.readableRec t && decide (t < P.types.size)) = true → DataW.TrodAll enc P W 0 (fun _ => true) true ts vs ds ps →
      DataW.TrodAll enc P W' 0 (fun b => decide (b < W.heap.size)) true ts vs ds ps
  | [], [], [], _, _, h => h
  | [], [], _ :: _, _, _, h => h.elim
  | [], _ :: _, _, _, _, h => h.elim
  | _ :: _, [], _, _, _, h => h.elim
  | _ :: _, _ :: _, [], _, _, h => h.elim
  | t :: ts, v :: vs, d :: ds, ps, hv, h => by
    have hlt := DataW.TrodAll.lt h
    obtain ⟨p, q, ⟨fuel, h1⟩, h2, e⟩ := h
    simp only [List.all_cons, Bool.and_eq_true] at hv
    have hp : ∀ x ∈ p, x.block < W.heap.size := fun x hx => hlt x (by rw [e]; simp [hx])
    exact ⟨p, q, ⟨fuel, DataW.trod_stays (kids_book hl hv.1.1) (book_sized hv.1.1) (fun h => by cases h) ⟨by simpa using hv.1.2, book_self t⟩ h1 (fun x hx => hb.same (hp x hx)) (fun x hx => by simpa using hp x hx)⟩,
      trodAll_stays hl hb hv.2 h2, e⟩

/-- a row of numbers that came in -/
theorem open_row {H : Type} {enc : TypeId × Value → H} {P : Program} {t e : TypeId} {k : IntKind} (ht : P.underlying t = some (.slice e)) (he : P.underlying e = some (.int k)) (hc : P.cellsOf e = 1) {W : World} {base : Nat} {v : Value} {d : DataW H} {p : List MemPlace}
    (hv : Value.okWide P W .any base t v) (h : DataW.Trod enc P W 0 (fun _ => true) true t v d p) :
    ∃ a n c, ∃ zs : List Int, v = .slice a n c ∧ n = zs.length ∧ n ≤ c ∧ c ≤ maxLen ∧ (a = none → c = 0) ∧ RowAt W a (zs.map (Value.int k)) ∧ ∀ z ∈ zs, (Lit.int k z).wf = true := by
  obtain ⟨a, n, c, rfl⟩ := okWide_slice ht hv
  obtain ⟨fuel, hf⟩ := h
  rcases open_ints ht he hc hf with ⟨hcs, hx⟩ | ⟨a', len, cap, zs, hcs, _, hl, hm, hz, hx, hcell, hwz⟩
  · simp [Value.cells] at hcs
    obtain ⟨rfl, rfl, rfl⟩ := hcs
    exact ⟨_, _, _, [], rfl, rfl, Nat.le_refl _, Nat.zero_le _, fun _ => rfl, RowAt.nil, by simp⟩
  · simp [Value.cells] at hcs
    obtain ⟨rfl, rfl, rfl⟩ := hcs
    simp only [if_true] at hz
    refine ⟨_, _, _, zs.take n, rfl, by simp; omega, hl, hm, (fun h => by cases h), ?_, fun z hz => hwz z (List.mem_of_mem_take hz)⟩
    by_cases hn : zs.take n = []
    · exact .inl (by rw [hn]; rfl)
    · have hpos : 0 < zs.length := by
        cases zs with
        | nil => simp at hn
        | cons x zs => simp
      obtain ⟨b, o, s⟩ := a'
      have hs : s = none := by simpa [Addr.add] using World.cell?_spot (hcell 0 hpos)
      subst hs
      refine .inr ⟨b, o, rfl, fun i x hi => ?_⟩
      rw [List.getElem?_map, List.getElem?_take] at hi
      split at hi
      · rename_i hin
        have hi2 : i < zs.length := by
          cases hg : zs[i]? with
          | none => rw [hg] at hi; cases hi
          | some y => exact (List.getElem?_eq_some_iff.1 hg).1
        have := hcell i hi2
        rw [addr_add] at this
        rw [this]
        simp [hi2] at hi
        simp [List.getD, hi2, hi]
      · cases hi
/-- words that came in -/
abbrev wrds (l : List (BitVec 64)) : List Value := l.map fun x => u64 x
structure WordsArg (w : World) (l : List (BitVec 64)) (a : Option Addr) (n c : Nat) : Prop where
  len : n = l.length
  cap : n ≤ c
  big : c ≤ maxLen
  nil : a = none → c = 0
  row : RowAt w a (wrds l)
theorem wordsArg {w : World} {a : Option Addr} {n c : Nat} {zs : List Int} (h1 : n = zs.length) (h2 : n ≤ c) (h3 : c ≤ maxLen) (h4 : a = none → c = 0) (h5 : RowAt w a (zs.map (Value.int .u64))) (h6 : ∀ z ∈ zs, (Lit.int .u64 z).wf = true) :
    WordsArg w (zs.map (BitVec.ofInt 64)) a n c := by
  refine ⟨by simpa using h1, h2, h3, h4, ?_⟩
  have : wrds (zs.map (BitVec.ofInt 64)) = zs.map (Value.int .u64) := by
    rw [wrds, List.map_map]
    refine List.map_congr_left fun z hz => ?_
    have := wf_u64 (h6 z hz)
    exact (u64_of this.1 this.2).symm
  rw [this]
  exact h5
/-- rows of bytes that came in -/
abbrev Part := Option Addr × Nat × List (BitVec 8)
/-! ### rows of structs that came in -/
end
end Go.Sh
