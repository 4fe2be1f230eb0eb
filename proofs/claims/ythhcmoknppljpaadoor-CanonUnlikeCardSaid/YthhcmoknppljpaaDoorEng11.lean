/- Arguments: rows of numbers that came in; what came in reads behind the call as it did before. -/
import Derived.Test.YthhcmoknppljpaaDoorEng10
import Derived.OpenVars
import Derived.ChangeSlices
import Derived.ProofKit
import Derived.Deep.Matrix
import Derived.ChangeArms
set_option linter.unusedVariables false
set_option linter.unusedSimpArgs false
namespace Go.Sh
open Go.RowKit Go.ChangeShapes Go.WideShapes Go.ChangeAt Go.WideElems
noncomputable section

theorem trodAll_stays {H : Type} {enc : TypeId × Value → H} {P : Program} (hl : laidOutB P = true) {W W' : World} (hb : Below W.heap.size W W') :
    ∀ {ts : List TypeId} {vs : List Value} {ds : List (DataW H)} {ps : List MemPlace}, (ts.all fun t => P.readableRec t && decide (t < P.types.size)) = true → DataW.TrodAll enc P W 0 (fun _ => true) true ts vs ds ps →
      DataW.TrodAll enc P W' 0 (fun b => decide (b < W.heap.size)) true ts vs ds ps
  | [], [], [], _, _, h => h
  | [], [], _ :: _, _, _, h => h.elim
  | [], _ :: _, _, _, _, h => h.elim
  | _ :: _, [], _, _, _, h => h.elim
  | _ :: _, _ :: _, [], _, _, h => h.elim
  | t :: ts, v :: vs, d :: ds, ps, hv, h => by
    have hlt := DataW.TrodAll.lt h
    obtain ⟨p, q, ⟨fuel, h1⟩, h2, e⟩ := h
    simp only [List.all_cons, Bool.and_eq_true] at hv
    have hp : ∀ x ∈ p, x.block < W.heap.size := fun x hx => hlt x (by rw [e]; simp [hx])
    exact ⟨p, q, ⟨fuel, DataW.trod_stays (kids_book hl hv.1.1) (book_sized hv.1.1) (fun h => by cases h) ⟨by simpa using hv.1.2, book_self t⟩ h1 (fun x hx => hb.same (hp x hx)) (fun x hx => by simpa using hp x hx)⟩,
      trodAll_stays hl hb hv.2 h2, e⟩

/-- bytes that came in -/
structure BytesArg (w : World) (l : List (BitVec 8)) (a : Option Addr) (n c : Nat) : Prop where
  len : n = l.length
  cap : n ≤ c
  big : c ≤ maxLen
  nil : a = none → c = 0
  row : RowAt w a (bys l)
theorem bytesArg {w : World} {a : Option Addr} {n c : Nat} {zs : List Int} (h1 : n = zs.length) (h2 : n ≤ c) (h3 : c ≤ maxLen) (h4 : a = none → c = 0) (h5 : RowAt w a (zs.map (Value.int .u8))) (h6 : ∀ z ∈ zs, (Lit.int .u8 z).wf = true) :
    BytesArg w (zs.map (BitVec.ofInt 8)) a n c := by
  refine ⟨by simpa using h1, h2, h3, h4, ?_⟩
  have : bys (zs.map (BitVec.ofInt 8)) = zs.map (Value.int .u8) := by
    rw [bys, List.map_map]
    refine List.map_congr_left fun z hz => ?_
    have := wf_u8 (h6 z hz)
    exact (u8_of this.1 this.2).symm
  rw [this]
  exact h5
/-- words that came in -/
abbrev wrds (l : List (BitVec 64)) : List Value := l.map fun x => u64 x
/-- rows of bytes that came in -/
abbrev Part := Option Addr × Nat × List (BitVec 8)
theorem row_of_cells {W : World} {A : Option Addr} {k : IntKind} {zs : List Int} {L C : Nat} (hz : zs.length = C) (hl : L ≤ C) (h : ∀ a', A = some a' → ∀ c, c < C → W.cell? (a'.add c) = some (.int k (zs.getD c 0))) (hn : A = none → C = 0) : RowAt W A ((zs.take L).map (Value.int k)) := by
  by_cases h0 : zs.take L = []
  · exact .inl (by rw [h0]; rfl)
  · have hpos : 0 < C := by
      cases zs with
      | nil => simp at h0
      | cons x zs => simp at hz; omega
    cases A with
    | none => have := hn rfl; omega
    | some a' =>
      obtain ⟨b, o, s⟩ := a'
      have hs : s = none := by simpa [Addr.add] using World.cell?_spot (h _ rfl 0 hpos)
      subst hs
      refine .inr ⟨b, o, rfl, fun i x hi => ?_⟩
      rw [List.getElem?_map, List.getElem?_take] at hi
      split at hi
      · rename_i hin
        have := h _ rfl i (by omega)
        rw [addr_add] at this
        rw [this]
        simp [show i < zs.length by omega] at hi
        simp [List.getD, show i < zs.length by omega, hi]
      · cases hi
/-! ### rows of structs that came in -/
theorem trod_row {H : Type} {enc : TypeId × Value → H} {P : Program} {t e : TypeId} {k : IntKind} (ht : P.underlying t = some (.slice e)) (he : P.underlying e = some (.int k)) (hc : P.cellsOf e = 1) {W : World} {base fuel : Nat} {cs : List Value} {x : DataW H × List MemPlace}
    (hf : DataW.trod enc P W base (fun _ => true) true fuel t cs = some x) :
    ∃ a n c, ∃ zs : List Int, cs = [.slice a n c] ∧ n = zs.length ∧ n ≤ c ∧ c ≤ maxLen ∧ (a = none → c = 0) ∧ RowAt W a (zs.map (Value.int k)) ∧ ∀ z ∈ zs, (Lit.int k z).wf = true := by
  rcases open_ints ht he hc hf with ⟨hcs, hx⟩ | ⟨a', len, cap, zs, hcs, _, hl, hm, hz, hx, hcell, hwz⟩
  · exact ⟨_, _, _, [], hcs, rfl, Nat.le_refl _, Nat.zero_le _, fun _ => rfl, RowAt.nil, by simp⟩
  · simp only [if_true] at hz
    refine ⟨_, _, _, zs.take len, hcs, by simp; omega, hl, hm, (fun h => by cases h), row_of_cells (C := zs.length) rfl (by omega) (fun a' ha c hc => ?_) (fun h => by cases h), fun z hz => hwz z (List.mem_of_mem_take hz)⟩
    cases ha
    exact hcell c hc
theorem flat_get {α : Type} {C : Nat → List α} {F : Nat} (hF : 0 < F) : ∀ n, (∀ i, i < n → (C i).length = F) → (((List.range n).flatMap C).length = n * F) ∧ ∀ m x, ((List.range n).flatMap C)[m]? = some x → m / F < n ∧ (C (m / F))[m % F]? = some x
  | 0, _ => by simp
  | n + 1, h => by
    obtain ⟨h1, h2⟩ := flat_get hF n fun i hi => h i (by omega)
    rw [List.range_succ, List.flatMap_append, List.length_append, h1]
    have e1 : [n].flatMap C = C n := by simp
    rw [e1, h n (by omega)]
    refine ⟨by rw [Nat.succ_mul], fun m x hx => ?_⟩
    by_cases hm : m < n * F
    · rw [List.getElem?_append_left (by omega)] at hx
      have := h2 m x hx
      exact ⟨by omega, this.2⟩
    · rw [List.getElem?_append_right (by omega), h1] at hx
      have hlt : m - n * F < F := by
        have := (List.getElem?_eq_some_iff.1 hx).1
        rw [h n (by omega)] at this
        exact this
      have e2 : m = (m - n * F) + F * n := by rw [Nat.mul_comm F n]; omega
      have e3 : m / F = n := by
        rw [e2, Nat.add_mul_div_left _ _ hF, Nat.div_eq_of_lt hlt, Nat.zero_add]
      have e4 : m % F = m - n * F := by
        rw [e2, Nat.add_mul_mod_self_left, Nat.mod_eq_of_lt hlt]
        omega
      rw [e3, e4]
      exact ⟨by omega, hx⟩
theorem trod_cells {H : Type} {enc : TypeId × Value → H} {P : Program} {t e : TypeId} {F : Nat} (ht : P.underlying t = some (.slice e)) (hc : P.cellsOf e = F) (hF : 0 < F) {W : World} {base fuel : Nat} {cs : List Value} {x : DataW H × List MemPlace}
    (hf : DataW.trod enc P W base (fun _ => true) true fuel t cs = some x) :
    ∃ a n c, ∃ C : Nat → List Value, cs = [.slice a n c] ∧ n ≤ c ∧ c ≤ maxLen ∧ (a = none → c = 0) ∧ (∀ i, i < n → (C i).length = F ∧ ∃ fuel x, DataW.trod enc P W base (fun _ => true) true fuel e (C i) = some x) ∧ RowAt W a ((List.range n).flatMap C) := by
  rcases Go.Deep.open_slice ht hf with ⟨hcs, hx⟩ | ⟨a', len, cap, m, n, D, Pl, hcs, hb, hl, hm, hmm, hx, hall⟩
  · exact ⟨none, 0, 0, fun _ => [], hcs, Nat.le_refl _, Nat.zero_le _, fun _ => rfl, fun i hi => by omega, RowAt.nil⟩
  · simp only [if_true] at hmm
    subst hmm
    rw [hc] at hall
    have hex : ∀ i, ∃ C : List Value, i < len → C.length = F ∧ (∃ fuel x, DataW.trod enc P W base (fun _ => true) true fuel e C = some x) ∧ ∀ j, j < F → W.cell? ((a'.add (i * F)).add j) = C[j]? := by
      intro i
      by_cases hi : i < len
      · obtain ⟨C, h1, h2⟩ := hall i (by omega)
        obtain ⟨_, h3, h4⟩ := World.cells?_some h1
        exact ⟨C, fun _ => ⟨h3, ⟨_, _, h2⟩, h4⟩⟩
      · exact ⟨[], fun h => absurd h hi⟩
    have hC : ∃ C : Nat → List Value, ∀ i, i < len → (C i).length = F ∧ (∃ fuel x, DataW.trod enc P W base (fun _ => true) true fuel e (C i) = some x) ∧ ∀ j, j < F → W.cell? ((a'.add (i * F)).add j) = (C i)[j]? :=
      ⟨fun i => Classical.choose (hex i), fun i => Classical.choose_spec (hex i)⟩
    obtain ⟨C, hC⟩ := hC
    refine ⟨some a', len, m, C, hcs, hl, hm, (fun h => by cases h), fun i hi => ⟨(hC i hi).1, (hC i hi).2.1⟩, ?_⟩
    by_cases h0 : len = 0
    · subst h0; exact .inl rfl
    · obtain ⟨b, o, s⟩ := a'
      obtain ⟨hlen, hget⟩ := flat_get hF len fun i hi => (hC i hi).1
      have hs : s = none := by
        have h1 := (hC 0 (by omega)).2.2 0 hF
        have h2 : (C 0)[0]? = some ((C 0)[0]'(by rw [(hC 0 (by omega)).1]; exact hF)) := List.getElem?_eq_getElem _
        rw [h2] at h1
        simpa [Addr.add] using World.cell?_spot h1
      subst hs
      refine .inr ⟨b, o, rfl, fun i x hi => ?_⟩
      obtain ⟨h1, h2⟩ := hget i x hi
      have h3 := (hC (i / F) h1).2.2 (i % F) (Nat.mod_lt _ hF)
      rw [addr_add, addr_add, h2] at h3
      rw [← h3]
      congr 2
      have := Nat.div_add_mod i F
      rw [Nat.mul_comm F] at this
      omega
end
end Go.Sh
