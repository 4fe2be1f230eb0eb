/- Arguments: rows of numbers that came in; what came in reads behind the call as it did before. -/
import Derived.Test.YthhcmoknppljpaaEng10
import Derived.OpenVars
import Derived.ChangeSlices
import Derived.ProofKit
import Derived.Deep.Matrix
import Derived.ChangeArms
set_option linter.unusedVariables false
set_option linter.unusedSimpArgs false
namespace Go.Sh
open Go.RowKit Go.ChangeShapes Go.WideShapes Go.ChangeAt Go.WideElems
noncomputable section

theorem trodAll_stays {H : Type} {enc : TypeId × Value → H} {P : Program} (hl : laidOutB P = true) {W W' : World} (hb : Below W.heap.size W W') :
    ∀ {ts : List TypeId} {vs : List Value} {ds : List (DataW H)} {ps : List MemPlace}, (ts.all fun t => P.readableRec t && decide (t < P.types.size)) = true → DataW.TrodAll enc P W 0 (fun _ => true) true ts vs ds ps →
      DataW.TrodAll enc P W' 0 (fun b => decide (b < W.heap.size)) true ts vs ds ps
  | [], [], [], _, _, h => h
  | [], [], _ :: _, _, _, h => h.elim
  | [], _ :: _, _, _, _, h => h.elim
  | _ :: _, [], _, _, _, h => h.elim
  | _ :: _, _ :: _, [], _, _, h => h.elim
  | t :: ts, v :: vs, d :: ds, ps, hv, h => by
    have hlt := DataW.TrodAll.lt h
    obtain ⟨p, q, ⟨fuel, h1⟩, h2, e⟩ := h
    simp only [List.all_cons, Bool.and_eq_true] at hv
    have hp : ∀ x ∈ p, x.block < W.heap.size := fun x hx => hlt x (by rw [e]; simp [hx])
    exact ⟨p, q, ⟨fuel, DataW.trod_stays (kids_book hl hv.1.1) (book_sized hv.1.1) (fun h => by cases h) ⟨by simpa using hv.1.2, book_self t⟩ h1 (fun x hx => hb.same (hp x hx)) (fun x hx => by simpa using hp x hx)⟩,
      trodAll_stays hl hb hv.2 h2, e⟩

/-- rows of bytes that came in -/
abbrev Part := Option Addr × Nat × List (BitVec 8)
/-! ### rows of structs that came in -/
end
end Go.Sh
