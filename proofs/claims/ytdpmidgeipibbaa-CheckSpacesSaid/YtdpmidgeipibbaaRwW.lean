/- Rows of words of one's own (sq). -/
import Derived.Test.YtdpmidgeipibbaaRules
import Derived.Test.YtdpmidgeipibbaaEng14
set_option linter.unusedVariables false
set_option linter.unusedSimpArgs false
set_option maxHeartbeats 4000000
namespace Go.Proofs.Ytdpmidgeipibbaa
open Go.Sh Go.RowKit

abbrev OwnU (w : World) (v : Value) (l : List (BitVec 64)) : Prop := Own w 69 1 v l.length (wrds l)
abbrev NewU (w w' : World) (v : Value) (l : List (BitVec 64)) : Prop := NewR 69 1 w w' v l.length (wrds l)
/-- one word of an own row: what a load and a store need -/
theorem OwnU.at {w : World} {v : Value} {l : List (BitVec 64)} {i : Nat} (h : OwnU w v l) (hi : i < l.length) (x : BitVec 64) :
    ∃ g cap, v = .slice (some ⟨g, 0, none⟩) l.length cap ∧ w.cell? ⟨g, i, none⟩ = some (u64 l[i]) ∧ w.frozen? ⟨g, i, none⟩ = false ∧ OwnU (w.setCell ⟨g, i, none⟩ (u64 x)) v (l.set i x) ∧ Ext (blk v) w (w.setCell ⟨g, i, none⟩ (u64 x)) ∧ g < w.heap.size := by
  obtain ⟨g, cap, rest, rfl, hB, hnc, hm, hl⟩ := h.open (by omega)
  have c1 : w.cell? ⟨g, i, none⟩ = some (u64 l[i]) := by rw [hB.cell, List.getElem?_append_left (by simpa using hi)]; simp [hi]
  have B2 := hB.set (i := i) (v := u64 x)
  rw [List.set_append_left _ _ (by simpa using hi)] at B2
  have e2 : (wrds l).set i (u64 x) = wrds (l.set i x) := by simp [wrds, List.map_set]
  rw [e2] at B2
  refine ⟨g, cap, rfl, c1, hB.frozen, ?_, (Ext.set (w := w) (b := g)).more (by simp [blk, Value.ownBlock]), hB.lt⟩
  have := Own.close (n := l.length) (s := 1) B2 hnc hm (by simpa using hl) (by simp)
  show Own _ _ _ _ (l.set i x).length _
  rw [List.length_set]
  exact this
end Go.Proofs.Ytdpmidgeipibbaa
