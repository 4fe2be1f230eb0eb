/- The small example of the statements on the codec; numbers with a sign; how long numbers are: walked. -/
import Derived.Test.YtknineilpenbnaaCode3
set_option linter.unusedVariables false
set_option linter.unusedSimpArgs false
set_option maxHeartbeats 4000000
namespace Go.Proofs.Ytknineilpenbnaa
open Go.Sh Go.RowKit

abbrev y8 (n : Nat) : BitVec 8 := BitVec.ofNat 8 n
theorem enc_new {w : World} {base : Nat} (hb : base ≤ w.heap.size) : EncIs (w.alloc (.cells [Value.slice none 0 0].toArray 51)) base w.heap.size (.slice none 0 0) [] :=
  ⟨hb, Blk.new _ _, World.ownsRow_nil _ _ _ _, by simp [Value.ownBlock]⟩
theorem DecIs.ext {w w' : World} {g : Nat} {a : Option Addr} {c : Nat} {l : List (BitVec 8)} {e : Int} {M : List Nat} (h : DecIs w g a c l e) (hx : Ext M w w') (hg : g ∉ M) (ha : l ≠ [] → ∀ b o, a = some ⟨b, o, none⟩ → b ∉ M) : DecIs w' g a c l e :=
  ⟨h.blk.ext hx hg, by by_cases hl : l = []; · rw [hl]; exact RowAt.nil
                       · exact h.row.ext hx (ha hl), h.cap, h.nil, h.ne, h.big, h.err⟩

end Go.Proofs.Ytknineilpenbnaa
