/- Rows of bytes of one's own (sq). -/
import Derived.Test.YtknineilpenbnaaDoorRules
import Derived.Test.YtknineilpenbnaaDoorEng14
set_option linter.unusedVariables false
set_option linter.unusedSimpArgs false
set_option maxHeartbeats 4000000
namespace Go.Proofs.YtknineilpenbnaaDoor
open Go.Sh Go.RowKit

abbrev OwnB (w : World) (v : Value) (l : List (BitVec 8)) : Prop := Own w 5 1 v l.length (bys l)
abbrev NewB (w w' : World) (u : Value) (l : List (BitVec 8)) : Prop := NewR 5 1 w w' u l.length (bys l)
theorem bys_one (l : List (BitVec 8)) : ∀ u ∈ bys l, u.oneCell' = true := by simp [Value.oneCell']
theorem appBl {w : World} {K : K1} {v : Value} {l m : List (BitVec 8)} {k g : Nat} {cs : List Value} (hO : OwnB w v l) (hcs : cs = bys m) (hk : k = m.length) (hl : l.length + m.length ≤ 4000000)
    (hK : ∀ v' w', OwnB w' v' (l ++ m) → Stp (blk v) (blk v') w w' → K v' w') (hg : g = w.heap.size := by first | rfl | (simp only [World.size_alloc, World.size_drew, World.size_setCell] <;> omega)) : xBuiltin Tryd.prog .append #[22, 22] 22 [false, false] [v, .slice (some ⟨g, 0, none⟩) k k] (w.alloc (.cells cs.toArray 5)) K := by
  subst hcs hk hg
  refine xAppL (bytes := 1) (z := .int .u8 0) (by kernel_rfl) (by kernel_rfl) (by rfl) (by decide) hO (by simp) (bys_one m) (by omega) (by omega) fun v' w' h1 h2 => hK v' w' ?_ h2
  show Own w' 5 1 v' (l ++ m).length (bys (l ++ m))
  rw [List.length_append, bys, List.map_append]
  exact h1
theorem strB {w : World} {a : Option Addr} {n c : Nat} {l : List (BitVec 8)} (hn : n = l.length) (h : RowAt w a (bys l)) : ∀ K, xConv Tryd.prog 22 9 (.slice a n c) w K = K (.string (strOf l)) w :=
  fun K => xConv_str (e := 5) (by kernel_rfl) (by kernel_rfl) (by kernel_rfl) hn h
end Go.Proofs.YtknineilpenbnaaDoor
