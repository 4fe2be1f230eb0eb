/- Words and their bytes, in plain Lean. -/
import Derived.Test.YtknineilpenbnaaDoorBitsQ
set_option linter.unusedVariables false
set_option linter.unusedSimpArgs false
set_option maxHeartbeats 4000000
namespace Go.Proofs.YtknineilpenbnaaDoor
open Go.Sh Go.RowKit

abbrev c0 : BitVec 64 := BitVec.ofNat 64 0
def byteW (ws : List (BitVec 64)) (i : Nat) : BitVec 8 := ((ws.getD (i / 8) c0) >>> (8 * (i % 8))).setWidth 8
def bytesW (ws : List (BitVec 64)) (at' n : Nat) : List (BitVec 8) := (List.range n).map fun i => byteW ws (at' + i)
/-- one byte put -/
def putB (ws : List (BitVec 64)) (i : Nat) (b : BitVec 8) : List (BitVec 64) :=
  ws.set (i / 8) ((ws.getD (i / 8) c0 &&& ~~~(BitVec.ofNat 64 255 <<< (8 * (i % 8)))) ||| (b.setWidth 64 <<< (8 * (i % 8))))
def putBs (ws : List (BitVec 64)) (at' : Nat) (l : List (BitVec 8)) : Nat → List (BitVec 64)
  | 0 => ws
  | k + 1 => putB (putBs ws at' l k) (at' + k) (l.getD k (BitVec.ofNat 8 0))
def setBytesW (ws : List (BitVec 64)) (at' : Nat) (l : List (BitVec 8)) : List (BitVec 64) := putBs ws at' l l.length
theorem putB_length {ws : List (BitVec 64)} {i : Nat} {b : BitVec 8} : (putB ws i b).length = ws.length := by simp [putB]
theorem putBs_length {ws : List (BitVec 64)} {at' : Nat} {l : List (BitVec 8)} : ∀ k, (putBs ws at' l k).length = ws.length
  | 0 => rfl
  | k + 1 => by rw [putBs, putB_length, putBs_length k]
theorem setBytesW_length {ws : List (BitVec 64)} {at' : Nat} {l : List (BitVec 8)} : (setBytesW ws at' l).length = ws.length := putBs_length _
theorem bytesW_length {ws : List (BitVec 64)} {at' n : Nat} : (bytesW ws at' n).length = n := by simp [bytesW]
/-- n things from a place on -/
def among (at' n all : Int) : Prop := 0 ≤ at' ∧ 0 ≤ n ∧ n ≤ all ∧ at' ≤ all - n
instance (at' n all : Int) : Decidable (among at' n all) := by unfold among; infer_instance
end Go.Proofs.YtknineilpenbnaaDoor
