/- Sums of bytes, in plain Lean. -/
import Derived.Test.YtknineilpenbnaaBitsP
set_option linter.unusedVariables false
set_option linter.unusedSimpArgs false
set_option maxHeartbeats 4000000
namespace Go.Proofs.Ytknineilpenbnaa
open Go.Sh Go.RowKit

def crcStep (c : BitVec 32) : BitVec 32 := if c &&& BitVec.ofNat 32 1 = BitVec.ofNat 32 1 then (c >>> (BitVec.ofNat 64 1).toNat) ^^^ BitVec.ofNat 32 3988292384 else c >>> (BitVec.ofNat 64 1).toNat
def crcSteps (c : BitVec 32) : Nat → BitVec 32
  | 0 => c
  | n + 1 => crcStep (crcSteps c n)
def crcByte (c : BitVec 32) (b : BitVec 8) : BitVec 32 := crcSteps (c ^^^ b.setWidth 32) 8
def crcRun (c : BitVec 32) (l : List (BitVec 8)) : BitVec 32 := l.foldl crcByte c
def addV (s : BitVec 32) (l : List (BitVec 8)) : BitVec 32 := ~~~crcRun (~~~s) l
def sumsV (s : BitVec 32) (ls : List (List (BitVec 8))) : BitVec 32 := ls.foldl addV s
def sumV (l : List (BitVec 8)) : BitVec 32 := addV (BitVec.ofNat 32 0) l
theorem crcRun_take {c : BitVec 32} {l : List (BitVec 8)} {k : Nat} (h : k < l.length) : crcRun c (l.take (k + 1)) = crcByte (crcRun c (l.take k)) l[k] := by
  unfold crcRun
  rw [List.take_add_one, List.foldl_append]
  simp [h]
theorem sumsV_take {c : BitVec 32} {l : List (List (BitVec 8))} {k : Nat} (h : k < l.length) : sumsV c (l.take (k + 1)) = addV (sumsV c (l.take k)) l[k] := by
  unfold sumsV
  rw [List.take_add_one, List.foldl_append]
  simp [h]
/-- the i-th byte of a number -/
def sealV (l : List (BitVec 8)) : List (BitVec 8) := l ++ (List.range 4).map (byteOf ((sumV l).setWidth 64))
def rightB (l : List (BitVec 8)) : Bool := decide (4 ≤ l.length ∧ l = sealV (l.take (l.length - 4)))
theorem sealV_length (l : List (BitVec 8)) : (sealV l).length = l.length + 4 := by simp [sealV]
theorem right_seal (l : List (BitVec 8)) : rightB (sealV l) = true := by
  unfold rightB
  rw [sealV_length]
  have : (sealV l).take (l.length + 4 - 4) = l := by simp [sealV]
  rw [this]
  simp
end Go.Proofs.Ytknineilpenbnaa
