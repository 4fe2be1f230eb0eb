/- Words and their bytes, in plain Lean. -/
import Derived.Test.YtknineilpenbnaaDoorBitsQ
set_option linter.unusedVariables false
set_option linter.unusedSimpArgs false
set_option maxHeartbeats 4000000
namespace Go.Proofs.YtknineilpenbnaaDoor
open Go.Sh Go.RowKit

abbrev c0 : BitVec 64 := BitVec.ofNat 64 0
def byteW (ws : List (BitVec 64)) (i : Nat) : BitVec 8 := ((ws.getD (i / 8) c0) >>> (8 * (i % 8))).setWidth 8
def bytesW (ws : List (BitVec 64)) (at' n : Nat) : List (BitVec 8) := (List.range n).map fun i => byteW ws (at' + i)
/-- one byte put -/
def putB (ws : List (BitVec 64)) (i : Nat) (b : BitVec 8) : List (BitVec 64) :=
  ws.set (i / 8) ((ws.getD (i / 8) c0 &&& ~~~(BitVec.ofNat 64 255 <<< (8 * (i % 8)))) ||| (b.setWidth 64 <<< (8 * (i % 8))))
def putBs (ws : List (BitVec 64)) (at' : Nat) (l : List (BitVec 8)) : Nat → List (BitVec 64)
  | 0 => ws
  | k + 1 => putB (putBs ws at' l k) (at' + k) (l.getD k (BitVec.ofNat 8 0))
def setBytesW (ws : List (BitVec 64)) (at' : Nat) (l : List (BitVec 8)) : List (BitVec 64) := putBs ws at' l l.length
theorem putB_length {ws : List (BitVec 64)} {i : Nat} {b : BitVec 8} : (putB ws i b).length = ws.length := by simp [putB]
theorem putBs_length {ws : List (BitVec 64)} {at' : Nat} {l : List (BitVec 8)} : ∀ k, (putBs ws at' l k).length = ws.length
  | 0 => rfl
  | k + 1 => by rw [putBs, putB_length, putBs_length k]
theorem setBytesW_length {ws : List (BitVec 64)} {at' : Nat} {l : List (BitVec 8)} : (setBytesW ws at' l).length = ws.length := putBs_length _
theorem byte_put {ws : List (BitVec 64)} {i j : Nat} {b : BitVec 8} (hi : i < 8 * ws.length) : byteW (putB ws i b) j = if j = i then b else byteW ws j := by
  have hl : i / 8 < ws.length := by omega
  unfold byteW putB
  rw [List.getD_eq_getElem?_getD, List.getElem?_set]
  by_cases h : i / 8 = j / 8
  · rw [if_pos h, if_pos hl, Option.getD_some, ← h]
    apply BitVec.eq_of_getLsbD_eq
    intro k hk
    rw [BitVec.getLsbD_setWidth, BitVec.getLsbD_ushiftRight, BitVec.getLsbD_or, BitVec.getLsbD_and, BitVec.getLsbD_not, BitVec.getLsbD_shiftLeft, BitVec.getLsbD_shiftLeft, BitVec.getLsbD_setWidth]
    have h255 : ∀ m, (BitVec.ofNat 64 255).getLsbD m = decide (m < 8) := by
      intro m
      by_cases hm : m < 64
      · have : ∀ m, m < 64 → (BitVec.ofNat 64 255).getLsbD m = decide (m < 8) := by decide
        exact this m hm
      · rw [BitVec.getLsbD_of_ge _ _ (by omega)]; simp; omega
    rw [h255]
    by_cases hji : j = i
    · subst hji
      rw [if_pos rfl]
      simp [hk, show 8 * (j % 8) + k < 64 by omega, show ¬ 8 * (j % 8) + k < 8 * (j % 8) by omega, show 8 * (j % 8) + k - 8 * (j % 8) = k by omega, show k < 64 by omega]
    · rw [if_neg hji, BitVec.getLsbD_setWidth, BitVec.getLsbD_ushiftRight]
      have hne : i % 8 ≠ j % 8 := fun e => hji (by omega)
      have hb : b.getLsbD (8 * (j % 8) + k - 8 * (i % 8)) = false ∨ 8 * (j % 8) + k < 8 * (i % 8) := by
        rcases Nat.lt_or_ge (8 * (j % 8) + k) (8 * (i % 8)) with h1 | h1
        · exact .inr h1
        · exact .inl (BitVec.getLsbD_of_ge _ _ (by omega))
      rcases Nat.lt_or_ge (8 * (j % 8) + k) (8 * (i % 8)) with h1 | h1
      · simp [h1, hk, show 8 * (j % 8) + k < 64 by omega]
      · have h2 : ¬ 8 * (j % 8) + k - 8 * (i % 8) < 8 := by omega
        rw [BitVec.getLsbD_of_ge b _ (by omega)]
        simp [h2, hk, show 8 * (j % 8) + k < 64 by omega]
  · rw [if_neg h, if_neg (fun e => h (by rw [e])), ← List.getD_eq_getElem?_getD]
theorem byte_puts {ws : List (BitVec 64)} {at' j : Nat} {l : List (BitVec 8)} : ∀ k, at' + k ≤ 8 * ws.length → k ≤ l.length → byteW (putBs ws at' l k) j = if at' ≤ j ∧ j < at' + k then l.getD (j - at') (BitVec.ofNat 8 0) else byteW ws j
  | 0, _, _ => by rw [if_neg (by omega)]; rfl
  | k + 1, h, hl => by
    rw [putBs, byte_put (by rw [putBs_length]; omega), byte_puts k (by omega) (by omega)]
    by_cases h1 : j = at' + k
    · rw [if_pos h1, if_pos (by omega), h1, Nat.add_sub_cancel_left]
    · rw [if_neg h1]
      by_cases h2 : at' ≤ j ∧ j < at' + k
      · rw [if_pos h2, if_pos (by omega)]
      · rw [if_neg h2, if_neg (by omega)]
theorem byte_set {ws : List (BitVec 64)} {at' j : Nat} {l : List (BitVec 8)} (h : at' + l.length ≤ 8 * ws.length) : byteW (setBytesW ws at' l) j = if at' ≤ j ∧ j < at' + l.length then l.getD (j - at') (BitVec.ofNat 8 0) else byteW ws j :=
  byte_puts _ h (Nat.le_refl _)
theorem bytesW_length {ws : List (BitVec 64)} {at' n : Nat} : (bytesW ws at' n).length = n := by simp [bytesW]
/-- n things from a place on -/
def among (at' n all : Int) : Prop := 0 ≤ at' ∧ 0 ≤ n ∧ n ≤ all ∧ at' ≤ all - n
instance (at' n all : Int) : Decidable (among at' n all) := by unfold among; infer_instance
def moveW (ws : List (BitVec 64)) (to src n : Nat) : List (BitVec 64) := ws.take to ++ (ws.drop src).take n ++ ws.drop (to + n)
theorem moveW_length {ws : List (BitVec 64)} {to src n : Nat} (h1 : to + n ≤ ws.length) (h2 : src + n ≤ ws.length) : (moveW ws to src n).length = ws.length := by simp [moveW]; omega
end Go.Proofs.YtknineilpenbnaaDoor
