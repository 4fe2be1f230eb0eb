/- Numbers in bytes, in plain Lean. -/
import Derived.Test.YtknineilpenbnaaDoorBitsM
set_option linter.unusedVariables false
set_option linter.unusedSimpArgs false
set_option maxHeartbeats 4000000
namespace Go.Proofs.YtknineilpenbnaaDoor
open Go.Sh Go.RowKit

/-- the i-th byte of a number -/
def byteOf (v : BitVec 64) (i : Nat) : BitVec 8 := (v >>> (8 * i)).setWidth 8
def putV (l : List (BitVec 8)) (at' n : Nat) (v : BitVec 64) : List (BitVec 8) := l.take at' ++ (List.range n).map (byteOf v) ++ l.drop (at' + n)
theorem putV_take {l : List (BitVec 8)} {at' n k : Nat} {v : BitVec 64} (hk : k < n) (h : at' + n ≤ l.length) : (putV l at' k v).set (at' + k) (byteOf v k) = putV l at' (k + 1) v := by
  unfold putV
  rw [List.range_succ, List.map_append, List.set_append_right _ _ (by simp; omega)]
  have hl : (l.take at' ++ (List.range k).map (byteOf v)).length = at' + k := by simp; omega
  rw [hl, show at' + k - (at' + k) = 0 by omega, List.drop_eq_getElem_cons (show at' + k < l.length by omega)]
  simp [Nat.add_assoc]
theorem putV_zero {l : List (BitVec 8)} {at' : Nat} {v : BitVec 64} : putV l at' 0 v = l := by simp [putV]
theorem putV_length {l : List (BitVec 8)} {at' n : Nat} {v : BitVec 64} (h : at' + n ≤ l.length) : (putV l at' n v).length = l.length := by simp [putV]; omega
theorem bys_set {l : List (BitVec 8)} {i : Nat} {x : BitVec 8} : (bys l).set i (u8 x) = bys (l.set i x) := by simp [bys, List.map_set]

def getN (l : List (BitVec 8)) (at' n : Nat) : Nat → BitVec 64
  | 0 => BitVec.ofNat 64 0
  | j + 1 => (getN l at' n j <<< (BitVec.ofNat 64 8).toNat) ||| (l.getD (at' + (n - 1 - j)) (BitVec.ofNat 8 0)).setWidth 64
def getV (l : List (BitVec 8)) (at' n : Nat) : BitVec 64 := getN l at' n n
def bitAt (l : List (BitVec 8)) (t : Nat) : Bool := (l.getD (t / 8) (BitVec.ofNat 8 0)).getLsbD (t % 8)
theorem getN_bit (l : List (BitVec 8)) (at' n : Nat) (hn : n ≤ 8) : ∀ j, j ≤ n → ∀ i, (getN l at' n j).getLsbD i = (decide (i < 8 * j) && bitAt l (8 * (at' + n - j) + i))
  | 0, _, i => by simp [getN]
  | j + 1, h, i => by
    have ih := getN_bit l at' n hn j (by omega)
    rw [getN, BitVec.getLsbD_or, show (BitVec.ofNat 64 8).toNat = 8 by decide, BitVec.getLsbD_shiftLeft, BitVec.getLsbD_setWidth]
    by_cases h1 : i < 8
    · have e : bitAt l (8 * (at' + n - (j + 1)) + i) = (l.getD (at' + (n - 1 - j)) (BitVec.ofNat 8 0)).getLsbD i := by
        unfold bitAt
        rw [show (8 * (at' + n - (j + 1)) + i) / 8 = at' + (n - 1 - j) by omega, show (8 * (at' + n - (j + 1)) + i) % 8 = i by omega]
      rw [e]
      simp [h1, show i < 64 by omega, show i < 8 * (j + 1) by omega]
    · have e : (l.getD (at' + (n - 1 - j)) (BitVec.ofNat 8 0)).getLsbD i = false := BitVec.getLsbD_of_ge _ _ (by omega)
      rw [e, ih (i - 8), show 8 * (at' + n - j) + (i - 8) = 8 * (at' + n - (j + 1)) + i by omega]
      by_cases h2 : i < 8 * (j + 1)
      · simp [h1, h2, show i < 64 by omega, show i - 8 < 8 * j by omega]
      · simp [h1, h2, show ¬ i - 8 < 8 * j by omega]
theorem get_bit (l : List (BitVec 8)) (at' n : Nat) (hn : n ≤ 8) (i : Nat) : (getV l at' n).getLsbD i = (decide (i < 8 * n) && bitAt l (8 * at' + i)) := by
  rw [getV, getN_bit l at' n hn n (Nat.le_refl _) i, show at' + n - n = at' by omega]
theorem put_bit {l : List (BitVec 8)} {at' n : Nat} {v : BitVec 64} (hn : n ≤ 8) (h : at' + n ≤ l.length) (t : Nat) : bitAt (putV l at' n v) t = if 8 * at' ≤ t ∧ t < 8 * (at' + n) then v.getLsbD (t - 8 * at') else bitAt l t := by
  unfold bitAt putV
  rw [List.getD_eq_getElem?_getD, List.getD_eq_getElem?_getD]
  by_cases h1 : t / 8 < at'
  · rw [if_neg (by omega), List.append_assoc, List.getElem?_append_left (by simp; omega), List.getElem?_take, if_pos h1]
  · by_cases h2 : t / 8 < at' + n
    · rw [if_pos (by omega), List.getElem?_append_left (by simp; omega), List.getElem?_append_right (by simp; omega)]
      have hl : (l.take at').length = at' := by simp; omega
      rw [hl, List.getElem?_map, List.getElem?_range (by omega)]
      simp only [Option.map_some, Option.getD_some, byteOf, BitVec.getLsbD_setWidth, BitVec.getLsbD_ushiftRight]
      rw [show 8 * (t / 8 - at') + t % 8 = t - 8 * at' by omega]
      simp [Nat.mod_lt]
    · rw [if_neg (by omega), List.getElem?_append_right (by simp; omega)]
      have hl : (l.take at' ++ (List.range n).map (byteOf v)).length = at' + n := by simp; omega
      rw [hl, List.getElem?_drop, show at' + n + (t / 8 - (at' + n)) = t / 8 by omega]
theorem get_put {l : List (BitVec 8)} {at' n : Nat} {v : BitVec 64} (h1 : 1 ≤ n) (hn : n ≤ 8) (h : at' + n ≤ l.length) : getV (putV l at' n v) at' n = fieldB v 0 (8 * n : Nat) := by
  apply BitVec.eq_of_getLsbD_eq
  intro i hi
  have hf := field_bit v (a := 0) (n := 8 * n) (by omega) (by omega) i
  rw [get_bit _ _ _ hn, put_bit hn h, show fieldB v 0 (8 * n : Nat) = fieldB v ((0 : Nat) : Int) ((8 * n : Nat) : Int) from rfl, hf]
  by_cases h2 : i < 8 * n
  · rw [if_pos (by omega), show 8 * at' + i - 8 * at' = i by omega, Nat.zero_add]
  · simp [h2]
def inside (at' n size : Int) : Prop := 1 ≤ n ∧ n ≤ 8 ∧ 0 ≤ at' ∧ n ≤ size ∧ at' ≤ size - n
instance (at' n size : Int) : Decidable (inside at' n size) := by unfold inside; infer_instance
end Go.Proofs.YtknineilpenbnaaDoor
