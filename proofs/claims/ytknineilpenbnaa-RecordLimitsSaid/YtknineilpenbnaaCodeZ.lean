/- Numbers with a sign, and how many bytes a number takes, in plain Lean. -/
import Derived.Test.YtknineilpenbnaaCode2
set_option linter.unusedVariables false
set_option linter.unusedSimpArgs false
set_option maxHeartbeats 4000000
namespace Go.Proofs.Ytknineilpenbnaa
open Go.Sh Go.RowKit

abbrev o64 : BitVec 64 := BitVec.ofNat 64 1
def zag (x : BitVec 64) : Int := (BitVec.ofInt 64 (x >>> 1).toInt ^^^ BitVec.ofInt 64 (-(x &&& o64).toInt)).toInt
/-- the document's -/
def rZig (v : Int) : BitVec 64 := if v < 0 then (BitVec.ofInt 64 (0 - (v + 1)) <<< 1) ||| o64 else BitVec.ofInt 64 v <<< 1
def inI64 (v : Int) : Prop := -9223372036854775808 ≤ v ∧ v ≤ 9223372036854775807
theorem one_bit (j : Nat) : o64.getLsbD j = decide (j = 0) := by
  cases j with
  | zero => rfl
  | succ j => simp
theorem ofInt_not (v : Int) : BitVec.ofInt 64 (0 - (v + 1)) = ~~~BitVec.ofInt 64 v := by
  rw [show 0 - (v + 1) = -v + -1 by omega, BitVec.ofInt_add, BitVec.ofInt_neg, BitVec.not_eq_neg_add, BitVec.sub_eq_add_neg]
  rfl
theorem sign_bit {v : Int} (h : inI64 v) : (BitVec.ofInt 64 v).getLsbD 63 = decide (v < 0) := by
  have h1 : (BitVec.ofInt 64 v).msb = decide ((BitVec.ofInt 64 v).toInt < 0) := BitVec.msb_eq_toInt
  rw [BitVec.toInt_ofInt_eq_self (by decide) h.1 (by have := h.2; omega)] at h1
  rw [← h1, BitVec.msb_eq_getLsbD_last]
theorem ofInt_back {v : Int} (h : inI64 v) : (BitVec.ofInt 64 v).toInt = v := BitVec.toInt_ofInt_eq_self (by decide) h.1 (by have := h.2; omega)
theorem zig_eq {v : Int} (h : inI64 v) : zig v = rZig v := by
  unfold zig rZig
  by_cases hv : v < 0
  · rw [if_pos hv, show v.fdiv (2 ^ 63) = -1 by
      rw [Int.fdiv_eq_ediv_of_nonneg _ (by decide)]
      show v / 9223372036854775808 = -1
      have := h.1; omega, ofInt_not]
    apply BitVec.eq_of_getLsbD_eq
    intro i hi
    have h1 : (BitVec.ofInt 64 (-1)).getLsbD i = true := by
      rw [show BitVec.ofInt 64 (-1) = BitVec.allOnes 64 from rfl, BitVec.getLsbD_allOnes]; simpa using hi
    rw [BitVec.getLsbD_xor, h1, BitVec.getLsbD_or, BitVec.getLsbD_shiftLeft, BitVec.getLsbD_shiftLeft, one_bit, BitVec.getLsbD_not]
    by_cases h0 : i < 1
    · simp [hi, h0, show i = 0 by omega]
    · simp [hi, h0, show i ≠ 0 by omega, show i - 1 < 64 by omega]
  · rw [if_neg hv, show v.fdiv (2 ^ 63) = 0 by
      rw [Int.fdiv_eq_ediv_of_nonneg _ (by decide)]
      show v / 9223372036854775808 = 0
      have := h.2; omega]
    simp
theorem zag_zig {v : Int} (h : inI64 v) : zag (zig v) = v := by
  have key : (zig v >>> 1) ^^^ -(zig v &&& o64) = BitVec.ofInt 64 v := by
    rw [zig_eq h]
    unfold rZig
    have hs := sign_bit h
    by_cases hv : v < 0
    · rw [if_pos hv, ofInt_not]
      have h1 : ((~~~BitVec.ofInt 64 v <<< 1) ||| o64) &&& o64 = o64 := by
        apply BitVec.eq_of_getLsbD_eq
        intro i hi
        rw [BitVec.getLsbD_and, BitVec.getLsbD_or, one_bit]
        by_cases h0 : i = 0 <;> simp [h0]
      rw [h1, show -o64 = BitVec.allOnes 64 from rfl]
      apply BitVec.eq_of_getLsbD_eq
      intro i hi
      rw [BitVec.getLsbD_xor, BitVec.getLsbD_ushiftRight, BitVec.getLsbD_or, BitVec.getLsbD_shiftLeft, one_bit, BitVec.getLsbD_not, BitVec.getLsbD_allOnes]
      by_cases h63 : i = 63
      · subst h63; rw [hs, decide_eq_true hv]; simp
      · simp [hi, show 1 + i < 64 by omega, show ¬ 1 + i < 1 by omega, show 1 + i - 1 = i by omega, show 1 + i ≠ 0 by omega]
    · rw [if_neg hv]
      rw [decide_eq_false hv] at hs
      have h1 : (BitVec.ofInt 64 v <<< 1) &&& o64 = BitVec.ofNat 64 0 := by
        apply BitVec.eq_of_getLsbD_eq
        intro i hi
        rw [BitVec.getLsbD_and, BitVec.getLsbD_shiftLeft, one_bit]
        by_cases h0 : i = 0 <;> simp [h0]
      rw [h1, show -(BitVec.ofNat 64 0) = BitVec.ofNat 64 0 from rfl]
      apply BitVec.eq_of_getLsbD_eq
      intro i hi
      rw [BitVec.getLsbD_xor, BitVec.getLsbD_ushiftRight, BitVec.getLsbD_shiftLeft]
      by_cases h63 : i = 63
      · subst h63; rw [hs]; simp
      · simp [show 1 + i < 64 by omega, show ¬ 1 + i < 1 by omega, show 1 + i - 1 = i by omega]
  unfold zag
  rw [BitVec.ofInt_neg, BitVec.ofInt_toInt, BitVec.ofInt_toInt, key, ofInt_back h]
/-- the document's, back -/
def rZag (x : BitVec 64) : Int := if x &&& o64 = o64 then (0 : Int) - (x >>> 1).toInt - 1 else (x >>> 1).toInt
theorem half_bit (x : BitVec 64) : (0 : Int) ≤ (x >>> 1).toInt ∧ (x >>> 1).toInt ≤ 9223372036854775807 := by
  have h : (x >>> 1).toNat < 2 ^ 63 := by
    rw [BitVec.toNat_ushiftRight, Nat.shiftRight_eq_div_pow]
    have := x.isLt
    omega
  have : (x >>> 1).toInt = (x >>> 1).toNat := BitVec.toInt_eq_toNat_of_lt (by omega)
  omega
theorem bit_zero (x : BitVec 64) : (x &&& o64).toInt = if x &&& o64 = o64 then 1 else 0 := by
  have h : x &&& o64 = if x.getLsbD 0 then o64 else BitVec.ofNat 64 0 := by
    apply BitVec.eq_of_getLsbD_eq
    intro i hi
    rw [BitVec.getLsbD_and, one_bit]
    by_cases h0 : i = 0
    · subst h0; cases x.getLsbD 0 <;> simp [o64]
    · simp only [h0, decide_false, Bool.and_false]
      split
      · rw [one_bit]; simp [h0]
      · simp
  rw [h]
  cases x.getLsbD 0 <;> decide
theorem rZag_eq (x : BitVec 64) : zag x = rZag x := by
  unfold zag rZag
  rw [bit_zero]
  have hh := half_bit x
  by_cases h : x &&& o64 = o64
  · rw [if_pos h, if_pos h, BitVec.ofInt_toInt]
    have e : (x >>> 1) ^^^ BitVec.ofInt 64 (-1) = BitVec.ofInt 64 ((0 : Int) - ((x >>> 1).toInt + 1)) := by
      rw [ofInt_not, BitVec.ofInt_toInt, show BitVec.ofInt 64 (-1) = BitVec.allOnes 64 from rfl, BitVec.xor_allOnes]
    rw [e, ofInt_back ⟨by omega, by omega⟩]
    omega
  · rw [if_neg h, if_neg h, BitVec.ofInt_toInt]
    simp
theorem zig_small {v : Int} (h : inI64 v) (h1 : -64 ≤ v) (h2 : v ≤ 63) : (uintB (zig v)).length = 1 := by
  have key : (zig v).toNat < 128 := by
    rw [zig_eq h]
    have all : ∀ k : Nat, k < 128 → (rZig ((k : Int) - 64)).toNat < 128 := by decide +kernel
    have := all (v + 64).toNat (by omega)
    rwa [show (((v + 64).toNat : Int) - 64) = v by omega] at this
  show (if 128 ≤ (zig v).toNat then _ else [(zig v).setWidth 8] : List (BitVec 8)).length = 1
  rw [if_neg (by omega)]
  rfl
/-- how many bytes: as many as it can be cut by seven bits -/
theorem uintF_shift : ∀ (k : Nat) (x : BitVec 64), x.toNat < 2 ^ (7 * (k + 1)) → (∀ j, j + 1 < (uintF (k + 1) x).length → x >>> (7 * (j + 1)) ≠ z64) ∧ x >>> (7 * (uintF (k + 1) x).length) = z64
  | k, x, h => by
    by_cases hx : 128 ≤ x.toNat
    · cases k with
      | zero => simp at h; omega
      | succ k =>
        obtain ⟨h1, h2⟩ := uintF_shift k (x >>> 7) (shr7_lt h)
        rw [uintF_succ, if_pos hx, List.length_cons]
        refine ⟨fun j hj => ?_, ?_⟩
        · cases j with
          | zero =>
            intro e
            have := congrArg BitVec.toNat e
            rw [BitVec.toNat_ushiftRight, Nat.shiftRight_eq_div_pow] at this
            have h9 : x.toNat / 2 ^ 7 = 0 := this
            omega
          | succ j =>
            have := h1 j (by omega)
            rwa [← BitVec.shiftRight_add, show 7 + 7 * (j + 1) = 7 * (j + 1 + 1) by omega] at this
        · rw [← BitVec.shiftRight_add] at h2
          rw [← h2]
          congr 1
          omega
    · rw [uintF_succ, if_neg hx]
      refine ⟨fun j hj => by simp at hj, ?_⟩
      apply BitVec.eq_of_toNat_eq
      rw [BitVec.toNat_ushiftRight, Nat.shiftRight_eq_div_pow]
      show x.toNat / 2 ^ 7 = 0
      omega
theorem uintB_shift (x : BitVec 64) : (∀ j, j + 1 < (uintB x).length → x >>> (7 * (j + 1)) ≠ z64) ∧ x >>> (7 * (uintB x).length) = z64 := uintF_shift 9 x (Nat.lt_of_lt_of_le x.isLt (by decide))
theorem wordsB_get : ∀ (ws : List (BitVec 64)) (k j : Nat), j < 8 → k < ws.length → (wordsB ws)[8 * k + j]? = some (byteOf (ws.getD k z64) j)
  | [], k, j, _, h => by simp at h
  | x :: ws, k, j, hj, h => by
    have e : wordsB (x :: ws) = (List.range 8).map (byteOf x) ++ wordsB ws := by simp [wordsB]
    rw [e]
    cases k with
    | zero =>
      rw [List.getElem?_append_left (by simp; omega)]
      simp [hj]
    | succ k =>
      rw [List.getElem?_append_right (by simp; omega)]
      have := wordsB_get ws k j hj (by simpa using h)
      simp only [List.length_map, List.length_range, List.getD_cons_succ]
      rw [show 8 * (k + 1) + j - 8 = 8 * k + j by omega]
      exact this
/-- bytes as words -/
def wordsOf (b : List (BitVec 8)) : List (BitVec 64) := (List.range (b.length / 8)).map fun k => getV b (8 * k) 8
theorem wordsOf_B (ws : List (BitVec 64)) : wordsOf (wordsB ws) = ws := by
  unfold wordsOf
  rw [wordsB_length, Nat.mul_div_cancel_left _ (by decide)]
  refine List.ext_getElem (by simp) fun k h1 h2 => ?_
  simp only [List.length_map, List.length_range] at h1
  rw [List.getElem_map, List.getElem_range]
  apply BitVec.eq_of_getLsbD_eq
  intro i hi
  rw [get_bit _ _ _ (by decide)]
  unfold bitAt
  have h3 := wordsB_get ws k (i / 8) (by omega) h1
  rw [show (8 * (8 * k) + i) / 8 = 8 * k + i / 8 by omega, show (8 * (8 * k) + i) % 8 = i % 8 by omega, List.getD_eq_getElem?_getD, h3]
  simp only [Option.getD_some, byteOf, BitVec.getLsbD_setWidth, BitVec.getLsbD_ushiftRight]
  rw [show 8 * (i / 8) + i % 8 = i by omega]
  simp [hi, show i % 8 < 8 by omega, List.getD_eq_getElem?_getD, h1]
end Go.Proofs.Ytknineilpenbnaa
