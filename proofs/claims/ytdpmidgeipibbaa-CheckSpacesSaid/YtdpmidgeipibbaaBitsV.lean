/- Fields of words, in plain Lean: what is taken and put, as numbers. -/
import Derived.Test.YtdpmidgeipibbaaRules
set_option linter.unusedVariables false
set_option linter.unusedSimpArgs false
set_option maxHeartbeats 4000000
namespace Go.Proofs.Ytdpmidgeipibbaa
open Go.Sh Go.RowKit

abbrev i64 (n : Int) : Value := .int .i64 n
def ones (n : Nat) : BitVec 64 := BitVec.allOnes 64 >>> (64 - n)
theorem ones_nat {n : Nat} (hn : n ≤ 64) : (ones n).toNat = 2 ^ n - 1 := by
  unfold ones
  rw [BitVec.toNat_ushiftRight, BitVec.toNat_allOnes, Nat.shiftRight_eq_div_pow]
  have h : 2 ^ 64 = 2 ^ n * 2 ^ (64 - n) := by rw [← Nat.pow_add]; congr 1; omega
  have hp : 0 < 2 ^ (64 - n) := Nat.pow_pos (by decide)
  have hq : 0 < 2 ^ n := Nat.pow_pos (by decide)
  rw [h]
  have e : 2 ^ n * 2 ^ (64 - n) - 1 = (2 ^ n - 1) * 2 ^ (64 - n) + (2 ^ (64 - n) - 1) := by
    obtain ⟨k, hk⟩ := Nat.exists_eq_add_of_lt hq
    obtain ⟨j, hj⟩ := Nat.exists_eq_add_of_lt hp
    rw [hk, hj]; simp only [Nat.zero_add, Nat.add_sub_cancel, Nat.add_mul, Nat.one_mul]; omega
  rw [e, Nat.add_comm, Nat.add_mul_div_right _ _ hp, Nat.div_eq_of_lt (by omega)]
  simp
/-- n ones from a bit on -/
def maskB (a n : Int) : BitVec 64 := (BitVec.ofNat 64 18446744073709551615 >>> (64 - n).toNat) <<< a.toNat
def maskOk (a n : Int) : Prop := 0 ≤ a ∧ a < 64 ∧ 1 ≤ n ∧ n ≤ 64 - a
instance (a n : Int) : Decidable (maskOk a n) := by unfold maskOk; infer_instance
def fieldB (x : BitVec 64) (a n : Int) : BitVec 64 := if maskOk a n then (x &&& maskB a n) >>> a.toNat else 0
def withB (x : BitVec 64) (a n : Int) (v : BitVec 64) : BitVec 64 := if maskOk a n then (x &&& ~~~maskB a n) ||| (v <<< a.toNat &&& maskB a n) else x
theorem maskB_eq (a n : Int) : maskB a n = ones n.toNat <<< a.toNat := by
  unfold maskB ones
  rw [show BitVec.ofNat 64 18446744073709551615 = BitVec.allOnes 64 by decide]
  by_cases h : 0 ≤ n
  · congr 2; omega
  · have e1 : (BitVec.allOnes 64) >>> (64 - n).toNat = 0#64 := by
      rw [BitVec.ushiftRight_eq_zero (by omega)]
    have e2 : (BitVec.allOnes 64) >>> (64 - n.toNat) = 0#64 := by
      rw [BitVec.ushiftRight_eq_zero (by omega)]
    rw [e1, e2]
theorem field_form (x : BitVec 64) {a n : Nat} (h : a + n ≤ 64) : (x &&& (ones n <<< a)) >>> a = (x >>> a) &&& ones n := by
  apply BitVec.eq_of_getLsbD_eq
  intro i hi
  simp only [BitVec.getLsbD_ushiftRight, BitVec.getLsbD_and, BitVec.getLsbD_shiftLeft]
  by_cases h1 : a + i < 64
  · have h2 : ¬ a + i < a := by omega
    simp [h1, h2]
  · have : x.getLsbD (a + i) = false := BitVec.getLsbD_of_ge _ _ (by omega)
    simp [this]
theorem and_ones_nat (x : BitVec 64) {n : Nat} (h : n ≤ 64) : (x &&& ones n).toNat = x.toNat % 2 ^ n := by
  rw [BitVec.toNat_and, ones_nat h, Nat.and_two_pow_sub_one_eq_mod]
theorem field_nat (x : BitVec 64) {a n : Nat} (h0 : 1 ≤ n) (h : a + n ≤ 64) : (fieldB x a n).toNat = x.toNat / 2 ^ a % 2 ^ n := by
  have hm : maskOk a n := ⟨by omega, by omega, by omega, by omega⟩
  unfold fieldB
  rw [if_pos hm, maskB_eq, Int.toNat_natCast, Int.toNat_natCast, field_form x h, and_ones_nat _ (by omega), BitVec.toNat_ushiftRight, Nat.shiftRight_eq_div_pow]
theorem put_form (v : BitVec 64) {a n : Nat} (h : a + n ≤ 64) : (v <<< a) &&& (ones n <<< a) = (v &&& ones n) <<< a := by
  apply BitVec.eq_of_getLsbD_eq
  intro i hi
  simp only [BitVec.getLsbD_and, BitVec.getLsbD_shiftLeft]
  cases decide (i < 64) <;> cases decide (i < a) <;> simp
theorem shl_nat (v : BitVec 64) {a n : Nat} (h : a + n ≤ 64) : ((v &&& ones n) <<< a).toNat = v.toNat % 2 ^ n * 2 ^ a := by
  rw [BitVec.toNat_shiftLeft, and_ones_nat v (by omega), Nat.shiftLeft_eq, Nat.mod_eq_of_lt]
  have h1 : v.toNat % 2 ^ n < 2 ^ n := Nat.mod_lt _ (Nat.pow_pos (by decide))
  calc v.toNat % 2 ^ n * 2 ^ a < 2 ^ n * 2 ^ a := (Nat.mul_lt_mul_right (Nat.pow_pos (by decide))).2 h1
    _ = 2 ^ (a + n) := by rw [← Nat.pow_add, Nat.add_comm]
    _ ≤ 2 ^ 64 := Nat.pow_le_pow_right (by decide) h
theorem at_form (x : BitVec 64) {a n : Nat} (h : a + n ≤ 64) : x &&& (ones n <<< a) = ((x >>> a) &&& ones n) <<< a := by
  apply BitVec.eq_of_getLsbD_eq
  intro i hi
  simp only [BitVec.getLsbD_and, BitVec.getLsbD_shiftLeft, BitVec.getLsbD_ushiftRight]
  by_cases h1 : i < a
  · simp [h1]
  · rw [show a + (i - a) = i by omega]; simp [h1, hi]
theorem or_nat {x y : BitVec 64} (h : x &&& y = 0#64) : (x ||| y).toNat = x.toNat + y.toNat := by
  rw [← BitVec.add_eq_or_of_and_eq_zero x y h, BitVec.toNat_add_of_and_eq_zero h]
theorem split_nat (x m : BitVec 64) : (x &&& ~~~m).toNat + (x &&& m).toNat = x.toNat := by
  have hd : (x &&& ~~~m) &&& (x &&& m) = 0#64 := by
    apply BitVec.eq_of_getLsbD_eq
    intro i hi
    simp only [BitVec.getLsbD_and, BitVec.getLsbD_not, BitVec.getLsbD_zero]
    cases x.getLsbD i <;> cases m.getLsbD i <;> simp
  have ho : (x &&& ~~~m) ||| (x &&& m) = x := by
    apply BitVec.eq_of_getLsbD_eq
    intro i hi
    simp only [BitVec.getLsbD_and, BitVec.getLsbD_not, BitVec.getLsbD_or]
    cases x.getLsbD i <;> cases m.getLsbD i <;> simp [hi]
  have := or_nat hd
  rw [ho] at this
  exact this.symm
theorem with_nat (x v : BitVec 64) {a n : Nat} (h0 : 1 ≤ n) (h : a + n ≤ 64) : (withB x a n v).toNat + x.toNat / 2 ^ a % 2 ^ n * 2 ^ a = x.toNat + v.toNat % 2 ^ n * 2 ^ a := by
  have hm : maskOk a n := ⟨by omega, by omega, by omega, by omega⟩
  unfold withB
  rw [if_pos hm, maskB_eq, Int.toNat_natCast, Int.toNat_natCast]
  have hd : (x &&& ~~~(ones n <<< a)) &&& (v <<< a &&& ones n <<< a) = 0#64 := by
    apply BitVec.eq_of_getLsbD_eq
    intro i hi
    simp only [BitVec.getLsbD_and, BitVec.getLsbD_not, BitVec.getLsbD_zero]
    cases (ones n <<< a).getLsbD i <;> simp
  rw [or_nat hd, put_form v h, shl_nat v h]
  have h1 := split_nat x (ones n <<< a)
  rw [at_form x h, shl_nat _ h, BitVec.toNat_ushiftRight, Nat.shiftRight_eq_div_pow] at h1
  omega
end Go.Proofs.Ytdpmidgeipibbaa
