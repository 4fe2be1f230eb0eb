/- Signs, fields, turns, in plain Lean. -/
import Derived.Test.YtknineilpenbnaaDoorBitsV
set_option linter.unusedVariables false
set_option linter.unusedSimpArgs false
set_option maxHeartbeats 4000000
namespace Go.Proofs.YtknineilpenbnaaDoor
open Go.Sh Go.RowKit

/-! signs -/
def signI (v n : Int) : Int := if 1 ≤ n ∧ n ≤ 64 then Int.bmod v (2 ^ n.toNat) else 0
theorem bmod_range {v : Int} {n : Nat} (h : 1 ≤ n) : -((2 ^ (n - 1) : Nat) : Int) ≤ Int.bmod v (2 ^ n) ∧ Int.bmod v (2 ^ n) < ((2 ^ (n - 1) : Nat) : Int) := by
  have hp : 0 < 2 ^ n := Nat.pow_pos (by decide)
  have h1 := Int.le_bmod (x := v) hp
  have h2 := Int.bmod_lt (x := v) hp
  have e : 2 ^ n = 2 * 2 ^ (n - 1) := by rw [← Nat.pow_succ', show (n - 1).succ = n by omega]
  rw [e] at h1 h2 ⊢
  push_cast at h1 h2 ⊢
  omega
theorem bmod_self {v : Int} {n : Nat} (h : 1 ≤ n) (h1 : -((2 ^ (n - 1) : Nat) : Int) ≤ v) (h2 : v < ((2 ^ (n - 1) : Nat) : Int)) : Int.bmod v (2 ^ n) = v := by
  have e : 2 ^ n = 2 * 2 ^ (n - 1) := by rw [← Nat.pow_succ', show (n - 1).succ = n by omega]
  rw [e]
  generalize 2 ^ (n - 1) = p at *
  apply Int.bmod_eq_of_le_mul_two <;> push_cast <;> omega
theorem bmod_pow {v : Int} {a b : Nat} (h : b ≤ a) : Int.bmod (Int.bmod v (2 ^ a)) (2 ^ b) = Int.bmod v (2 ^ b) :=
  Int.bmod_bmod_of_dvd (Nat.pow_dvd_pow 2 h)
theorem bmod_ofInt {v : Int} {n : Nat} (h : n ≤ 64) : Int.bmod ((BitVec.ofInt 64 v).toNat : Int) (2 ^ n) = Int.bmod v (2 ^ n) := by
  rw [BitVec.toNat_ofInt, Int.toNat_of_nonneg (Int.emod_nonneg _ (by decide))]
  have e64 : 2 ^ (64 - n) * 2 ^ n = 2 ^ 64 := by rw [← Nat.pow_add]; congr 1; omega
  have e : v % ((2 ^ 64 : Nat) : Int) = v + (-(v / ((2 ^ 64 : Nat) : Int)) * ((2 ^ (64 - n) : Nat) : Int)) * ((2 ^ n : Nat) : Int) := by
    rw [Int.mul_assoc, ← Int.natCast_mul, e64, Int.emod_def]
    rw [Int.neg_mul, Int.mul_comm]; omega
  rw [e, Int.add_mul_bmod_self_right]
theorem sign_shift (v : BitVec 64) {n : Nat} (h0 : 1 ≤ n) (h1 : n ≤ 64) : (v <<< (64 - n)).toInt.fdiv (2 ^ min (64 - n) 64) = Int.bmod (v.toNat : Int) (2 ^ n) := by
  obtain ⟨r1, r2⟩ := bmod_range (v := (v.toNat : Int)) h0
  have hk : (0 : Int) < ((2 ^ (64 - n) : Nat) : Int) := by exact_mod_cast Nat.pow_pos (by decide)
  have e64 : 2 ^ n * 2 ^ (64 - n) = 2 ^ 64 := by rw [← Nat.pow_add]; congr 1; omega
  have e63 : 2 ^ (n - 1) * 2 ^ (64 - n) = 2 ^ 63 := by rw [← Nat.pow_add]; congr 1; omega
  have ht : (v <<< (64 - n)).toInt = Int.bmod (v.toNat : Int) (2 ^ n) * ((2 ^ (64 - n) : Nat) : Int) := by
    rw [BitVec.toInt_eq_toNat_bmod, BitVec.toNat_shiftLeft, Nat.shiftLeft_eq, Int.natCast_emod, Int.emod_bmod]
    generalize hr : Int.bmod (v.toNat : Int) (2 ^ n) = r at *
    obtain ⟨q, hq⟩ : ∃ q : Int, (v.toNat : Int) = r + q * ((2 ^ n : Nat) : Int) := by
      refine ⟨(v.toNat - r) / ((2 ^ n : Nat) : Int), ?_⟩
      have hd : ((2 ^ n : Nat) : Int) ∣ (v.toNat : Int) - r := by
        rw [← hr]; exact Int.dvd_self_sub_bmod
      rw [Int.ediv_mul_cancel hd]; omega
    rw [Int.natCast_mul, hq, Int.add_mul, Int.mul_assoc, ← Int.natCast_mul, e64]
    rw [Int.add_mul_bmod_self_right]
    have := bmod_self (v := r * ((2 ^ (64 - n) : Nat) : Int)) (n := 64) (by decide) ?_ ?_
    · exact this
    · rw [show (2 ^ (64 - 1) : Nat) = 2 ^ (n - 1) * 2 ^ (64 - n) from e63.symm, Int.natCast_mul, ← Int.neg_mul]
      exact Int.mul_le_mul_of_nonneg_right r1 (Int.le_of_lt hk)
    · rw [show (2 ^ (64 - 1) : Nat) = 2 ^ (n - 1) * 2 ^ (64 - n) from e63.symm, Int.natCast_mul]
      exact Int.mul_lt_mul_of_pos_right r2 hk
  rw [ht, Nat.min_eq_left (by omega), show ((2 : Int) ^ (64 - n)) = ((2 ^ (64 - n) : Nat) : Int) by push_cast; rfl]
  exact Int.mul_fdiv_cancel _ (by omega)
theorem test_top (w : BitVec 64) {n : Nat} (h0 : 1 ≤ n) (hw : w.toNat < 2 ^ n) : (w >>> (n - 1) &&& BitVec.ofNat 64 1 = BitVec.ofNat 64 1) ↔ 2 ^ (n - 1) ≤ w.toNat := by
  have e : 2 ^ n = 2 * 2 ^ (n - 1) := by rw [← Nat.pow_succ', show (n - 1).succ = n by omega]
  have hp : 0 < 2 ^ (n - 1) := Nat.pow_pos (by decide)
  rw [← BitVec.toNat_inj, BitVec.toNat_and, show (BitVec.ofNat 64 1).toNat = 2 ^ 1 - 1 by decide, Nat.and_two_pow_sub_one_eq_mod, BitVec.toNat_ushiftRight, Nat.shiftRight_eq_div_pow]
  have hd : w.toNat / 2 ^ (n - 1) < 2 := Nat.div_lt_of_lt_mul (by omega)
  constructor
  · intro h
    rcases Nat.lt_or_ge w.toNat (2 ^ (n - 1)) with hl | hl
    · rw [Nat.div_eq_of_lt hl] at h; simp at h
    · exact hl
  · intro h
    have : 0 < w.toNat / 2 ^ (n - 1) := Nat.div_pos h hp
    omega
theorem sign_or (v : BitVec 64) {n : Nat} (h0 : 1 ≤ n) (h1 : n ≤ 64) :
    (if 2 ^ (n - 1) ≤ (v &&& ones n).toNat then (v &&& ones n) ||| (ones 64 - ones n) else v &&& ones n).toInt = Int.bmod (v.toNat : Int) (2 ^ n) := by
  have e : 2 ^ n = 2 * 2 ^ (n - 1) := by rw [← Nat.pow_succ', show (n - 1).succ = n by omega]
  have hm := and_ones_nat v h1
  have hp : 0 < 2 ^ n := Nat.pow_pos (by decide)
  have hlt : v.toNat % 2 ^ n < 2 ^ n := Nat.mod_lt _ hp
  have h64 : 2 ^ n ≤ 2 ^ 64 := Nat.pow_le_pow_right (by decide) h1
  have hbm : Int.bmod (v.toNat : Int) (2 ^ n) = Int.bmod ((v.toNat % 2 ^ n : Nat) : Int) (2 ^ n) := by rw [Int.natCast_emod, Int.emod_bmod]
  rw [hbm]
  by_cases hc : 2 ^ (n - 1) ≤ (v &&& ones n).toNat
  · rw [if_pos hc]
    have hn64 : (ones 64 - ones n).toNat = 2 ^ 64 - 2 ^ n := by
      rw [BitVec.toNat_sub, ones_nat h1, ones_nat (Nat.le_refl _)]
      omega
    have hd : (v &&& ones n) &&& (ones 64 - ones n) = 0#64 := by
      have e1 : ones 64 - ones n = ~~~ones n := by
        apply BitVec.eq_of_toNat_eq
        rw [hn64, BitVec.toNat_not, ones_nat h1]; omega
      rw [e1]
      apply BitVec.eq_of_getLsbD_eq
      intro i hi
      simp only [BitVec.getLsbD_and, BitVec.getLsbD_not, BitVec.getLsbD_zero]
      cases v.getLsbD i <;> cases (ones n).getLsbD i <;> simp
    have ht := or_nat hd
    rw [hn64, hm] at ht
    rw [hm] at hc
    have hx : ((v.toNat % 2 ^ n : Nat) : Int).bmod (2 ^ n) = ((v.toNat % 2 ^ n : Nat) : Int) - ((2 ^ n : Nat) : Int) := by
      have h3 := Int.sub_mul_bmod_self_right ((v.toNat % 2 ^ n : Nat) : Int) 1 (2 ^ n)
      rw [Int.one_mul] at h3
      rw [← h3]
      generalize v.toNat % 2 ^ n = m at *
      apply bmod_self h0 <;> omega
    rw [hx, BitVec.toInt_eq_toNat_cond, ht]
    generalize v.toNat % 2 ^ n = m at *
    generalize 2 ^ n = q at *
    rw [if_neg (by omega)]
    omega
  · rw [if_neg hc]
    rw [hm] at hc
    rw [BitVec.toInt_eq_toNat_cond, hm]
    rw [bmod_self h0 (by omega) (by omega), if_pos (by omega)]

/-! fields by their bits -/
theorem mask_bit {a n : Nat} (h : a + n ≤ 64) {i : Nat} (hi : i < 64) : (maskB a n).getLsbD i = (decide (a ≤ i) && decide (i < a + n)) := by
  rw [maskB_eq, Int.toNat_natCast, Int.toNat_natCast, BitVec.getLsbD_shiftLeft]
  by_cases h1 : i < a
  · simp [h1, show ¬ a ≤ i by omega]
  · rw [ones_bit (by omega) (by omega)]
    simp [h1, hi, show a ≤ i by omega, show i - a < n ↔ i < a + n by omega]
theorem field_bit (x : BitVec 64) {a n : Nat} (h0 : 1 ≤ n) (h : a + n ≤ 64) (i : Nat) : (fieldB x a n).getLsbD i = (decide (i < n) && x.getLsbD (a + i)) := by
  have hm : maskOk a n := ⟨by omega, by omega, by omega, by omega⟩
  unfold fieldB
  rw [if_pos hm, Int.toNat_natCast, BitVec.getLsbD_ushiftRight, BitVec.getLsbD_and]
  by_cases hi : a + i < 64
  · rw [mask_bit h hi]
    simp [show a + i < a + n ↔ i < n by omega, Bool.and_comm]
  · rw [BitVec.getLsbD_of_ge x _ (by omega)]; simp
theorem with_bit (x v : BitVec 64) {a n : Nat} (h0 : 1 ≤ n) (h : a + n ≤ 64) {i : Nat} (hi : i < 64) : (withB x a n v).getLsbD i = if a ≤ i ∧ i < a + n then v.getLsbD (i - a) else x.getLsbD i := by
  have hm : maskOk a n := ⟨by omega, by omega, by omega, by omega⟩
  unfold withB
  rw [if_pos hm, Int.toNat_natCast, BitVec.getLsbD_or, BitVec.getLsbD_and, BitVec.getLsbD_and, BitVec.getLsbD_not, mask_bit h hi, BitVec.getLsbD_shiftLeft]
  by_cases h1 : a ≤ i
  · by_cases h2 : i < a + n
    · simp [h1, h2, hi, show ¬ i < a by omega]
    · simp [h1, h2, hi]
  · simp [h1, hi]
/-! turns -/
def turnB (w : BitVec 64) (k : Int) : BitVec 64 := (w <<< (k % 64).toNat) ||| (w >>> (64 - (k % 64).toNat))
theorem turn_bit (w : BitVec 64) (k : Int) {i : Nat} (hi : i < 64) : (turnB w k).getLsbD i = w.getLsbD ((((i : Int) - k) % 64).toNat) := by
  unfold turnB
  obtain ⟨s, hs, hs2⟩ : ∃ s : Nat, (k % 64) = s ∧ s < 64 := ⟨(k % 64).toNat, by omega, by omega⟩
  rw [hs, Int.toNat_natCast, BitVec.getLsbD_or, BitVec.getLsbD_shiftLeft, BitVec.getLsbD_ushiftRight]
  by_cases h : i < s
  · rw [show (((i : Int) - k) % 64).toNat = 64 - s + i by omega]
    simp [h]
  · rw [show (((i : Int) - k) % 64).toNat = i - s by omega, BitVec.getLsbD_of_ge w (64 - s + i) (by omega)]
    simp [h, hi]
theorem turn_turn (w : BitVec 64) (a b : Int) : turnB (turnB w a) b = turnB w (a + b) := by
  apply BitVec.eq_of_getLsbD_eq
  intro i hi
  rw [turn_bit _ b hi, turn_bit _ a (by omega), turn_bit _ (a + b) hi]
  congr 1
  omega
theorem turn_zero (w : BitVec 64) {k : Int} (h : k % 64 = 0) : turnB w k = w := by
  apply BitVec.eq_of_getLsbD_eq
  intro i hi
  rw [turn_bit _ k hi]
  congr 1
  omega
theorem and_63 (k : Int) : (BitVec.ofInt 64 k &&& BitVec.ofInt 64 63).toInt = k % 64 := by
  have h : (BitVec.ofInt 64 k &&& BitVec.ofInt 64 63).toNat = (BitVec.ofInt 64 k).toNat % 64 := by
    rw [BitVec.toNat_and, show (BitVec.ofInt 64 63).toNat = 2 ^ 6 - 1 by decide, Nat.and_two_pow_sub_one_eq_mod]
  rw [BitVec.toInt_eq_toNat_of_lt (by omega), h, BitVec.toNat_ofInt]
  omega
end Go.Proofs.YtknineilpenbnaaDoor
