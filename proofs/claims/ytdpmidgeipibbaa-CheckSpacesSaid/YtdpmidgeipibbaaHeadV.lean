/- Headers of objects, in plain Lean: which may be, their words, and back. -/
import Derived.Test.YtdpmidgeipibbaaBitsV
set_option linter.unusedVariables false
set_option linter.unusedSimpArgs false
set_option maxHeartbeats 4000000
namespace Go.Proofs.Ytdpmidgeipibbaa
open Go.Sh Go.RowKit

abbrev hd (p b : Int) (m : Bool) (t : Int) : Value := .agg #[i64 p, i64 b, .bool m, i64 t]
def rightP (p b : Int) (m : Bool) (t : Int) : Prop := (m = true ∧ p = 0 ∧ b = 0 ∧ 0 ≤ t ∧ t < 8192) ∨ (m = false ∧ t = 0 ∧ 0 ≤ p ∧ p ≤ 64 ∧ 0 ≤ b ∧ b ≤ 1024)
instance (p b : Int) (m : Bool) (t : Int) : Decidable (rightP p b m t) := by unfold rightP; infer_instance
def rightV (p b : Int) (m : Bool) (t : Int) : Bool := decide (rightP p b m t)
theorem right_t {p b t : Int} : rightP p b true t ↔ p = 0 ∧ b = 0 ∧ 0 ≤ t ∧ t < 8192 := by simp [rightP]
theorem right_f {p b t : Int} : rightP p b false t ↔ t = 0 ∧ 0 ≤ p ∧ p ≤ 64 ∧ 0 ≤ b ∧ b ≤ 1024 := by simp [rightP]
def packI (p b : Int) (m : Bool) (t : Int) : Int := if m then 9223372036854775809 + t * 4294967296 else 9223372036854775808 + p * 2 + b * 65536
def packW (p b : Int) (m : Bool) (t : Int) : BitVec 64 := if rightP p b m t then BitVec.ofInt 64 (packI p b m t) else BitVec.ofNat 64 0
def packE (p b : Int) (m : Bool) (t : Int) : Int := if rightP p b m t then 0 else 1
theorem ofInt_nat {n : Int} (h0 : 0 ≤ n) (h1 : n < 18446744073709551616) : ((BitVec.ofInt 64 n).toNat : Int) = n := by
  rw [BitVec.toNat_ofInt]; omega
theorem pack_with_m {t : Int} (h : 0 ≤ t ∧ t < 8192) : withB (BitVec.ofNat 64 9223372036854775808 ||| BitVec.ofNat 64 1) 32 16 (BitVec.ofInt 64 t) = BitVec.ofInt 64 (9223372036854775809 + t * 4294967296) := by
  have h1 : (withB _ 32 16 (BitVec.ofInt 64 t)).toNat + _ = _ := with_nat (BitVec.ofNat 64 9223372036854775808 ||| BitVec.ofNat 64 1) (BitVec.ofInt 64 t) (a := 32) (n := 16) (by decide) (by decide)
  have h2 := ofInt_nat (n := t) (by omega) (by omega)
  have h3 := ofInt_nat (n := 9223372036854775809 + t * 4294967296) (by omega) (by omega)
  have h4 : (BitVec.ofNat 64 9223372036854775808 ||| BitVec.ofNat 64 1).toNat = 9223372036854775809 := by decide
  rw [h4] at h1
  apply BitVec.eq_of_toNat_eq
  omega
theorem pack_with_n {p b : Int} (h : 0 ≤ p ∧ p ≤ 64) (h' : 0 ≤ b ∧ b ≤ 1024) : withB (withB (BitVec.ofNat 64 9223372036854775808) 1 8 (BitVec.ofInt 64 p)) 16 12 (BitVec.ofInt 64 b) = BitVec.ofInt 64 (9223372036854775808 + p * 2 + b * 65536) := by
  have h1 : (withB _ 1 8 (BitVec.ofInt 64 p)).toNat + _ = _ := with_nat (BitVec.ofNat 64 9223372036854775808) (BitVec.ofInt 64 p) (a := 1) (n := 8) (by decide) (by decide)
  have h2 : (withB _ 16 12 (BitVec.ofInt 64 b)).toNat + _ = _ := with_nat (withB (BitVec.ofNat 64 9223372036854775808) 1 8 (BitVec.ofInt 64 p)) (BitVec.ofInt 64 b) (a := 16) (n := 12) (by decide) (by decide)
  have h3 := ofInt_nat (n := p) (by omega) (by omega)
  have h4 := ofInt_nat (n := b) (by omega) (by omega)
  have h5 := ofInt_nat (n := 9223372036854775808 + p * 2 + b * 65536) (by omega) (by omega)
  have h6 : (BitVec.ofNat 64 9223372036854775808).toNat = 9223372036854775808 := by decide
  rw [h6] at h1
  apply BitVec.eq_of_toNat_eq
  omega
theorem pack_add_m {t : Int} (h : 0 ≤ t ∧ t < 8192) : BitVec.ofNat 64 9223372036854775808 + BitVec.ofNat 64 1 + BitVec.ofInt 64 t <<< (BitVec.ofNat 64 32).toNat = BitVec.ofInt 64 (9223372036854775809 + t * 4294967296) := by
  have h2 := ofInt_nat (n := t) (by omega) (by omega)
  have h3 := ofInt_nat (n := 9223372036854775809 + t * 4294967296) (by omega) (by omega)
  have h6 : (BitVec.ofNat 64 9223372036854775808 + BitVec.ofNat 64 1).toNat = 9223372036854775809 := by decide
  have h7 : (BitVec.ofNat 64 32).toNat = 32 := by decide
  apply BitVec.eq_of_toNat_eq
  rw [BitVec.toNat_add, h6, BitVec.toNat_shiftLeft, h7, Nat.shiftLeft_eq]
  omega
theorem pack_add_n {p b : Int} (h : 0 ≤ p ∧ p ≤ 64) (h' : 0 ≤ b ∧ b ≤ 1024) : BitVec.ofNat 64 9223372036854775808 + BitVec.ofInt 64 p <<< (BitVec.ofNat 64 1).toNat + BitVec.ofInt 64 b <<< (BitVec.ofNat 64 16).toNat = BitVec.ofInt 64 (9223372036854775808 + p * 2 + b * 65536) := by
  have h3 := ofInt_nat (n := p) (by omega) (by omega)
  have h4 := ofInt_nat (n := b) (by omega) (by omega)
  have h5 := ofInt_nat (n := 9223372036854775808 + p * 2 + b * 65536) (by omega) (by omega)
  have h6 : (BitVec.ofNat 64 9223372036854775808).toNat = 9223372036854775808 := by decide
  have h7 : (BitVec.ofNat 64 1).toNat = 1 := by decide
  have h8 : (BitVec.ofNat 64 16).toNat = 16 := by decide
  apply BitVec.eq_of_toNat_eq
  rw [BitVec.toNat_add, BitVec.toNat_add, h6, BitVec.toNat_shiftLeft, BitVec.toNat_shiftLeft, h7, h8, Nat.shiftLeft_eq, Nat.shiftLeft_eq]
  omega

/-! a word as a header -/
def uM (x : BitVec 64) : Bool := decide (x.toNat % 2 = 1)
def uP (x : BitVec 64) : Int := if uM x then 0 else (x.toNat / 2 % 256 : Nat)
def uB (x : BitVec 64) : Int := if uM x then 0 else (x.toNat / 65536 % 4096 : Nat)
def uT (x : BitVec 64) : Int := if uM x then (x.toNat / 4294967296 % 65536 : Nat) else 0
def isHead (x : BitVec 64) : Prop := rightP (uP x) (uB x) (uM x) (uT x) ∧ packW (uP x) (uB x) (uM x) (uT x) = x
instance (x : BitVec 64) : Decidable (isHead x) := by unfold isHead; infer_instance
def vP (x : BitVec 64) : Int := if isHead x then uP x else 0
def vB (x : BitVec 64) : Int := if isHead x then uB x else 0
def vM (x : BitVec 64) : Bool := if isHead x then uM x else false
def vT (x : BitVec 64) : Int := if isHead x then uT x else 0
def unErr (x : BitVec 64) : Int := if isHead x then 0 else 2
theorem low_one (x : BitVec 64) : (x &&& BitVec.ofNat 64 1 = BitVec.ofNat 64 1) ↔ uM x = true := by
  unfold uM
  rw [← BitVec.toNat_inj, BitVec.toNat_and, show (BitVec.ofNat 64 1).toNat = 2 ^ 1 - 1 by decide, Nat.and_two_pow_sub_one_eq_mod]
  simp
theorem small_int {x : BitVec 64} (h : x.toNat < 1000000) : x.toInt = (x.toNat : Int) := BitVec.toInt_eq_toNat_of_lt (by omega)
theorem field_1 (x : BitVec 64) : (fieldB x 1 8).toInt = (x.toNat / 2 % 256 : Nat) := by
  have h : (fieldB x 1 8).toNat = _ := field_nat x (a := 1) (n := 8) (by decide) (by decide)
  rw [small_int (by omega), h]
theorem field_16 (x : BitVec 64) : (fieldB x 16 12).toInt = (x.toNat / 65536 % 4096 : Nat) := by
  have h : (fieldB x 16 12).toNat = _ := field_nat x (a := 16) (n := 12) (by decide) (by decide)
  rw [small_int (by omega), h]
theorem field_32 (x : BitVec 64) : (fieldB x 32 16).toInt = (x.toNat / 4294967296 % 65536 : Nat) := by
  have h : (fieldB x 32 16).toNat = _ := field_nat x (a := 32) (n := 16) (by decide) (by decide)
  rw [small_int (by omega), h]
theorem packI_in {p b t : Int} {m : Bool} (h : rightP p b m t) : 0 ≤ packI p b m t ∧ packI p b m t < 18446744073709551616 := by
  unfold packI
  cases m
  · rw [right_f] at h; simp; omega
  · rw [right_t] at h; simp; omega
theorem packW_nat {p b t : Int} {m : Bool} (h : rightP p b m t) : ((packW p b m t).toNat : Int) = packI p b m t := by
  unfold packW
  rw [if_pos h, ofInt_nat (packI_in h).1 (packI_in h).2]
theorem un_pack {p b t : Int} {m : Bool} (h : rightP p b m t) : uP (packW p b m t) = p ∧ uB (packW p b m t) = b ∧ uM (packW p b m t) = m ∧ uT (packW p b m t) = t := by
  have hn := packW_nat h
  unfold packI at hn
  cases m
  · rw [right_f] at h
    simp only [Bool.false_eq_true, if_false] at hn
    have hm : uM (packW p b false t) = false := by unfold uM; rw [decide_eq_false]; omega
    refine ⟨?_, ?_, hm, ?_⟩
    · unfold uP; rw [hm]; simp; omega
    · unfold uB; rw [hm]; simp; omega
    · unfold uT; rw [hm]; simp; omega
  · rw [right_t] at h
    simp only [if_true] at hn
    have hm : uM (packW p b true t) = true := by unfold uM; rw [decide_eq_true]; omega
    refine ⟨?_, ?_, hm, ?_⟩
    · unfold uP; rw [hm]; simp; omega
    · unfold uB; rw [hm]; simp; omega
    · unfold uT; rw [hm]; simp; omega
theorem un_pack_is {p b t : Int} {m : Bool} (h : rightP p b m t) : isHead (packW p b m t) := by
  obtain ⟨h1, h2, h3, h4⟩ := un_pack h
  unfold isHead
  rw [h1, h2, h3, h4]
  exact ⟨h, rfl⟩
end Go.Proofs.Ytdpmidgeipibbaa
