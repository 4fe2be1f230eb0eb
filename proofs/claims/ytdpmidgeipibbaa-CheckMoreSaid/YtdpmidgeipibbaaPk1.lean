/- Fields of words, in plain Lean: what is taken and put, as numbers. Headers of objects, in plain Lean: which may be, their words, and back. Signs, fields, turns, in plain Lean. Numbers in bytes, in plain Lean. What the functions on bits compute. What the functions on headers compute. What a word is as a header, walked. The small example of the statements on bits; and the statements on numbers alone, walked. What the reference's functions on bytes compute. Words and their bytes, in plain Lean. What the functions on words compute. Rows of bytes of one's own (sq). Rows of words of one's own (sq). Objects one behind the other: what places are (sq). What the functions on spaces compute (sq). Walking over a space, emptying it, its twin (sq). What the functions on objects compute, where all is well (sq). What it is for objects to be well (sq). What is wrong in words that should be objects (sq). Looking at words that should be objects: what the program finds (sq). Looking at words that should be objects: all of them (sq). Looking at words that should be objects: each object, and a space (sq). Looking at spaces and images: what the program finds (sq). Looking at images without names (sq). The document's spaces, walked (sq). Words moved; the small example of the statements on words. Words moved, whichever way they lie on each other: the walk. Any calls on words, walked (sq). The document's word on whether objects are well (sq). The document's findings in words that should be objects (sq). What the statements on spaces call (sq). A space out of words, or none (sq). -/
import Derived.Test.YtdpmidgeipibbaaRules
import Derived.Test.YtdpmidgeipibbaaEng11
import Derived.Test.YtdpmidgeipibbaaEng14
import Derived.Test.YtdpmidgeipibbaaEng15
section
set_option linter.unusedVariables false
set_option linter.unusedSimpArgs false
set_option maxHeartbeats 4000000
namespace Go.Proofs.Ytdpmidgeipibbaa
open Go.Sh Go.RowKit

abbrev i64 (n : Int) : Value := .int .i64 n
def ones (n : Nat) : BitVec 64 := BitVec.allOnes 64 >>> (64 - n)
theorem ones_nat {n : Nat} (hn : n ≤ 64) : (ones n).toNat = 2 ^ n - 1 := by
  unfold ones
  rw [BitVec.toNat_ushiftRight, BitVec.toNat_allOnes, Nat.shiftRight_eq_div_pow]
  have h : 2 ^ 64 = 2 ^ n * 2 ^ (64 - n) := by rw [← Nat.pow_add]; congr 1; omega
  have hp : 0 < 2 ^ (64 - n) := Nat.pow_pos (by decide)
  have hq : 0 < 2 ^ n := Nat.pow_pos (by decide)
  rw [h]
  have e : 2 ^ n * 2 ^ (64 - n) - 1 = (2 ^ n - 1) * 2 ^ (64 - n) + (2 ^ (64 - n) - 1) := by
    obtain ⟨k, hk⟩ := Nat.exists_eq_add_of_lt hq
    obtain ⟨j, hj⟩ := Nat.exists_eq_add_of_lt hp
    rw [hk, hj]; simp only [Nat.zero_add, Nat.add_sub_cancel, Nat.add_mul, Nat.one_mul]; omega
  rw [e, Nat.add_comm, Nat.add_mul_div_right _ _ hp, Nat.div_eq_of_lt (by omega)]
  simp
/-- n ones from a bit on -/
def maskB (a n : Int) : BitVec 64 := (BitVec.ofNat 64 18446744073709551615 >>> (64 - n).toNat) <<< a.toNat
def maskOk (a n : Int) : Prop := 0 ≤ a ∧ a < 64 ∧ 1 ≤ n ∧ n ≤ 64 - a
instance (a n : Int) : Decidable (maskOk a n) := by unfold maskOk; infer_instance
def fieldB (x : BitVec 64) (a n : Int) : BitVec 64 := if maskOk a n then (x &&& maskB a n) >>> a.toNat else 0
def withB (x : BitVec 64) (a n : Int) (v : BitVec 64) : BitVec 64 := if maskOk a n then (x &&& ~~~maskB a n) ||| (v <<< a.toNat &&& maskB a n) else x
theorem maskB_eq (a n : Int) : maskB a n = ones n.toNat <<< a.toNat := by
  unfold maskB ones
  rw [show BitVec.ofNat 64 18446744073709551615 = BitVec.allOnes 64 by decide]
  by_cases h : 0 ≤ n
  · congr 2; omega
  · have e1 : (BitVec.allOnes 64) >>> (64 - n).toNat = 0#64 := by
      rw [BitVec.ushiftRight_eq_zero (by omega)]
    have e2 : (BitVec.allOnes 64) >>> (64 - n.toNat) = 0#64 := by
      rw [BitVec.ushiftRight_eq_zero (by omega)]
    rw [e1, e2]
theorem field_form (x : BitVec 64) {a n : Nat} (h : a + n ≤ 64) : (x &&& (ones n <<< a)) >>> a = (x >>> a) &&& ones n := by
  apply BitVec.eq_of_getLsbD_eq
  intro i hi
  simp only [BitVec.getLsbD_ushiftRight, BitVec.getLsbD_and, BitVec.getLsbD_shiftLeft]
  by_cases h1 : a + i < 64
  · have h2 : ¬ a + i < a := by omega
    simp [h1, h2]
  · have : x.getLsbD (a + i) = false := BitVec.getLsbD_of_ge _ _ (by omega)
    simp [this]
theorem and_ones_nat (x : BitVec 64) {n : Nat} (h : n ≤ 64) : (x &&& ones n).toNat = x.toNat % 2 ^ n := by
  rw [BitVec.toNat_and, ones_nat h, Nat.and_two_pow_sub_one_eq_mod]
theorem field_nat (x : BitVec 64) {a n : Nat} (h0 : 1 ≤ n) (h : a + n ≤ 64) : (fieldB x a n).toNat = x.toNat / 2 ^ a % 2 ^ n := by
  have hm : maskOk a n := ⟨by omega, by omega, by omega, by omega⟩
  unfold fieldB
  rw [if_pos hm, maskB_eq, Int.toNat_natCast, Int.toNat_natCast, field_form x h, and_ones_nat _ (by omega), BitVec.toNat_ushiftRight, Nat.shiftRight_eq_div_pow]
theorem put_form (v : BitVec 64) {a n : Nat} (h : a + n ≤ 64) : (v <<< a) &&& (ones n <<< a) = (v &&& ones n) <<< a := by
  apply BitVec.eq_of_getLsbD_eq
  intro i hi
  simp only [BitVec.getLsbD_and, BitVec.getLsbD_shiftLeft]
  cases decide (i < 64) <;> cases decide (i < a) <;> simp
theorem shl_nat (v : BitVec 64) {a n : Nat} (h : a + n ≤ 64) : ((v &&& ones n) <<< a).toNat = v.toNat % 2 ^ n * 2 ^ a := by
  rw [BitVec.toNat_shiftLeft, and_ones_nat v (by omega), Nat.shiftLeft_eq, Nat.mod_eq_of_lt]
  have h1 : v.toNat % 2 ^ n < 2 ^ n := Nat.mod_lt _ (Nat.pow_pos (by decide))
  calc v.toNat % 2 ^ n * 2 ^ a < 2 ^ n * 2 ^ a := (Nat.mul_lt_mul_right (Nat.pow_pos (by decide))).2 h1
    _ = 2 ^ (a + n) := by rw [← Nat.pow_add, Nat.add_comm]
    _ ≤ 2 ^ 64 := Nat.pow_le_pow_right (by decide) h
theorem at_form (x : BitVec 64) {a n : Nat} (h : a + n ≤ 64) : x &&& (ones n <<< a) = ((x >>> a) &&& ones n) <<< a := by
  apply BitVec.eq_of_getLsbD_eq
  intro i hi
  simp only [BitVec.getLsbD_and, BitVec.getLsbD_shiftLeft, BitVec.getLsbD_ushiftRight]
  by_cases h1 : i < a
  · simp [h1]
  · rw [show a + (i - a) = i by omega]; simp [h1, hi]
theorem or_nat {x y : BitVec 64} (h : x &&& y = 0#64) : (x ||| y).toNat = x.toNat + y.toNat := by
  rw [← BitVec.add_eq_or_of_and_eq_zero x y h, BitVec.toNat_add_of_and_eq_zero h]
theorem split_nat (x m : BitVec 64) : (x &&& ~~~m).toNat + (x &&& m).toNat = x.toNat := by
  have hd : (x &&& ~~~m) &&& (x &&& m) = 0#64 := by
    apply BitVec.eq_of_getLsbD_eq
    intro i hi
    simp only [BitVec.getLsbD_and, BitVec.getLsbD_not, BitVec.getLsbD_zero]
    cases x.getLsbD i <;> cases m.getLsbD i <;> simp
  have ho : (x &&& ~~~m) ||| (x &&& m) = x := by
    apply BitVec.eq_of_getLsbD_eq
    intro i hi
    simp only [BitVec.getLsbD_and, BitVec.getLsbD_not, BitVec.getLsbD_or]
    cases x.getLsbD i <;> cases m.getLsbD i <;> simp [hi]
  have := or_nat hd
  rw [ho] at this
  exact this.symm
theorem with_nat (x v : BitVec 64) {a n : Nat} (h0 : 1 ≤ n) (h : a + n ≤ 64) : (withB x a n v).toNat + x.toNat / 2 ^ a % 2 ^ n * 2 ^ a = x.toNat + v.toNat % 2 ^ n * 2 ^ a := by
  have hm : maskOk a n := ⟨by omega, by omega, by omega, by omega⟩
  unfold withB
  rw [if_pos hm, maskB_eq, Int.toNat_natCast, Int.toNat_natCast]
  have hd : (x &&& ~~~(ones n <<< a)) &&& (v <<< a &&& ones n <<< a) = 0#64 := by
    apply BitVec.eq_of_getLsbD_eq
    intro i hi
    simp only [BitVec.getLsbD_and, BitVec.getLsbD_not, BitVec.getLsbD_zero]
    cases (ones n <<< a).getLsbD i <;> simp
  rw [or_nat hd, put_form v h, shl_nat v h]
  have h1 := split_nat x (ones n <<< a)
  rw [at_form x h, shl_nat _ h, BitVec.toNat_ushiftRight, Nat.shiftRight_eq_div_pow] at h1
  omega
end Go.Proofs.Ytdpmidgeipibbaa
end
section
set_option linter.unusedVariables false
set_option linter.unusedSimpArgs false
set_option maxHeartbeats 4000000
namespace Go.Proofs.Ytdpmidgeipibbaa
open Go.Sh Go.RowKit

abbrev hd (p b : Int) (m : Bool) (t : Int) : Value := .agg #[i64 p, i64 b, .bool m, i64 t]
def rightP (p b : Int) (m : Bool) (t : Int) : Prop := (m = true ∧ p = 0 ∧ b = 0 ∧ 0 ≤ t ∧ t < 8192) ∨ (m = false ∧ t = 0 ∧ 0 ≤ p ∧ p ≤ 64 ∧ 0 ≤ b ∧ b ≤ 1024)
instance (p b : Int) (m : Bool) (t : Int) : Decidable (rightP p b m t) := by unfold rightP; infer_instance
def rightV (p b : Int) (m : Bool) (t : Int) : Bool := decide (rightP p b m t)
theorem right_t {p b t : Int} : rightP p b true t ↔ p = 0 ∧ b = 0 ∧ 0 ≤ t ∧ t < 8192 := by simp [rightP]
theorem right_f {p b t : Int} : rightP p b false t ↔ t = 0 ∧ 0 ≤ p ∧ p ≤ 64 ∧ 0 ≤ b ∧ b ≤ 1024 := by simp [rightP]
def packI (p b : Int) (m : Bool) (t : Int) : Int := if m then 9223372036854775809 + t * 4294967296 else 9223372036854775808 + p * 2 + b * 65536
def packW (p b : Int) (m : Bool) (t : Int) : BitVec 64 := if rightP p b m t then BitVec.ofInt 64 (packI p b m t) else BitVec.ofNat 64 0
def packE (p b : Int) (m : Bool) (t : Int) : Int := if rightP p b m t then 0 else 1
theorem ofInt_nat {n : Int} (h0 : 0 ≤ n) (h1 : n < 18446744073709551616) : ((BitVec.ofInt 64 n).toNat : Int) = n := by
  rw [BitVec.toNat_ofInt]; omega
theorem pack_with_m {t : Int} (h : 0 ≤ t ∧ t < 8192) : withB (BitVec.ofNat 64 9223372036854775808 ||| BitVec.ofNat 64 1) 32 16 (BitVec.ofInt 64 t) = BitVec.ofInt 64 (9223372036854775809 + t * 4294967296) := by
  have h1 : (withB _ 32 16 (BitVec.ofInt 64 t)).toNat + _ = _ := with_nat (BitVec.ofNat 64 9223372036854775808 ||| BitVec.ofNat 64 1) (BitVec.ofInt 64 t) (a := 32) (n := 16) (by decide) (by decide)
  have h2 := ofInt_nat (n := t) (by omega) (by omega)
  have h3 := ofInt_nat (n := 9223372036854775809 + t * 4294967296) (by omega) (by omega)
  have h4 : (BitVec.ofNat 64 9223372036854775808 ||| BitVec.ofNat 64 1).toNat = 9223372036854775809 := by decide
  rw [h4] at h1
  apply BitVec.eq_of_toNat_eq
  omega
theorem pack_with_n {p b : Int} (h : 0 ≤ p ∧ p ≤ 64) (h' : 0 ≤ b ∧ b ≤ 1024) : withB (withB (BitVec.ofNat 64 9223372036854775808) 1 8 (BitVec.ofInt 64 p)) 16 12 (BitVec.ofInt 64 b) = BitVec.ofInt 64 (9223372036854775808 + p * 2 + b * 65536) := by
  have h1 : (withB _ 1 8 (BitVec.ofInt 64 p)).toNat + _ = _ := with_nat (BitVec.ofNat 64 9223372036854775808) (BitVec.ofInt 64 p) (a := 1) (n := 8) (by decide) (by decide)
  have h2 : (withB _ 16 12 (BitVec.ofInt 64 b)).toNat + _ = _ := with_nat (withB (BitVec.ofNat 64 9223372036854775808) 1 8 (BitVec.ofInt 64 p)) (BitVec.ofInt 64 b) (a := 16) (n := 12) (by decide) (by decide)
  have h3 := ofInt_nat (n := p) (by omega) (by omega)
  have h4 := ofInt_nat (n := b) (by omega) (by omega)
  have h5 := ofInt_nat (n := 9223372036854775808 + p * 2 + b * 65536) (by omega) (by omega)
  have h6 : (BitVec.ofNat 64 9223372036854775808).toNat = 9223372036854775808 := by decide
  rw [h6] at h1
  apply BitVec.eq_of_toNat_eq
  omega
theorem pack_add_m {t : Int} (h : 0 ≤ t ∧ t < 8192) : BitVec.ofNat 64 9223372036854775808 + BitVec.ofNat 64 1 + BitVec.ofInt 64 t <<< (BitVec.ofNat 64 32).toNat = BitVec.ofInt 64 (9223372036854775809 + t * 4294967296) := by
  have h2 := ofInt_nat (n := t) (by omega) (by omega)
  have h3 := ofInt_nat (n := 9223372036854775809 + t * 4294967296) (by omega) (by omega)
  have h6 : (BitVec.ofNat 64 9223372036854775808 + BitVec.ofNat 64 1).toNat = 9223372036854775809 := by decide
  have h7 : (BitVec.ofNat 64 32).toNat = 32 := by decide
  apply BitVec.eq_of_toNat_eq
  rw [BitVec.toNat_add, h6, BitVec.toNat_shiftLeft, h7, Nat.shiftLeft_eq]
  omega
theorem pack_add_n {p b : Int} (h : 0 ≤ p ∧ p ≤ 64) (h' : 0 ≤ b ∧ b ≤ 1024) : BitVec.ofNat 64 9223372036854775808 + BitVec.ofInt 64 p <<< (BitVec.ofNat 64 1).toNat + BitVec.ofInt 64 b <<< (BitVec.ofNat 64 16).toNat = BitVec.ofInt 64 (9223372036854775808 + p * 2 + b * 65536) := by
  have h3 := ofInt_nat (n := p) (by omega) (by omega)
  have h4 := ofInt_nat (n := b) (by omega) (by omega)
  have h5 := ofInt_nat (n := 9223372036854775808 + p * 2 + b * 65536) (by omega) (by omega)
  have h6 : (BitVec.ofNat 64 9223372036854775808).toNat = 9223372036854775808 := by decide
  have h7 : (BitVec.ofNat 64 1).toNat = 1 := by decide
  have h8 : (BitVec.ofNat 64 16).toNat = 16 := by decide
  apply BitVec.eq_of_toNat_eq
  rw [BitVec.toNat_add, BitVec.toNat_add, h6, BitVec.toNat_shiftLeft, BitVec.toNat_shiftLeft, h7, h8, Nat.shiftLeft_eq, Nat.shiftLeft_eq]
  omega

/-! a word as a header -/
def uM (x : BitVec 64) : Bool := decide (x.toNat % 2 = 1)
def uP (x : BitVec 64) : Int := if uM x then 0 else (x.toNat / 2 % 256 : Nat)
def uB (x : BitVec 64) : Int := if uM x then 0 else (x.toNat / 65536 % 4096 : Nat)
def uT (x : BitVec 64) : Int := if uM x then (x.toNat / 4294967296 % 65536 : Nat) else 0
def isHead (x : BitVec 64) : Prop := rightP (uP x) (uB x) (uM x) (uT x) ∧ packW (uP x) (uB x) (uM x) (uT x) = x
instance (x : BitVec 64) : Decidable (isHead x) := by unfold isHead; infer_instance
def vP (x : BitVec 64) : Int := if isHead x then uP x else 0
def vB (x : BitVec 64) : Int := if isHead x then uB x else 0
def vM (x : BitVec 64) : Bool := if isHead x then uM x else false
def vT (x : BitVec 64) : Int := if isHead x then uT x else 0
def unErr (x : BitVec 64) : Int := if isHead x then 0 else 2
theorem low_one (x : BitVec 64) : (x &&& BitVec.ofNat 64 1 = BitVec.ofNat 64 1) ↔ uM x = true := by
  unfold uM
  rw [← BitVec.toNat_inj, BitVec.toNat_and, show (BitVec.ofNat 64 1).toNat = 2 ^ 1 - 1 by decide, Nat.and_two_pow_sub_one_eq_mod]
  simp
theorem small_int {x : BitVec 64} (h : x.toNat < 1000000) : x.toInt = (x.toNat : Int) := BitVec.toInt_eq_toNat_of_lt (by omega)
theorem field_1 (x : BitVec 64) : (fieldB x 1 8).toInt = (x.toNat / 2 % 256 : Nat) := by
  have h : (fieldB x 1 8).toNat = _ := field_nat x (a := 1) (n := 8) (by decide) (by decide)
  rw [small_int (by omega), h]
theorem field_16 (x : BitVec 64) : (fieldB x 16 12).toInt = (x.toNat / 65536 % 4096 : Nat) := by
  have h : (fieldB x 16 12).toNat = _ := field_nat x (a := 16) (n := 12) (by decide) (by decide)
  rw [small_int (by omega), h]
theorem field_32 (x : BitVec 64) : (fieldB x 32 16).toInt = (x.toNat / 4294967296 % 65536 : Nat) := by
  have h : (fieldB x 32 16).toNat = _ := field_nat x (a := 32) (n := 16) (by decide) (by decide)
  rw [small_int (by omega), h]
theorem packI_in {p b t : Int} {m : Bool} (h : rightP p b m t) : 0 ≤ packI p b m t ∧ packI p b m t < 18446744073709551616 := by
  unfold packI
  cases m
  · rw [right_f] at h; simp; omega
  · rw [right_t] at h; simp; omega
theorem packW_nat {p b t : Int} {m : Bool} (h : rightP p b m t) : ((packW p b m t).toNat : Int) = packI p b m t := by
  unfold packW
  rw [if_pos h, ofInt_nat (packI_in h).1 (packI_in h).2]
theorem un_pack {p b t : Int} {m : Bool} (h : rightP p b m t) : uP (packW p b m t) = p ∧ uB (packW p b m t) = b ∧ uM (packW p b m t) = m ∧ uT (packW p b m t) = t := by
  have hn := packW_nat h
  unfold packI at hn
  cases m
  · rw [right_f] at h
    simp only [Bool.false_eq_true, if_false] at hn
    have hm : uM (packW p b false t) = false := by unfold uM; rw [decide_eq_false]; omega
    refine ⟨?_, ?_, hm, ?_⟩
    · unfold uP; rw [hm]; simp; omega
    · unfold uB; rw [hm]; simp; omega
    · unfold uT; rw [hm]; simp; omega
  · rw [right_t] at h
    simp only [if_true] at hn
    have hm : uM (packW p b true t) = true := by unfold uM; rw [decide_eq_true]; omega
    refine ⟨?_, ?_, hm, ?_⟩
    · unfold uP; rw [hm]; simp; omega
    · unfold uB; rw [hm]; simp; omega
    · unfold uT; rw [hm]; simp; omega
theorem un_pack_is {p b t : Int} {m : Bool} (h : rightP p b m t) : isHead (packW p b m t) := by
  obtain ⟨h1, h2, h3, h4⟩ := un_pack h
  unfold isHead
  rw [h1, h2, h3, h4]
  exact ⟨h, rfl⟩
end Go.Proofs.Ytdpmidgeipibbaa
end
section
set_option linter.unusedVariables false
set_option linter.unusedSimpArgs false
set_option maxHeartbeats 4000000
namespace Go.Proofs.Ytdpmidgeipibbaa
open Go.Sh Go.RowKit

/-! signs -/
/-! fields by their bits -/
/-! turns -/
end Go.Proofs.Ytdpmidgeipibbaa
end
section
set_option linter.unusedVariables false
set_option linter.unusedSimpArgs false
set_option maxHeartbeats 4000000
namespace Go.Proofs.Ytdpmidgeipibbaa
open Go.Sh Go.RowKit

def inside (at' n size : Int) : Prop := 1 ≤ n ∧ n ≤ 8 ∧ 0 ≤ at' ∧ n ≤ size ∧ at' ≤ size - n
instance (at' n size : Int) : Decidable (inside at' n size) := by unfold inside; infer_instance
end Go.Proofs.Ytdpmidgeipibbaa
end
section
set_option linter.unusedVariables false
set_option linter.unusedSimpArgs false
set_option maxHeartbeats 4000000
namespace Go.Proofs.Ytdpmidgeipibbaa
open Go.Sh Go.RowKit

abbrev rsBitsW_0 := (And.intro @xBox_r (And.intro @loadK_some (And.intro @loadsK_s (And.intro @loadsK_n (And.intro @loadsR_s (And.intro @loadsR_n (And.intro @storesK_s (And.intro @storesK_n (And.intro @xPick_t (And.intro @xPick_f (And.intro @xGuard_tt (And.intro @xGuard_ff (And.intro @xGuard_tf (And.intro @xGuard_ft (And.intro @xGuard_u 
  (And.intro @xNil_r (And.intro @xIf_t (And.intro @xBin_add' (And.intro @xBin_sub' (And.intro @xBin_mul' (And.intro @xBin_quo' (And.intro @xBin_rem' (And.intro @xIf_f (And.intro @xIf_tt (And.intro @xEx0 (And.intro @xEx1 (And.intro @xEx2 (And.intro @xEx3 (And.intro @xBin_eqs (And.intro @xBin_nes (And.intro @xUn_not (And.intro @xu8_sub (And.intro @xu8_shl 
  (And.intro @xu8_shr (And.intro @xu8_lss (And.intro @xu8_gtr (And.intro @xu8_geq (And.intro @xu16_sub (And.intro @xu16_shl (And.intro @xu16_shr (And.intro @xu16_lss (And.intro @xu16_gtr (And.intro @xu16_geq (And.intro @xu32_sub (And.intro @xu32_shl (And.intro @xu32_shr (And.intro @xu32_lss (And.intro @xu32_gtr (And.intro @xu32_geq (And.intro @xu64_sub 
  (And.intro @xu64_shl (And.intro @xu64_shr (And.intro @xu64_lss (And.intro @xu64_gtr (And.intro @xu64_geq (And.intro @xi64_lss (And.intro @xi64_gtr (And.intro @xi64_geq (And.intro @xi64_shl (And.intro @xi64_shr (And.intro @xMakeFunc_r (And.intro @xSq_r (And.intro @xPur_s (And.intro @xRd_s (And.intro @xRe_s (And.intro @xDet_s (And.intro @xDet_ld 
  (And.intro @xDet_ld2 (And.intro @xDet_ld3 (And.intro @xDet_ld4 @xGuard_tt))))))))))))))))))))))))))))))))))))))))))))))))))))))))))))))))))))))
abbrev rsBitsW_1 := (And.intro @setCells_c (And.intro @setCells_n (And.intro @World.setCell_alloc_at (And.intro @World.setCell_alloc_past (And.intro @World.cell?_alloc_at (And.intro @World.cell?_alloc_past (And.intro @World.frozen?_alloc_at (And.intro @World.frozen?_alloc_past 
  (And.intro @World.size_alloc (And.intro @dlt_t (And.intro @dlt_f (And.intro @dle_t (And.intro @dle_f (And.intro @deq_t (And.intro @deq_f (And.intro @dne_t (And.intro @dne_f (And.intro @not_true_eq_false (And.intro @Bool.false_and (And.intro @Bool.true_and (And.intro @Bool.and_true (And.intro @Bool.and_false (And.intro @wrap_in (And.intro @Int.toNat_natCast 
  (And.intro @Nat.mul_one (And.intro @cells_int (And.intro @cells_bool (And.intro @cells_string (And.intro @cells_slice (And.intro @cells_pointer (And.intro @cells_agg (And.intro @one_int (And.intro @one_bool (And.intro @one_string (And.intro @one_slice (And.intro @one_pointer (And.intro @beq_tt (And.intro @beq_ff (And.intro @beq_tf 
  (And.intro @beq_ft (And.intro @cell_sets_b (And.intro @frozen_sets (And.intro @size_sets (And.intro @World.size_drew (And.intro @Nat.zero_add (And.intro @Nat.add_zero (And.intro @cell_drew (And.intro @frozen_drew (And.intro @cell_set_eq (And.intro @cell_set_o (And.intro @cell_set_b (And.intro @World.frozen?_setCell 
  (And.intro @decide_true (And.intro @decide_false (And.intro @not_false_eq_true (And.intro @Bool.not_true @Bool.not_false))))))))))))))))))))))))))))))))))))))))))))))))))))))))
theorem mask_spec (a n : Int) (w : World) : Gives Try.prog n_bits_mask #[i64 a, i64 n] w (.tuple #[.int .u64 ((if maskOk a n then maskB a n else BitVec.ofNat 64 0).toNat : Int), .bool (decide (maskOk a n))]) := by
  refine bits_mask_of ?_
  unfold bits_mask
  simp (disch := (first | omega | decide | (simp only [World.size_alloc, World.size_setCell, World.size_drew, size_sets, List.mem_cons, List.not_mem_nil, or_false, not_false_eq_true] <;> omega) | fail)) only [↓rsBitsW_0, rsBitsW_1, Option.isNone_some, Option.isNone_none, tick_eq, tickV_eq, ne_eq, Int.reduceAdd, Int.reduceSub, Int.reduceMul, Int.reduceEq, Int.reduceLT, Int.reduceLE, Int.reduceToNat, Nat.reduceMul, Nat.reduceAdd, Nat.reduceSub, List.nil_append, List.cons_append, List.getElem?_toArray, List.getElem?_cons_zero, List.getElem?_cons_succ, List.setIfInBounds_toArray, List.set_cons_zero, List.set_cons_succ, Option.map_some, List.not_mem_nil, ←decide_not, eq_self]
  by_cases g1 : a < 0
  · have hv : ¬ maskOk a n := by unfold maskOk; omega
    simp (disch := (first | omega | decide | (simp only [World.size_alloc, World.size_setCell, World.size_drew, size_sets, List.mem_cons, List.not_mem_nil, or_false, not_false_eq_true] <;> omega) | fail)) only [↓rsBitsW_0, rsBitsW_1, Option.isNone_some, Option.isNone_none, tick_eq, tickV_eq, ne_eq, Int.reduceAdd, Int.reduceSub, Int.reduceMul, Int.reduceEq, Int.reduceLT, Int.reduceLE, Int.reduceToNat, Nat.reduceMul, Nat.reduceAdd, Nat.reduceSub, List.nil_append, List.cons_append, List.getElem?_toArray, List.getElem?_cons_zero, List.getElem?_cons_succ, List.setIfInBounds_toArray, List.set_cons_zero, List.set_cons_succ, Option.map_some, List.not_mem_nil, ←decide_not, eq_self, g1, hv]
    exact ⟨by trivial, by (repeat (first | with_reducible exact Ext.refl _ _ | with_reducible assumption | with_reducible refine Ext.alloc' ?_ _ | with_reducible refine Ext.drew' ?_ | with_reducible refine Ext.set' ?_ ?_ | exact .inr (by first | omega | (simp only [World.size_alloc, World.size_drew, World.size_setCell] <;> omega)) | refine Ext.trans ?_ (by with_reducible assumption)))⟩
  by_cases g2 : 64 ≤ a
  · have hv : ¬ maskOk a n := by unfold maskOk; omega
    simp (disch := (first | omega | decide | (simp only [World.size_alloc, World.size_setCell, World.size_drew, size_sets, List.mem_cons, List.not_mem_nil, or_false, not_false_eq_true] <;> omega) | fail)) only [↓rsBitsW_0, rsBitsW_1, Option.isNone_some, Option.isNone_none, tick_eq, tickV_eq, ne_eq, Int.reduceAdd, Int.reduceSub, Int.reduceMul, Int.reduceEq, Int.reduceLT, Int.reduceLE, Int.reduceToNat, Nat.reduceMul, Nat.reduceAdd, Nat.reduceSub, List.nil_append, List.cons_append, List.getElem?_toArray, List.getElem?_cons_zero, List.getElem?_cons_succ, List.setIfInBounds_toArray, List.set_cons_zero, List.set_cons_succ, Option.map_some, List.not_mem_nil, ←decide_not, g1, g2, hv]
    exact ⟨by trivial, by (repeat (first | with_reducible exact Ext.refl _ _ | with_reducible assumption | with_reducible refine Ext.alloc' ?_ _ | with_reducible refine Ext.drew' ?_ | with_reducible refine Ext.set' ?_ ?_ | exact .inr (by first | omega | (simp only [World.size_alloc, World.size_drew, World.size_setCell] <;> omega)) | refine Ext.trans ?_ (by with_reducible assumption)))⟩
  by_cases g3 : n < 1
  · have hv : ¬ maskOk a n := by unfold maskOk; omega
    simp (disch := (first | omega | decide | (simp only [World.size_alloc, World.size_setCell, World.size_drew, size_sets, List.mem_cons, List.not_mem_nil, or_false, not_false_eq_true] <;> omega) | fail)) only [↓rsBitsW_0, rsBitsW_1, Option.isNone_some, Option.isNone_none, tick_eq, tickV_eq, ne_eq, Int.reduceAdd, Int.reduceSub, Int.reduceMul, Int.reduceEq, Int.reduceLT, Int.reduceLE, Int.reduceToNat, Nat.reduceMul, Nat.reduceAdd, Nat.reduceSub, List.nil_append, List.cons_append, List.getElem?_toArray, List.getElem?_cons_zero, List.getElem?_cons_succ, List.setIfInBounds_toArray, List.set_cons_zero, List.set_cons_succ, Option.map_some, List.not_mem_nil, ←decide_not, g1, g2, g3, hv]
    exact ⟨by trivial, by (repeat (first | with_reducible exact Ext.refl _ _ | with_reducible assumption | with_reducible refine Ext.alloc' ?_ _ | with_reducible refine Ext.drew' ?_ | with_reducible refine Ext.set' ?_ ?_ | exact .inr (by first | omega | (simp only [World.size_alloc, World.size_drew, World.size_setCell] <;> omega)) | refine Ext.trans ?_ (by with_reducible assumption)))⟩
  by_cases g4 : 64 - a < n
  · have hv : ¬ maskOk a n := by unfold maskOk; omega
    simp (disch := (first | omega | decide | (simp only [World.size_alloc, World.size_setCell, World.size_drew, size_sets, List.mem_cons, List.not_mem_nil, or_false, not_false_eq_true] <;> omega) | fail)) only [↓rsBitsW_0, rsBitsW_1, Option.isNone_some, Option.isNone_none, tick_eq, tickV_eq, ne_eq, Int.reduceAdd, Int.reduceSub, Int.reduceMul, Int.reduceEq, Int.reduceLT, Int.reduceLE, Int.reduceToNat, Nat.reduceMul, Nat.reduceAdd, Nat.reduceSub, List.nil_append, List.cons_append, List.getElem?_toArray, List.getElem?_cons_zero, List.getElem?_cons_succ, List.setIfInBounds_toArray, List.set_cons_zero, List.set_cons_succ, Option.map_some, List.not_mem_nil, ←decide_not, g1, g2, g3, g4, hv]
    exact ⟨by trivial, by (repeat (first | with_reducible exact Ext.refl _ _ | with_reducible assumption | with_reducible refine Ext.alloc' ?_ _ | with_reducible refine Ext.drew' ?_ | with_reducible refine Ext.set' ?_ ?_ | exact .inr (by first | omega | (simp only [World.size_alloc, World.size_drew, World.size_setCell] <;> omega)) | refine Ext.trans ?_ (by with_reducible assumption)))⟩
  have hv : maskOk a n := by unfold maskOk; omega
  simp (disch := (first | omega | decide | (simp only [World.size_alloc, World.size_setCell, World.size_drew, size_sets, List.mem_cons, List.not_mem_nil, or_false, not_false_eq_true] <;> omega) | fail)) only [↓rsBitsW_0, rsBitsW_1, Option.isNone_some, Option.isNone_none, tick_eq, tickV_eq, ne_eq, Int.reduceAdd, Int.reduceSub, Int.reduceMul, Int.reduceEq, Int.reduceLT, Int.reduceLE, Int.reduceToNat, Nat.reduceMul, Nat.reduceAdd, Nat.reduceSub, List.nil_append, List.cons_append, List.getElem?_toArray, List.getElem?_cons_zero, List.getElem?_cons_succ, List.setIfInBounds_toArray, List.set_cons_zero, List.set_cons_succ, Option.map_some, List.not_mem_nil, ←decide_not, g1, g2, g3, g4, hv, if_pos hv]
  exact ⟨by rfl, by (repeat (first | with_reducible exact Ext.refl _ _ | with_reducible assumption | with_reducible refine Ext.alloc' ?_ _ | with_reducible refine Ext.drew' ?_ | with_reducible refine Ext.set' ?_ ?_ | exact .inr (by first | omega | (simp only [World.size_alloc, World.size_drew, World.size_setCell] <;> omega)) | refine Ext.trans ?_ (by with_reducible assumption)))⟩
abbrev rsBitsW_2 := (And.intro @xBox_r (And.intro @loadK_some (And.intro @loadsK_s (And.intro @loadsK_n (And.intro @loadsR_s (And.intro @loadsR_n (And.intro @storesK_s (And.intro @storesK_n (And.intro @xPick_t (And.intro @xPick_f (And.intro @xGuard_tt (And.intro @xGuard_ff (And.intro @xGuard_tf (And.intro @xGuard_ft (And.intro @xGuard_u 
  (And.intro @xNil_r (And.intro @xIf_t (And.intro @xBin_add' (And.intro @xBin_sub' (And.intro @xBin_mul' (And.intro @xBin_quo' (And.intro @xBin_rem' (And.intro @xIf_f (And.intro @xIf_tt (And.intro @xEx0 (And.intro @xEx1 (And.intro @xEx2 (And.intro @xEx3 (And.intro @xBin_eqs (And.intro @xBin_nes (And.intro @xUn_not (And.intro @xu8_and (And.intro @xu8_com 
  (And.intro @xu8_shr (And.intro @xu16_and (And.intro @xu16_com (And.intro @xu16_shr (And.intro @xu32_and (And.intro @xu32_com (And.intro @xu32_shr (And.intro @xu64_and (And.intro @xu64_com (And.intro @xu64_shr (And.intro @xi64_and (And.intro @xi64_shr (And.intro @xMakeFunc_r (And.intro @xSq_r (And.intro @xPur_s (And.intro @xRd_s (And.intro @xRe_s 
  (And.intro @xDet_s (And.intro @xDet_ld (And.intro @xDet_ld2 (And.intro @xDet_ld3 (And.intro @xDet_ld4 @xGuard_tt)))))))))))))))))))))))))))))))))))))))))))))))))))))))
theorem Field_spec (x : BitVec 64) (a n : Int) (w : World) : Gives Try.prog n_bits_Field #[u64 x, i64 a, i64 n] w (u64 (fieldB x a n)) := by
  refine bits_Field_of ?_
  unfold bits_Field
  refine bits_mask_call (Gives.to (mask_spec _ _ _) fun w1 E1 => ?_)
  have z1 := E1.size
  try simp only [World.size_alloc, World.size_setCell, World.size_drew] at z1
  by_cases h : maskOk a n
  · have h0 : 0 ≤ a := h.1
    simp (disch := (first | omega | decide | (simp only [World.size_alloc, World.size_setCell, World.size_drew, size_sets, List.mem_cons, List.not_mem_nil, or_false, not_false_eq_true] <;> omega) | fail)) only [↓rsBitsW_2, rsBitsW_1, Option.isNone_some, Option.isNone_none, tick_eq, tickV_eq, ne_eq, Int.reduceAdd, Int.reduceSub, Int.reduceMul, Int.reduceEq, Int.reduceLT, Int.reduceLE, Int.reduceToNat, Nat.reduceMul, Nat.reduceAdd, Nat.reduceSub, List.nil_append, List.cons_append, List.getElem?_toArray, List.getElem?_cons_zero, List.getElem?_cons_succ, List.setIfInBounds_toArray, List.set_cons_zero, List.set_cons_succ, Option.map_some, List.not_mem_nil, ←decide_not, if_pos h, decide_eq_true h]
    exact ⟨by simp only [fieldB, if_pos h], by (repeat (first | with_reducible exact Ext.refl _ _ | with_reducible assumption | with_reducible refine Ext.alloc' ?_ _ | with_reducible refine Ext.drew' ?_ | with_reducible refine Ext.set' ?_ ?_ | exact .inr (by first | omega | (simp only [World.size_alloc, World.size_drew, World.size_setCell] <;> omega)) | refine Ext.trans ?_ (by with_reducible assumption)))⟩
  · simp (disch := (first | omega | decide | (simp only [World.size_alloc, World.size_setCell, World.size_drew, size_sets, List.mem_cons, List.not_mem_nil, or_false, not_false_eq_true] <;> omega) | fail)) only [↓rsBitsW_2, rsBitsW_1, Option.isNone_some, Option.isNone_none, tick_eq, tickV_eq, ne_eq, Int.reduceAdd, Int.reduceSub, Int.reduceMul, Int.reduceEq, Int.reduceLT, Int.reduceLE, Int.reduceToNat, Nat.reduceMul, Nat.reduceAdd, Nat.reduceSub, List.nil_append, List.cons_append, List.getElem?_toArray, List.getElem?_cons_zero, List.getElem?_cons_succ, List.setIfInBounds_toArray, List.set_cons_zero, List.set_cons_succ, Option.map_some, List.not_mem_nil, ←decide_not, if_neg h, decide_eq_false h]
    exact ⟨by simp only [fieldB, if_neg h]; rfl, by (repeat (first | with_reducible exact Ext.refl _ _ | with_reducible assumption | with_reducible refine Ext.alloc' ?_ _ | with_reducible refine Ext.drew' ?_ | with_reducible refine Ext.set' ?_ ?_ | exact .inr (by first | omega | (simp only [World.size_alloc, World.size_drew, World.size_setCell] <;> omega)) | refine Ext.trans ?_ (by with_reducible assumption)))⟩
abbrev rsBitsW_3 := (And.intro @xBox_r (And.intro @loadK_some (And.intro @loadsK_s (And.intro @loadsK_n (And.intro @loadsR_s (And.intro @loadsR_n (And.intro @storesK_s (And.intro @storesK_n (And.intro @xPick_t (And.intro @xPick_f (And.intro @xGuard_tt (And.intro @xGuard_ff (And.intro @xGuard_tf (And.intro @xGuard_ft (And.intro @xGuard_u 
  (And.intro @xNil_r (And.intro @xIf_t (And.intro @xBin_add' (And.intro @xBin_sub' (And.intro @xBin_mul' (And.intro @xBin_quo' (And.intro @xBin_rem' (And.intro @xIf_f (And.intro @xIf_tt (And.intro @xEx0 (And.intro @xEx1 (And.intro @xEx2 (And.intro @xEx3 (And.intro @xBin_eqs (And.intro @xBin_nes (And.intro @xUn_not (And.intro @xu8_and (And.intro @xu8_or 
  (And.intro @xu8_andNot (And.intro @xu8_com (And.intro @xu8_shl (And.intro @xu16_and (And.intro @xu16_or (And.intro @xu16_andNot (And.intro @xu16_com (And.intro @xu16_shl (And.intro @xu32_and (And.intro @xu32_or (And.intro @xu32_andNot (And.intro @xu32_com (And.intro @xu32_shl (And.intro @xu64_and (And.intro @xu64_or (And.intro @xu64_andNot 
  (And.intro @xu64_com (And.intro @xu64_shl (And.intro @xi64_and (And.intro @xi64_or (And.intro @xi64_shl (And.intro @xMakeFunc_r (And.intro @xSq_r (And.intro @xPur_s (And.intro @xRd_s (And.intro @xRe_s (And.intro @xDet_s (And.intro @xDet_ld (And.intro @xDet_ld2 (And.intro @xDet_ld3 (And.intro @xDet_ld4 @xGuard_tt))))))))))))))))))))))))))))))))))))))))))))))))))))))))))))))))
theorem With_spec (x v : BitVec 64) (a n : Int) (w : World) : Gives Try.prog n_bits_With #[u64 x, i64 a, i64 n, u64 v] w (u64 (withB x a n v)) := by
  refine bits_With_of ?_
  unfold bits_With
  refine bits_mask_call (Gives.to (mask_spec _ _ _) fun w1 E1 => ?_)
  have z1 := E1.size
  try simp only [World.size_alloc, World.size_setCell, World.size_drew] at z1
  by_cases h : maskOk a n
  · have h0 : 0 ≤ a := h.1
    simp (disch := (first | omega | decide | (simp only [World.size_alloc, World.size_setCell, World.size_drew, size_sets, List.mem_cons, List.not_mem_nil, or_false, not_false_eq_true] <;> omega) | fail)) only [↓rsBitsW_3, rsBitsW_1, Option.isNone_some, Option.isNone_none, tick_eq, tickV_eq, ne_eq, Int.reduceAdd, Int.reduceSub, Int.reduceMul, Int.reduceEq, Int.reduceLT, Int.reduceLE, Int.reduceToNat, Nat.reduceMul, Nat.reduceAdd, Nat.reduceSub, List.nil_append, List.cons_append, List.getElem?_toArray, List.getElem?_cons_zero, List.getElem?_cons_succ, List.setIfInBounds_toArray, List.set_cons_zero, List.set_cons_succ, Option.map_some, List.not_mem_nil, ←decide_not, if_pos h, decide_eq_true h]
    exact ⟨by simp only [withB, if_pos h], by (repeat (first | with_reducible exact Ext.refl _ _ | with_reducible assumption | with_reducible refine Ext.alloc' ?_ _ | with_reducible refine Ext.drew' ?_ | with_reducible refine Ext.set' ?_ ?_ | exact .inr (by first | omega | (simp only [World.size_alloc, World.size_drew, World.size_setCell] <;> omega)) | refine Ext.trans ?_ (by with_reducible assumption)))⟩
  · simp (disch := (first | omega | decide | (simp only [World.size_alloc, World.size_setCell, World.size_drew, size_sets, List.mem_cons, List.not_mem_nil, or_false, not_false_eq_true] <;> omega) | fail)) only [↓rsBitsW_3, rsBitsW_1, Option.isNone_some, Option.isNone_none, tick_eq, tickV_eq, ne_eq, Int.reduceAdd, Int.reduceSub, Int.reduceMul, Int.reduceEq, Int.reduceLT, Int.reduceLE, Int.reduceToNat, Nat.reduceMul, Nat.reduceAdd, Nat.reduceSub, List.nil_append, List.cons_append, List.getElem?_toArray, List.getElem?_cons_zero, List.getElem?_cons_succ, List.setIfInBounds_toArray, List.set_cons_zero, List.set_cons_succ, Option.map_some, List.not_mem_nil, ←decide_not, if_neg h, decide_eq_false h]
    exact ⟨by simp only [withB, if_neg h], by (repeat (first | with_reducible exact Ext.refl _ _ | with_reducible assumption | with_reducible refine Ext.alloc' ?_ _ | with_reducible refine Ext.drew' ?_ | with_reducible refine Ext.set' ?_ ?_ | exact .inr (by first | omega | (simp only [World.size_alloc, World.size_drew, World.size_setCell] <;> omega)) | refine Ext.trans ?_ (by with_reducible assumption)))⟩
end Go.Proofs.Ytdpmidgeipibbaa
end
section
set_option linter.unusedVariables false
set_option linter.unusedSimpArgs false
set_option maxHeartbeats 4000000
namespace Go.Proofs.Ytdpmidgeipibbaa
open Go.Sh Go.RowKit

abbrev rsHead_0 := (And.intro @xBox_r (And.intro @loadK_some (And.intro @loadsK_s (And.intro @loadsK_n (And.intro @loadsR_s (And.intro @loadsR_n (And.intro @storesK_s (And.intro @storesK_n (And.intro @xPick_t (And.intro @xPick_f (And.intro @xGuard_tt (And.intro @xGuard_ff (And.intro @xGuard_tf (And.intro @xGuard_ft (And.intro @xGuard_u 
  (And.intro @xNil_r (And.intro @xIf_t (And.intro @xBin_add' (And.intro @xBin_sub' (And.intro @xBin_mul' (And.intro @xBin_quo' (And.intro @xBin_rem' (And.intro @xIf_f (And.intro @xIf_tt (And.intro @xEx0 (And.intro @xEx1 (And.intro @xEx2 (And.intro @xEx3 (And.intro @xBin_eqs (And.intro @xBin_nes (And.intro @xUn_not (And.intro @xu8_eql (And.intro @xu8_lss 
  (And.intro @xu8_leq (And.intro @xu8_geq (And.intro @xu16_eql (And.intro @xu16_lss (And.intro @xu16_leq (And.intro @xu16_geq (And.intro @xu32_eql (And.intro @xu32_lss (And.intro @xu32_leq (And.intro @xu32_geq (And.intro @xu64_eql (And.intro @xu64_lss (And.intro @xu64_leq (And.intro @xu64_geq (And.intro @xi64_lss (And.intro @xi64_leq (And.intro @xi64_geq 
  (And.intro @xi64_eql (And.intro @xMakeFunc_r (And.intro @xSq_r (And.intro @xPur_s (And.intro @xRd_s (And.intro @xRe_s (And.intro @xDet_s (And.intro @xDet_ld (And.intro @xDet_ld2 (And.intro @xDet_ld3 (And.intro @xDet_ld4 (And.intro @xGuard_tt (And.intro @ld_3 (And.intro @ld_4 (And.intro @fa_123_0 (And.intro @fa_123_1 (And.intro @fa_123_2 @fa_123_3)))))))))))))))))))))))))))))))))))))))))))))))))))))))))))))))))))
abbrev rsHead_1 := (And.intro @setCells_c (And.intro @setCells_n (And.intro @World.setCell_alloc_at (And.intro @World.setCell_alloc_past (And.intro @World.cell?_alloc_at (And.intro @World.cell?_alloc_past (And.intro @World.frozen?_alloc_at (And.intro @World.frozen?_alloc_past 
  (And.intro @World.size_alloc (And.intro @dlt_t (And.intro @dlt_f (And.intro @dle_t (And.intro @dle_f (And.intro @deq_t (And.intro @deq_f (And.intro @dne_t (And.intro @dne_f (And.intro @not_true_eq_false (And.intro @Bool.false_and (And.intro @Bool.true_and (And.intro @Bool.and_true (And.intro @Bool.and_false (And.intro @wrap_in (And.intro @Int.toNat_natCast 
  (And.intro @Nat.mul_one (And.intro @cells_int (And.intro @cells_bool (And.intro @cells_string (And.intro @cells_slice (And.intro @cells_pointer (And.intro @cells_agg (And.intro @one_int (And.intro @one_bool (And.intro @one_string (And.intro @one_slice (And.intro @one_pointer (And.intro @beq_tt (And.intro @beq_ff (And.intro @beq_tf 
  (And.intro @beq_ft (And.intro @cell_sets_b (And.intro @frozen_sets (And.intro @size_sets (And.intro @World.size_drew (And.intro @Nat.zero_add (And.intro @Nat.add_zero (And.intro @cell_drew (And.intro @frozen_drew (And.intro @cell_set_eq (And.intro @cell_set_o (And.intro @cell_set_b (And.intro @World.frozen?_setCell 
  (And.intro @decide_true (And.intro @decide_false (And.intro @not_false_eq_true (And.intro @Bool.not_true @Bool.not_false))))))))))))))))))))))))))))))))))))))))))))))))))))))))
theorem Right_spec (p b : Int) (m : Bool) (t : Int) (w : World) : Gives Try.prog n_head_Right #[hd p b m t] w (.bool (rightV p b m t)) := by
  refine head_Right_of ?_
  unfold head_Right
  simp (disch := (first | omega | decide | (simp only [World.size_alloc, World.size_setCell, World.size_drew, size_sets, List.mem_cons, List.not_mem_nil, or_false, not_false_eq_true] <;> omega) | fail)) only [↓rsHead_0, rsHead_1, Option.isNone_some, Option.isNone_none, tick_eq, tickV_eq, ne_eq, Int.reduceAdd, Int.reduceSub, Int.reduceMul, Int.reduceEq, Int.reduceLT, Int.reduceLE, Int.reduceToNat, Nat.reduceMul, Nat.reduceAdd, Nat.reduceSub, List.nil_append, List.cons_append, List.getElem?_toArray, List.getElem?_cons_zero, List.getElem?_cons_succ, List.setIfInBounds_toArray, List.set_cons_zero, List.set_cons_succ, Option.map_some, List.not_mem_nil, ←decide_not, eq_self]
  cases m
  · simp (disch := (first | omega | decide | (simp only [World.size_alloc, World.size_setCell, World.size_drew, size_sets, List.mem_cons, List.not_mem_nil, or_false, not_false_eq_true] <;> omega) | fail)) only [↓rsHead_0, rsHead_1, Option.isNone_some, Option.isNone_none, tick_eq, tickV_eq, ne_eq, Int.reduceAdd, Int.reduceSub, Int.reduceMul, Int.reduceEq, Int.reduceLT, Int.reduceLE, Int.reduceToNat, Nat.reduceMul, Nat.reduceAdd, Nat.reduceSub, List.nil_append, List.cons_append, List.getElem?_toArray, List.getElem?_cons_zero, List.getElem?_cons_succ, List.setIfInBounds_toArray, List.set_cons_zero, List.set_cons_succ, Option.map_some, List.not_mem_nil, ←decide_not, eq_self]
    by_cases g1 : ¬ t = 0
    · have hv : rightV p b false t = false := decide_eq_false (by rw [right_f]; omega)
      simp (disch := (first | omega | decide | (simp only [World.size_alloc, World.size_setCell, World.size_drew, size_sets, List.mem_cons, List.not_mem_nil, or_false, not_false_eq_true] <;> omega) | fail)) only [↓rsHead_0, rsHead_1, Option.isNone_some, Option.isNone_none, tick_eq, tickV_eq, ne_eq, Int.reduceAdd, Int.reduceSub, Int.reduceMul, Int.reduceEq, Int.reduceLT, Int.reduceLE, Int.reduceToNat, Nat.reduceMul, Nat.reduceAdd, Nat.reduceSub, List.nil_append, List.cons_append, List.getElem?_toArray, List.getElem?_cons_zero, List.getElem?_cons_succ, List.setIfInBounds_toArray, List.set_cons_zero, List.set_cons_succ, Option.map_some, List.not_mem_nil, ←decide_not, eq_self, g1, hv]
      exact ⟨by trivial, by (repeat (first | with_reducible exact Ext.refl _ _ | with_reducible assumption | with_reducible refine Ext.alloc' ?_ _ | with_reducible refine Ext.drew' ?_ | with_reducible refine Ext.set' ?_ ?_ | exact .inr (by first | omega | (simp only [World.size_alloc, World.size_drew, World.size_setCell] <;> omega)) | refine Ext.trans ?_ (by with_reducible assumption)))⟩
    replace g1 := Decidable.not_not.1 g1
    by_cases g2 : ¬ 0 ≤ p
    · have hv : rightV p b false t = false := decide_eq_false (by rw [right_f]; omega)
      simp (disch := (first | omega | decide | (simp only [World.size_alloc, World.size_setCell, World.size_drew, size_sets, List.mem_cons, List.not_mem_nil, or_false, not_false_eq_true] <;> omega) | fail)) only [↓rsHead_0, rsHead_1, Option.isNone_some, Option.isNone_none, tick_eq, tickV_eq, ne_eq, Int.reduceAdd, Int.reduceSub, Int.reduceMul, Int.reduceEq, Int.reduceLT, Int.reduceLE, Int.reduceToNat, Nat.reduceMul, Nat.reduceAdd, Nat.reduceSub, List.nil_append, List.cons_append, List.getElem?_toArray, List.getElem?_cons_zero, List.getElem?_cons_succ, List.setIfInBounds_toArray, List.set_cons_zero, List.set_cons_succ, Option.map_some, List.not_mem_nil, ←decide_not, eq_true g1, g2, hv]
      exact ⟨by trivial, by (repeat (first | with_reducible exact Ext.refl _ _ | with_reducible assumption | with_reducible refine Ext.alloc' ?_ _ | with_reducible refine Ext.drew' ?_ | with_reducible refine Ext.set' ?_ ?_ | exact .inr (by first | omega | (simp only [World.size_alloc, World.size_drew, World.size_setCell] <;> omega)) | refine Ext.trans ?_ (by with_reducible assumption)))⟩
    replace g2 := Decidable.not_not.1 g2
    by_cases g3 : ¬ p ≤ 64
    · have hv : rightV p b false t = false := decide_eq_false (by rw [right_f]; omega)
      simp (disch := (first | omega | decide | (simp only [World.size_alloc, World.size_setCell, World.size_drew, size_sets, List.mem_cons, List.not_mem_nil, or_false, not_false_eq_true] <;> omega) | fail)) only [↓rsHead_0, rsHead_1, Option.isNone_some, Option.isNone_none, tick_eq, tickV_eq, ne_eq, Int.reduceAdd, Int.reduceSub, Int.reduceMul, Int.reduceEq, Int.reduceLT, Int.reduceLE, Int.reduceToNat, Nat.reduceMul, Nat.reduceAdd, Nat.reduceSub, List.nil_append, List.cons_append, List.getElem?_toArray, List.getElem?_cons_zero, List.getElem?_cons_succ, List.setIfInBounds_toArray, List.set_cons_zero, List.set_cons_succ, Option.map_some, List.not_mem_nil, ←decide_not, eq_true g1, eq_true g2, g3, hv]
      exact ⟨by trivial, by (repeat (first | with_reducible exact Ext.refl _ _ | with_reducible assumption | with_reducible refine Ext.alloc' ?_ _ | with_reducible refine Ext.drew' ?_ | with_reducible refine Ext.set' ?_ ?_ | exact .inr (by first | omega | (simp only [World.size_alloc, World.size_drew, World.size_setCell] <;> omega)) | refine Ext.trans ?_ (by with_reducible assumption)))⟩
    replace g3 := Decidable.not_not.1 g3
    by_cases g4 : ¬ 0 ≤ b
    · have hv : rightV p b false t = false := decide_eq_false (by rw [right_f]; omega)
      simp (disch := (first | omega | decide | (simp only [World.size_alloc, World.size_setCell, World.size_drew, size_sets, List.mem_cons, List.not_mem_nil, or_false, not_false_eq_true] <;> omega) | fail)) only [↓rsHead_0, rsHead_1, Option.isNone_some, Option.isNone_none, tick_eq, tickV_eq, ne_eq, Int.reduceAdd, Int.reduceSub, Int.reduceMul, Int.reduceEq, Int.reduceLT, Int.reduceLE, Int.reduceToNat, Nat.reduceMul, Nat.reduceAdd, Nat.reduceSub, List.nil_append, List.cons_append, List.getElem?_toArray, List.getElem?_cons_zero, List.getElem?_cons_succ, List.setIfInBounds_toArray, List.set_cons_zero, List.set_cons_succ, Option.map_some, List.not_mem_nil, ←decide_not, eq_true g1, eq_true g2, eq_true g3, g4, hv]
      exact ⟨by trivial, by (repeat (first | with_reducible exact Ext.refl _ _ | with_reducible assumption | with_reducible refine Ext.alloc' ?_ _ | with_reducible refine Ext.drew' ?_ | with_reducible refine Ext.set' ?_ ?_ | exact .inr (by first | omega | (simp only [World.size_alloc, World.size_drew, World.size_setCell] <;> omega)) | refine Ext.trans ?_ (by with_reducible assumption)))⟩
    replace g4 := Decidable.not_not.1 g4
    by_cases g5 : ¬ b ≤ 1024
    · have hv : rightV p b false t = false := decide_eq_false (by rw [right_f]; omega)
      simp (disch := (first | omega | decide | (simp only [World.size_alloc, World.size_setCell, World.size_drew, size_sets, List.mem_cons, List.not_mem_nil, or_false, not_false_eq_true] <;> omega) | fail)) only [↓rsHead_0, rsHead_1, Option.isNone_some, Option.isNone_none, tick_eq, tickV_eq, ne_eq, Int.reduceAdd, Int.reduceSub, Int.reduceMul, Int.reduceEq, Int.reduceLT, Int.reduceLE, Int.reduceToNat, Nat.reduceMul, Nat.reduceAdd, Nat.reduceSub, List.nil_append, List.cons_append, List.getElem?_toArray, List.getElem?_cons_zero, List.getElem?_cons_succ, List.setIfInBounds_toArray, List.set_cons_zero, List.set_cons_succ, Option.map_some, List.not_mem_nil, ←decide_not, eq_true g1, eq_true g2, eq_true g3, eq_true g4, g5, hv]
      exact ⟨by trivial, by (repeat (first | with_reducible exact Ext.refl _ _ | with_reducible assumption | with_reducible refine Ext.alloc' ?_ _ | with_reducible refine Ext.drew' ?_ | with_reducible refine Ext.set' ?_ ?_ | exact .inr (by first | omega | (simp only [World.size_alloc, World.size_drew, World.size_setCell] <;> omega)) | refine Ext.trans ?_ (by with_reducible assumption)))⟩
    replace g5 := Decidable.not_not.1 g5
    have hv : rightV p b false t = true := decide_eq_true (by rw [right_f]; omega)
    simp (disch := (first | omega | decide | (simp only [World.size_alloc, World.size_setCell, World.size_drew, size_sets, List.mem_cons, List.not_mem_nil, or_false, not_false_eq_true] <;> omega) | fail)) only [↓rsHead_0, rsHead_1, Option.isNone_some, Option.isNone_none, tick_eq, tickV_eq, ne_eq, Int.reduceAdd, Int.reduceSub, Int.reduceMul, Int.reduceEq, Int.reduceLT, Int.reduceLE, Int.reduceToNat, Nat.reduceMul, Nat.reduceAdd, Nat.reduceSub, List.nil_append, List.cons_append, List.getElem?_toArray, List.getElem?_cons_zero, List.getElem?_cons_succ, List.setIfInBounds_toArray, List.set_cons_zero, List.set_cons_succ, Option.map_some, List.not_mem_nil, ←decide_not, eq_true g1, eq_true g2, eq_true g3, eq_true g4, eq_true g5, hv]
    exact ⟨by trivial, by (repeat (first | with_reducible exact Ext.refl _ _ | with_reducible assumption | with_reducible refine Ext.alloc' ?_ _ | with_reducible refine Ext.drew' ?_ | with_reducible refine Ext.set' ?_ ?_ | exact .inr (by first | omega | (simp only [World.size_alloc, World.size_drew, World.size_setCell] <;> omega)) | refine Ext.trans ?_ (by with_reducible assumption)))⟩
  · simp (disch := (first | omega | decide | (simp only [World.size_alloc, World.size_setCell, World.size_drew, size_sets, List.mem_cons, List.not_mem_nil, or_false, not_false_eq_true] <;> omega) | fail)) only [↓rsHead_0, rsHead_1, Option.isNone_some, Option.isNone_none, tick_eq, tickV_eq, ne_eq, Int.reduceAdd, Int.reduceSub, Int.reduceMul, Int.reduceEq, Int.reduceLT, Int.reduceLE, Int.reduceToNat, Nat.reduceMul, Nat.reduceAdd, Nat.reduceSub, List.nil_append, List.cons_append, List.getElem?_toArray, List.getElem?_cons_zero, List.getElem?_cons_succ, List.setIfInBounds_toArray, List.set_cons_zero, List.set_cons_succ, Option.map_some, List.not_mem_nil, ←decide_not, eq_self]
    by_cases g1 : ¬ p = 0
    · have hv : rightV p b true t = false := decide_eq_false (by rw [right_t]; omega)
      simp (disch := (first | omega | decide | (simp only [World.size_alloc, World.size_setCell, World.size_drew, size_sets, List.mem_cons, List.not_mem_nil, or_false, not_false_eq_true] <;> omega) | fail)) only [↓rsHead_0, rsHead_1, Option.isNone_some, Option.isNone_none, tick_eq, tickV_eq, ne_eq, Int.reduceAdd, Int.reduceSub, Int.reduceMul, Int.reduceEq, Int.reduceLT, Int.reduceLE, Int.reduceToNat, Nat.reduceMul, Nat.reduceAdd, Nat.reduceSub, List.nil_append, List.cons_append, List.getElem?_toArray, List.getElem?_cons_zero, List.getElem?_cons_succ, List.setIfInBounds_toArray, List.set_cons_zero, List.set_cons_succ, Option.map_some, List.not_mem_nil, ←decide_not, eq_self, g1, hv]
      exact ⟨by trivial, by (repeat (first | with_reducible exact Ext.refl _ _ | with_reducible assumption | with_reducible refine Ext.alloc' ?_ _ | with_reducible refine Ext.drew' ?_ | with_reducible refine Ext.set' ?_ ?_ | exact .inr (by first | omega | (simp only [World.size_alloc, World.size_drew, World.size_setCell] <;> omega)) | refine Ext.trans ?_ (by with_reducible assumption)))⟩
    replace g1 := Decidable.not_not.1 g1
    by_cases g2 : ¬ b = 0
    · have hv : rightV p b true t = false := decide_eq_false (by rw [right_t]; omega)
      simp (disch := (first | omega | decide | (simp only [World.size_alloc, World.size_setCell, World.size_drew, size_sets, List.mem_cons, List.not_mem_nil, or_false, not_false_eq_true] <;> omega) | fail)) only [↓rsHead_0, rsHead_1, Option.isNone_some, Option.isNone_none, tick_eq, tickV_eq, ne_eq, Int.reduceAdd, Int.reduceSub, Int.reduceMul, Int.reduceEq, Int.reduceLT, Int.reduceLE, Int.reduceToNat, Nat.reduceMul, Nat.reduceAdd, Nat.reduceSub, List.nil_append, List.cons_append, List.getElem?_toArray, List.getElem?_cons_zero, List.getElem?_cons_succ, List.setIfInBounds_toArray, List.set_cons_zero, List.set_cons_succ, Option.map_some, List.not_mem_nil, ←decide_not, eq_true g1, g2, hv]
      exact ⟨by trivial, by (repeat (first | with_reducible exact Ext.refl _ _ | with_reducible assumption | with_reducible refine Ext.alloc' ?_ _ | with_reducible refine Ext.drew' ?_ | with_reducible refine Ext.set' ?_ ?_ | exact .inr (by first | omega | (simp only [World.size_alloc, World.size_drew, World.size_setCell] <;> omega)) | refine Ext.trans ?_ (by with_reducible assumption)))⟩
    replace g2 := Decidable.not_not.1 g2
    by_cases g3 : ¬ 0 ≤ t
    · have hv : rightV p b true t = false := decide_eq_false (by rw [right_t]; omega)
      simp (disch := (first | omega | decide | (simp only [World.size_alloc, World.size_setCell, World.size_drew, size_sets, List.mem_cons, List.not_mem_nil, or_false, not_false_eq_true] <;> omega) | fail)) only [↓rsHead_0, rsHead_1, Option.isNone_some, Option.isNone_none, tick_eq, tickV_eq, ne_eq, Int.reduceAdd, Int.reduceSub, Int.reduceMul, Int.reduceEq, Int.reduceLT, Int.reduceLE, Int.reduceToNat, Nat.reduceMul, Nat.reduceAdd, Nat.reduceSub, List.nil_append, List.cons_append, List.getElem?_toArray, List.getElem?_cons_zero, List.getElem?_cons_succ, List.setIfInBounds_toArray, List.set_cons_zero, List.set_cons_succ, Option.map_some, List.not_mem_nil, ←decide_not, eq_true g1, eq_true g2, g3, hv]
      exact ⟨by trivial, by (repeat (first | with_reducible exact Ext.refl _ _ | with_reducible assumption | with_reducible refine Ext.alloc' ?_ _ | with_reducible refine Ext.drew' ?_ | with_reducible refine Ext.set' ?_ ?_ | exact .inr (by first | omega | (simp only [World.size_alloc, World.size_drew, World.size_setCell] <;> omega)) | refine Ext.trans ?_ (by with_reducible assumption)))⟩
    replace g3 := Decidable.not_not.1 g3
    by_cases g4 : ¬ t < 8192
    · have hv : rightV p b true t = false := decide_eq_false (by rw [right_t]; omega)
      simp (disch := (first | omega | decide | (simp only [World.size_alloc, World.size_setCell, World.size_drew, size_sets, List.mem_cons, List.not_mem_nil, or_false, not_false_eq_true] <;> omega) | fail)) only [↓rsHead_0, rsHead_1, Option.isNone_some, Option.isNone_none, tick_eq, tickV_eq, ne_eq, Int.reduceAdd, Int.reduceSub, Int.reduceMul, Int.reduceEq, Int.reduceLT, Int.reduceLE, Int.reduceToNat, Nat.reduceMul, Nat.reduceAdd, Nat.reduceSub, List.nil_append, List.cons_append, List.getElem?_toArray, List.getElem?_cons_zero, List.getElem?_cons_succ, List.setIfInBounds_toArray, List.set_cons_zero, List.set_cons_succ, Option.map_some, List.not_mem_nil, ←decide_not, eq_true g1, eq_true g2, eq_true g3, g4, hv]
      exact ⟨by trivial, by (repeat (first | with_reducible exact Ext.refl _ _ | with_reducible assumption | with_reducible refine Ext.alloc' ?_ _ | with_reducible refine Ext.drew' ?_ | with_reducible refine Ext.set' ?_ ?_ | exact .inr (by first | omega | (simp only [World.size_alloc, World.size_drew, World.size_setCell] <;> omega)) | refine Ext.trans ?_ (by with_reducible assumption)))⟩
    replace g4 := Decidable.not_not.1 g4
    have hv : rightV p b true t = true := decide_eq_true (by rw [right_t]; omega)
    simp (disch := (first | omega | decide | (simp only [World.size_alloc, World.size_setCell, World.size_drew, size_sets, List.mem_cons, List.not_mem_nil, or_false, not_false_eq_true] <;> omega) | fail)) only [↓rsHead_0, rsHead_1, Option.isNone_some, Option.isNone_none, tick_eq, tickV_eq, ne_eq, Int.reduceAdd, Int.reduceSub, Int.reduceMul, Int.reduceEq, Int.reduceLT, Int.reduceLE, Int.reduceToNat, Nat.reduceMul, Nat.reduceAdd, Nat.reduceSub, List.nil_append, List.cons_append, List.getElem?_toArray, List.getElem?_cons_zero, List.getElem?_cons_succ, List.setIfInBounds_toArray, List.set_cons_zero, List.set_cons_succ, Option.map_some, List.not_mem_nil, ←decide_not, eq_true g1, eq_true g2, eq_true g3, eq_true g4, hv]
    exact ⟨by trivial, by (repeat (first | with_reducible exact Ext.refl _ _ | with_reducible assumption | with_reducible refine Ext.alloc' ?_ _ | with_reducible refine Ext.drew' ?_ | with_reducible refine Ext.set' ?_ ?_ | exact .inr (by first | omega | (simp only [World.size_alloc, World.size_drew, World.size_setCell] <;> omega)) | refine Ext.trans ?_ (by with_reducible assumption)))⟩
abbrev rsHead_2 := (And.intro @xBox_r (And.intro @loadK_some (And.intro @loadsK_s (And.intro @loadsK_n (And.intro @loadsR_s (And.intro @loadsR_n (And.intro @storesK_s (And.intro @storesK_n (And.intro @xPick_t (And.intro @xPick_f (And.intro @xGuard_tt (And.intro @xGuard_ff (And.intro @xGuard_tf (And.intro @xGuard_ft (And.intro @xGuard_u 
  (And.intro @xNil_r (And.intro @xIf_t (And.intro @xBin_add' (And.intro @xBin_sub' (And.intro @xBin_mul' (And.intro @xBin_quo' (And.intro @xBin_rem' (And.intro @xIf_f (And.intro @xIf_tt (And.intro @xEx0 (And.intro @xEx1 (And.intro @xEx2 (And.intro @xEx3 (And.intro @xBin_eqs (And.intro @xBin_nes (And.intro @xUn_not (And.intro @xu8_eql (And.intro @xu8_lss 
  (And.intro @xu8_leq (And.intro @xu8_geq (And.intro @xu16_eql (And.intro @xu16_lss (And.intro @xu16_leq (And.intro @xu16_geq (And.intro @xu32_eql (And.intro @xu32_lss (And.intro @xu32_leq (And.intro @xu32_geq (And.intro @xu64_eql (And.intro @xu64_lss (And.intro @xu64_leq (And.intro @xu64_geq (And.intro @xi64_lss (And.intro @xi64_leq (And.intro @xi64_geq 
  (And.intro @xi64_eql (And.intro @xMakeFunc_r (And.intro @xSq_r (And.intro @xPur_s (And.intro @xRd_s (And.intro @xRe_s (And.intro @xDet_s (And.intro @xDet_ld (And.intro @xDet_ld2 (And.intro @xDet_ld3 (And.intro @xDet_ld4 (And.intro @xGuard_tt (And.intro @ld_3 (And.intro @ld_4 (And.intro @fa_84_0 (And.intro @fa_84_1 (And.intro @fa_84_2 @fa_84_3)))))))))))))))))))))))))))))))))))))))))))))))))))))))))))))))))))
theorem rRight_spec (p b : Int) (m : Bool) (t : Int) (w : World) : Gives Try.prog n_loamref14_Right #[hd p b m t] w (.bool (rightV p b m t)) := by
  refine loamref14_Right_of ?_
  unfold loamref14_Right
  simp (disch := (first | omega | decide | (simp only [World.size_alloc, World.size_setCell, World.size_drew, size_sets, List.mem_cons, List.not_mem_nil, or_false, not_false_eq_true] <;> omega) | fail)) only [↓rsHead_2, rsHead_1, Option.isNone_some, Option.isNone_none, tick_eq, tickV_eq, ne_eq, Int.reduceAdd, Int.reduceSub, Int.reduceMul, Int.reduceEq, Int.reduceLT, Int.reduceLE, Int.reduceToNat, Nat.reduceMul, Nat.reduceAdd, Nat.reduceSub, List.nil_append, List.cons_append, List.getElem?_toArray, List.getElem?_cons_zero, List.getElem?_cons_succ, List.setIfInBounds_toArray, List.set_cons_zero, List.set_cons_succ, Option.map_some, List.not_mem_nil, ←decide_not, eq_self]
  cases m
  · simp (disch := (first | omega | decide | (simp only [World.size_alloc, World.size_setCell, World.size_drew, size_sets, List.mem_cons, List.not_mem_nil, or_false, not_false_eq_true] <;> omega) | fail)) only [↓rsHead_2, rsHead_1, Option.isNone_some, Option.isNone_none, tick_eq, tickV_eq, ne_eq, Int.reduceAdd, Int.reduceSub, Int.reduceMul, Int.reduceEq, Int.reduceLT, Int.reduceLE, Int.reduceToNat, Nat.reduceMul, Nat.reduceAdd, Nat.reduceSub, List.nil_append, List.cons_append, List.getElem?_toArray, List.getElem?_cons_zero, List.getElem?_cons_succ, List.setIfInBounds_toArray, List.set_cons_zero, List.set_cons_succ, Option.map_some, List.not_mem_nil, ←decide_not, eq_self]
    by_cases g2 : ¬ 0 ≤ p
    · have hv : rightV p b false t = false := decide_eq_false (by rw [right_f]; omega)
      simp (disch := (first | omega | decide | (simp only [World.size_alloc, World.size_setCell, World.size_drew, size_sets, List.mem_cons, List.not_mem_nil, or_false, not_false_eq_true] <;> omega) | fail)) only [↓rsHead_2, rsHead_1, Option.isNone_some, Option.isNone_none, tick_eq, tickV_eq, ne_eq, Int.reduceAdd, Int.reduceSub, Int.reduceMul, Int.reduceEq, Int.reduceLT, Int.reduceLE, Int.reduceToNat, Nat.reduceMul, Nat.reduceAdd, Nat.reduceSub, List.nil_append, List.cons_append, List.getElem?_toArray, List.getElem?_cons_zero, List.getElem?_cons_succ, List.setIfInBounds_toArray, List.set_cons_zero, List.set_cons_succ, Option.map_some, List.not_mem_nil, ←decide_not, eq_self, g2, hv]
      exact ⟨by trivial, by (repeat (first | with_reducible exact Ext.refl _ _ | with_reducible assumption | with_reducible refine Ext.alloc' ?_ _ | with_reducible refine Ext.drew' ?_ | with_reducible refine Ext.set' ?_ ?_ | exact .inr (by first | omega | (simp only [World.size_alloc, World.size_drew, World.size_setCell] <;> omega)) | refine Ext.trans ?_ (by with_reducible assumption)))⟩
    replace g2 := Decidable.not_not.1 g2
    by_cases g3 : ¬ p ≤ 64
    · have hv : rightV p b false t = false := decide_eq_false (by rw [right_f]; omega)
      simp (disch := (first | omega | decide | (simp only [World.size_alloc, World.size_setCell, World.size_drew, size_sets, List.mem_cons, List.not_mem_nil, or_false, not_false_eq_true] <;> omega) | fail)) only [↓rsHead_2, rsHead_1, Option.isNone_some, Option.isNone_none, tick_eq, tickV_eq, ne_eq, Int.reduceAdd, Int.reduceSub, Int.reduceMul, Int.reduceEq, Int.reduceLT, Int.reduceLE, Int.reduceToNat, Nat.reduceMul, Nat.reduceAdd, Nat.reduceSub, List.nil_append, List.cons_append, List.getElem?_toArray, List.getElem?_cons_zero, List.getElem?_cons_succ, List.setIfInBounds_toArray, List.set_cons_zero, List.set_cons_succ, Option.map_some, List.not_mem_nil, ←decide_not, eq_true g2, g3, hv]
      exact ⟨by trivial, by (repeat (first | with_reducible exact Ext.refl _ _ | with_reducible assumption | with_reducible refine Ext.alloc' ?_ _ | with_reducible refine Ext.drew' ?_ | with_reducible refine Ext.set' ?_ ?_ | exact .inr (by first | omega | (simp only [World.size_alloc, World.size_drew, World.size_setCell] <;> omega)) | refine Ext.trans ?_ (by with_reducible assumption)))⟩
    replace g3 := Decidable.not_not.1 g3
    by_cases g4 : ¬ 0 ≤ b
    · have hv : rightV p b false t = false := decide_eq_false (by rw [right_f]; omega)
      simp (disch := (first | omega | decide | (simp only [World.size_alloc, World.size_setCell, World.size_drew, size_sets, List.mem_cons, List.not_mem_nil, or_false, not_false_eq_true] <;> omega) | fail)) only [↓rsHead_2, rsHead_1, Option.isNone_some, Option.isNone_none, tick_eq, tickV_eq, ne_eq, Int.reduceAdd, Int.reduceSub, Int.reduceMul, Int.reduceEq, Int.reduceLT, Int.reduceLE, Int.reduceToNat, Nat.reduceMul, Nat.reduceAdd, Nat.reduceSub, List.nil_append, List.cons_append, List.getElem?_toArray, List.getElem?_cons_zero, List.getElem?_cons_succ, List.setIfInBounds_toArray, List.set_cons_zero, List.set_cons_succ, Option.map_some, List.not_mem_nil, ←decide_not, eq_true g2, eq_true g3, g4, hv]
      exact ⟨by trivial, by (repeat (first | with_reducible exact Ext.refl _ _ | with_reducible assumption | with_reducible refine Ext.alloc' ?_ _ | with_reducible refine Ext.drew' ?_ | with_reducible refine Ext.set' ?_ ?_ | exact .inr (by first | omega | (simp only [World.size_alloc, World.size_drew, World.size_setCell] <;> omega)) | refine Ext.trans ?_ (by with_reducible assumption)))⟩
    replace g4 := Decidable.not_not.1 g4
    by_cases g5 : ¬ b ≤ 1024
    · have hv : rightV p b false t = false := decide_eq_false (by rw [right_f]; omega)
      simp (disch := (first | omega | decide | (simp only [World.size_alloc, World.size_setCell, World.size_drew, size_sets, List.mem_cons, List.not_mem_nil, or_false, not_false_eq_true] <;> omega) | fail)) only [↓rsHead_2, rsHead_1, Option.isNone_some, Option.isNone_none, tick_eq, tickV_eq, ne_eq, Int.reduceAdd, Int.reduceSub, Int.reduceMul, Int.reduceEq, Int.reduceLT, Int.reduceLE, Int.reduceToNat, Nat.reduceMul, Nat.reduceAdd, Nat.reduceSub, List.nil_append, List.cons_append, List.getElem?_toArray, List.getElem?_cons_zero, List.getElem?_cons_succ, List.setIfInBounds_toArray, List.set_cons_zero, List.set_cons_succ, Option.map_some, List.not_mem_nil, ←decide_not, eq_true g2, eq_true g3, eq_true g4, g5, hv]
      exact ⟨by trivial, by (repeat (first | with_reducible exact Ext.refl _ _ | with_reducible assumption | with_reducible refine Ext.alloc' ?_ _ | with_reducible refine Ext.drew' ?_ | with_reducible refine Ext.set' ?_ ?_ | exact .inr (by first | omega | (simp only [World.size_alloc, World.size_drew, World.size_setCell] <;> omega)) | refine Ext.trans ?_ (by with_reducible assumption)))⟩
    replace g5 := Decidable.not_not.1 g5
    by_cases g1 : ¬ t = 0
    · have hv : rightV p b false t = false := decide_eq_false (by rw [right_f]; omega)
      simp (disch := (first | omega | decide | (simp only [World.size_alloc, World.size_setCell, World.size_drew, size_sets, List.mem_cons, List.not_mem_nil, or_false, not_false_eq_true] <;> omega) | fail)) only [↓rsHead_2, rsHead_1, Option.isNone_some, Option.isNone_none, tick_eq, tickV_eq, ne_eq, Int.reduceAdd, Int.reduceSub, Int.reduceMul, Int.reduceEq, Int.reduceLT, Int.reduceLE, Int.reduceToNat, Nat.reduceMul, Nat.reduceAdd, Nat.reduceSub, List.nil_append, List.cons_append, List.getElem?_toArray, List.getElem?_cons_zero, List.getElem?_cons_succ, List.setIfInBounds_toArray, List.set_cons_zero, List.set_cons_succ, Option.map_some, List.not_mem_nil, ←decide_not, eq_true g2, eq_true g3, eq_true g4, eq_true g5, g1, hv]
      exact ⟨by trivial, by (repeat (first | with_reducible exact Ext.refl _ _ | with_reducible assumption | with_reducible refine Ext.alloc' ?_ _ | with_reducible refine Ext.drew' ?_ | with_reducible refine Ext.set' ?_ ?_ | exact .inr (by first | omega | (simp only [World.size_alloc, World.size_drew, World.size_setCell] <;> omega)) | refine Ext.trans ?_ (by with_reducible assumption)))⟩
    replace g1 := Decidable.not_not.1 g1
    have hv : rightV p b false t = true := decide_eq_true (by rw [right_f]; omega)
    simp (disch := (first | omega | decide | (simp only [World.size_alloc, World.size_setCell, World.size_drew, size_sets, List.mem_cons, List.not_mem_nil, or_false, not_false_eq_true] <;> omega) | fail)) only [↓rsHead_2, rsHead_1, Option.isNone_some, Option.isNone_none, tick_eq, tickV_eq, ne_eq, Int.reduceAdd, Int.reduceSub, Int.reduceMul, Int.reduceEq, Int.reduceLT, Int.reduceLE, Int.reduceToNat, Nat.reduceMul, Nat.reduceAdd, Nat.reduceSub, List.nil_append, List.cons_append, List.getElem?_toArray, List.getElem?_cons_zero, List.getElem?_cons_succ, List.setIfInBounds_toArray, List.set_cons_zero, List.set_cons_succ, Option.map_some, List.not_mem_nil, ←decide_not, eq_true g2, eq_true g3, eq_true g4, eq_true g5, eq_true g1, hv]
    exact ⟨by trivial, by (repeat (first | with_reducible exact Ext.refl _ _ | with_reducible assumption | with_reducible refine Ext.alloc' ?_ _ | with_reducible refine Ext.drew' ?_ | with_reducible refine Ext.set' ?_ ?_ | exact .inr (by first | omega | (simp only [World.size_alloc, World.size_drew, World.size_setCell] <;> omega)) | refine Ext.trans ?_ (by with_reducible assumption)))⟩
  · simp (disch := (first | omega | decide | (simp only [World.size_alloc, World.size_setCell, World.size_drew, size_sets, List.mem_cons, List.not_mem_nil, or_false, not_false_eq_true] <;> omega) | fail)) only [↓rsHead_2, rsHead_1, Option.isNone_some, Option.isNone_none, tick_eq, tickV_eq, ne_eq, Int.reduceAdd, Int.reduceSub, Int.reduceMul, Int.reduceEq, Int.reduceLT, Int.reduceLE, Int.reduceToNat, Nat.reduceMul, Nat.reduceAdd, Nat.reduceSub, List.nil_append, List.cons_append, List.getElem?_toArray, List.getElem?_cons_zero, List.getElem?_cons_succ, List.setIfInBounds_toArray, List.set_cons_zero, List.set_cons_succ, Option.map_some, List.not_mem_nil, ←decide_not, eq_self]
    by_cases g1 : ¬ p = 0
    · have hv : rightV p b true t = false := decide_eq_false (by rw [right_t]; omega)
      simp (disch := (first | omega | decide | (simp only [World.size_alloc, World.size_setCell, World.size_drew, size_sets, List.mem_cons, List.not_mem_nil, or_false, not_false_eq_true] <;> omega) | fail)) only [↓rsHead_2, rsHead_1, Option.isNone_some, Option.isNone_none, tick_eq, tickV_eq, ne_eq, Int.reduceAdd, Int.reduceSub, Int.reduceMul, Int.reduceEq, Int.reduceLT, Int.reduceLE, Int.reduceToNat, Nat.reduceMul, Nat.reduceAdd, Nat.reduceSub, List.nil_append, List.cons_append, List.getElem?_toArray, List.getElem?_cons_zero, List.getElem?_cons_succ, List.setIfInBounds_toArray, List.set_cons_zero, List.set_cons_succ, Option.map_some, List.not_mem_nil, ←decide_not, eq_self, g1, hv]
      exact ⟨by trivial, by (repeat (first | with_reducible exact Ext.refl _ _ | with_reducible assumption | with_reducible refine Ext.alloc' ?_ _ | with_reducible refine Ext.drew' ?_ | with_reducible refine Ext.set' ?_ ?_ | exact .inr (by first | omega | (simp only [World.size_alloc, World.size_drew, World.size_setCell] <;> omega)) | refine Ext.trans ?_ (by with_reducible assumption)))⟩
    replace g1 := Decidable.not_not.1 g1
    by_cases g2 : ¬ b = 0
    · have hv : rightV p b true t = false := decide_eq_false (by rw [right_t]; omega)
      simp (disch := (first | omega | decide | (simp only [World.size_alloc, World.size_setCell, World.size_drew, size_sets, List.mem_cons, List.not_mem_nil, or_false, not_false_eq_true] <;> omega) | fail)) only [↓rsHead_2, rsHead_1, Option.isNone_some, Option.isNone_none, tick_eq, tickV_eq, ne_eq, Int.reduceAdd, Int.reduceSub, Int.reduceMul, Int.reduceEq, Int.reduceLT, Int.reduceLE, Int.reduceToNat, Nat.reduceMul, Nat.reduceAdd, Nat.reduceSub, List.nil_append, List.cons_append, List.getElem?_toArray, List.getElem?_cons_zero, List.getElem?_cons_succ, List.setIfInBounds_toArray, List.set_cons_zero, List.set_cons_succ, Option.map_some, List.not_mem_nil, ←decide_not, eq_true g1, g2, hv]
      exact ⟨by trivial, by (repeat (first | with_reducible exact Ext.refl _ _ | with_reducible assumption | with_reducible refine Ext.alloc' ?_ _ | with_reducible refine Ext.drew' ?_ | with_reducible refine Ext.set' ?_ ?_ | exact .inr (by first | omega | (simp only [World.size_alloc, World.size_drew, World.size_setCell] <;> omega)) | refine Ext.trans ?_ (by with_reducible assumption)))⟩
    replace g2 := Decidable.not_not.1 g2
    by_cases g3 : ¬ 0 ≤ t
    · have hv : rightV p b true t = false := decide_eq_false (by rw [right_t]; omega)
      simp (disch := (first | omega | decide | (simp only [World.size_alloc, World.size_setCell, World.size_drew, size_sets, List.mem_cons, List.not_mem_nil, or_false, not_false_eq_true] <;> omega) | fail)) only [↓rsHead_2, rsHead_1, Option.isNone_some, Option.isNone_none, tick_eq, tickV_eq, ne_eq, Int.reduceAdd, Int.reduceSub, Int.reduceMul, Int.reduceEq, Int.reduceLT, Int.reduceLE, Int.reduceToNat, Nat.reduceMul, Nat.reduceAdd, Nat.reduceSub, List.nil_append, List.cons_append, List.getElem?_toArray, List.getElem?_cons_zero, List.getElem?_cons_succ, List.setIfInBounds_toArray, List.set_cons_zero, List.set_cons_succ, Option.map_some, List.not_mem_nil, ←decide_not, eq_true g1, eq_true g2, g3, hv]
      exact ⟨by trivial, by (repeat (first | with_reducible exact Ext.refl _ _ | with_reducible assumption | with_reducible refine Ext.alloc' ?_ _ | with_reducible refine Ext.drew' ?_ | with_reducible refine Ext.set' ?_ ?_ | exact .inr (by first | omega | (simp only [World.size_alloc, World.size_drew, World.size_setCell] <;> omega)) | refine Ext.trans ?_ (by with_reducible assumption)))⟩
    replace g3 := Decidable.not_not.1 g3
    by_cases g4 : ¬ t < 8192
    · have hv : rightV p b true t = false := decide_eq_false (by rw [right_t]; omega)
      simp (disch := (first | omega | decide | (simp only [World.size_alloc, World.size_setCell, World.size_drew, size_sets, List.mem_cons, List.not_mem_nil, or_false, not_false_eq_true] <;> omega) | fail)) only [↓rsHead_2, rsHead_1, Option.isNone_some, Option.isNone_none, tick_eq, tickV_eq, ne_eq, Int.reduceAdd, Int.reduceSub, Int.reduceMul, Int.reduceEq, Int.reduceLT, Int.reduceLE, Int.reduceToNat, Nat.reduceMul, Nat.reduceAdd, Nat.reduceSub, List.nil_append, List.cons_append, List.getElem?_toArray, List.getElem?_cons_zero, List.getElem?_cons_succ, List.setIfInBounds_toArray, List.set_cons_zero, List.set_cons_succ, Option.map_some, List.not_mem_nil, ←decide_not, eq_true g1, eq_true g2, eq_true g3, g4, hv]
      exact ⟨by trivial, by (repeat (first | with_reducible exact Ext.refl _ _ | with_reducible assumption | with_reducible refine Ext.alloc' ?_ _ | with_reducible refine Ext.drew' ?_ | with_reducible refine Ext.set' ?_ ?_ | exact .inr (by first | omega | (simp only [World.size_alloc, World.size_drew, World.size_setCell] <;> omega)) | refine Ext.trans ?_ (by with_reducible assumption)))⟩
    replace g4 := Decidable.not_not.1 g4
    have hv : rightV p b true t = true := decide_eq_true (by rw [right_t]; omega)
    simp (disch := (first | omega | decide | (simp only [World.size_alloc, World.size_setCell, World.size_drew, size_sets, List.mem_cons, List.not_mem_nil, or_false, not_false_eq_true] <;> omega) | fail)) only [↓rsHead_2, rsHead_1, Option.isNone_some, Option.isNone_none, tick_eq, tickV_eq, ne_eq, Int.reduceAdd, Int.reduceSub, Int.reduceMul, Int.reduceEq, Int.reduceLT, Int.reduceLE, Int.reduceToNat, Nat.reduceMul, Nat.reduceAdd, Nat.reduceSub, List.nil_append, List.cons_append, List.getElem?_toArray, List.getElem?_cons_zero, List.getElem?_cons_succ, List.setIfInBounds_toArray, List.set_cons_zero, List.set_cons_succ, Option.map_some, List.not_mem_nil, ←decide_not, eq_true g1, eq_true g2, eq_true g3, eq_true g4, hv]
    exact ⟨by trivial, by (repeat (first | with_reducible exact Ext.refl _ _ | with_reducible assumption | with_reducible refine Ext.alloc' ?_ _ | with_reducible refine Ext.drew' ?_ | with_reducible refine Ext.set' ?_ ?_ | exact .inr (by first | omega | (simp only [World.size_alloc, World.size_drew, World.size_setCell] <;> omega)) | refine Ext.trans ?_ (by with_reducible assumption)))⟩
abbrev rsHead_3 := (And.intro @xBox_r (And.intro @loadK_some (And.intro @loadsK_s (And.intro @loadsK_n (And.intro @loadsR_s (And.intro @loadsR_n (And.intro @storesK_s (And.intro @storesK_n (And.intro @xPick_t (And.intro @xPick_f (And.intro @xGuard_tt (And.intro @xGuard_ff (And.intro @xGuard_tf (And.intro @xGuard_ft (And.intro @xGuard_u 
  (And.intro @xNil_r (And.intro @xIf_t (And.intro @xBin_add' (And.intro @xBin_sub' (And.intro @xBin_mul' (And.intro @xBin_quo' (And.intro @xBin_rem' (And.intro @xIf_f (And.intro @xIf_tt (And.intro @xEx0 (And.intro @xEx1 (And.intro @xEx2 (And.intro @xEx3 (And.intro @xBin_eqs (And.intro @xBin_nes (And.intro @xUn_not (And.intro @xu8_or (And.intro @xu8_com 
  (And.intro @xu16_or (And.intro @xu16_com (And.intro @xu32_or (And.intro @xu32_com (And.intro @xu64_or (And.intro @xu64_com (And.intro @xi64_or (And.intro @xMakeFunc_r (And.intro @xSq_r (And.intro @xPur_s (And.intro @xRd_s (And.intro @xRe_s (And.intro @xDet_s (And.intro @xDet_ld (And.intro @xDet_ld2 (And.intro @xDet_ld3 (And.intro @xDet_ld4 (And.intro @xGuard_tt 
  (And.intro @ld_3 (And.intro @ld_4 (And.intro @ld_123 (And.intro @fa_123_0 (And.intro @fa_123_1 (And.intro @fa_123_2 (And.intro @fa_123_3 @cv_3_69))))))))))))))))))))))))))))))))))))))))))))))))))))))))))
theorem Pack_spec (p b : Int) (m : Bool) (t : Int) (w : World) : Gives Try.prog n_head_Pack #[hd p b m t] w (.tuple #[u64 (packW p b m t), i64 (packE p b m t)]) := by
  refine head_Pack_of ?_
  unfold head_Pack
  simp (disch := (first | omega | decide | (simp only [World.size_alloc, World.size_setCell, World.size_drew, size_sets, List.mem_cons, List.not_mem_nil, or_false, not_false_eq_true] <;> omega) | fail)) only [↓rsHead_3, rsHead_1, Option.isNone_some, Option.isNone_none, tick_eq, tickV_eq, ne_eq, Int.reduceAdd, Int.reduceSub, Int.reduceMul, Int.reduceEq, Int.reduceLT, Int.reduceLE, Int.reduceToNat, Nat.reduceMul, Nat.reduceAdd, Nat.reduceSub, List.nil_append, List.cons_append, List.getElem?_toArray, List.getElem?_cons_zero, List.getElem?_cons_succ, List.setIfInBounds_toArray, List.set_cons_zero, List.set_cons_succ, Option.map_some, List.not_mem_nil, ←decide_not, eq_self]
  refine head_Right_call (Gives.to (Right_spec _ _ _ _ _) fun w1 E1 => ?_)
  have z1 := E1.size
  try simp only [World.size_alloc, World.size_setCell, World.size_drew] at z1
  have e1_0 : ∀ o, w1.cell? ⟨w.heap.size, o, none⟩ = _ := fun o => E1.cell_o (by first | omega | (simp only [World.size_alloc, World.size_setCell, World.size_drew, size_sets] <;> omega))
  by_cases h : rightP p b m t
  rotate_left
  · have h1 : rightV p b m t = false := decide_eq_false h
    simp (disch := (first | omega | decide | (simp only [World.size_alloc, World.size_setCell, World.size_drew, size_sets, List.mem_cons, List.not_mem_nil, or_false, not_false_eq_true] <;> omega) | fail)) only [↓rsHead_3, rsHead_1, Option.isNone_some, Option.isNone_none, tick_eq, tickV_eq, ne_eq, Int.reduceAdd, Int.reduceSub, Int.reduceMul, Int.reduceEq, Int.reduceLT, Int.reduceLE, Int.reduceToNat, Nat.reduceMul, Nat.reduceAdd, Nat.reduceSub, List.nil_append, List.cons_append, List.getElem?_toArray, List.getElem?_cons_zero, List.getElem?_cons_succ, List.setIfInBounds_toArray, List.set_cons_zero, List.set_cons_succ, Option.map_some, List.not_mem_nil, ←decide_not, e1_0, h1]
    exact ⟨by simp only [packW, packE, if_neg h], by (repeat (first | with_reducible exact Ext.refl _ _ | with_reducible assumption | with_reducible refine Ext.alloc' ?_ _ | with_reducible refine Ext.drew' ?_ | with_reducible refine Ext.set' ?_ ?_ | exact .inr (by first | omega | (simp only [World.size_alloc, World.size_drew, World.size_setCell] <;> omega)) | refine Ext.trans ?_ (by with_reducible assumption)))⟩
  have h1 : rightV p b m t = true := decide_eq_true h
  cases m
  · simp (disch := (first | omega | decide | (simp only [World.size_alloc, World.size_setCell, World.size_drew, size_sets, List.mem_cons, List.not_mem_nil, or_false, not_false_eq_true] <;> omega) | fail)) only [↓rsHead_3, rsHead_1, Option.isNone_some, Option.isNone_none, tick_eq, tickV_eq, ne_eq, Int.reduceAdd, Int.reduceSub, Int.reduceMul, Int.reduceEq, Int.reduceLT, Int.reduceLE, Int.reduceToNat, Nat.reduceMul, Nat.reduceAdd, Nat.reduceSub, List.nil_append, List.cons_append, List.getElem?_toArray, List.getElem?_cons_zero, List.getElem?_cons_succ, List.setIfInBounds_toArray, List.set_cons_zero, List.set_cons_succ, Option.map_some, List.not_mem_nil, ←decide_not, e1_0, h1]
    refine xDraw_ext [] [] ?_
    simp (disch := (first | omega | decide | (simp only [World.size_alloc, World.size_setCell, World.size_drew, size_sets, List.mem_cons, List.not_mem_nil, or_false, not_false_eq_true] <;> omega) | fail)) only [↓rsHead_3, rsHead_1, Option.isNone_some, Option.isNone_none, tick_eq, tickV_eq, ne_eq, Int.reduceAdd, Int.reduceSub, Int.reduceMul, Int.reduceEq, Int.reduceLT, Int.reduceLE, Int.reduceToNat, Nat.reduceMul, Nat.reduceAdd, Nat.reduceSub, List.nil_append, List.cons_append, List.getElem?_toArray, List.getElem?_cons_zero, List.getElem?_cons_succ, List.setIfInBounds_toArray, List.set_cons_zero, List.set_cons_succ, Option.map_some, List.not_mem_nil, ←decide_not, e1_0, h1]
    apply xDet_x
    · exact fun w hw => bits_With_call (Gives.lq (With_spec _ _ _ _ _))
    simp (disch := (first | omega | decide | (simp only [World.size_alloc, World.size_setCell, World.size_drew, size_sets, List.mem_cons, List.not_mem_nil, or_false, not_false_eq_true] <;> omega) | fail)) only [↓rsHead_3, rsHead_1, Option.isNone_some, Option.isNone_none, tick_eq, tickV_eq, ne_eq, Int.reduceAdd, Int.reduceSub, Int.reduceMul, Int.reduceEq, Int.reduceLT, Int.reduceLE, Int.reduceToNat, Nat.reduceMul, Nat.reduceAdd, Nat.reduceSub, List.nil_append, List.cons_append, List.getElem?_toArray, List.getElem?_cons_zero, List.getElem?_cons_succ, List.setIfInBounds_toArray, List.set_cons_zero, List.set_cons_succ, Option.map_some, List.not_mem_nil, ←decide_not, e1_0, h1]
    apply xDet_x
    · exact fun w hw => bits_With_call (Gives.lq (With_spec _ _ _ _ _))
    simp (disch := (first | omega | decide | (simp only [World.size_alloc, World.size_setCell, World.size_drew, size_sets, List.mem_cons, List.not_mem_nil, or_false, not_false_eq_true] <;> omega) | fail)) only [↓rsHead_3, rsHead_1, Option.isNone_some, Option.isNone_none, tick_eq, tickV_eq, ne_eq, Int.reduceAdd, Int.reduceSub, Int.reduceMul, Int.reduceEq, Int.reduceLT, Int.reduceLE, Int.reduceToNat, Nat.reduceMul, Nat.reduceAdd, Nat.reduceSub, List.nil_append, List.cons_append, List.getElem?_toArray, List.getElem?_cons_zero, List.getElem?_cons_succ, List.setIfInBounds_toArray, List.set_cons_zero, List.set_cons_succ, Option.map_some, List.not_mem_nil, ←decide_not, e1_0, h1]
    refine xEnd_i fun w9 hw => ⟨?_, Ext.trans ?_ hw.ext⟩
    · have hr := right_f.1 h
      rw [pack_with_n (by omega) (by omega)]
      simp only [packW, packE, packI, if_pos h, Bool.false_eq_true, if_false]
    · (repeat (first | with_reducible exact Ext.refl _ _ | with_reducible assumption | with_reducible refine Ext.alloc' ?_ _ | with_reducible refine Ext.drew' ?_ | with_reducible refine Ext.set' ?_ ?_ | exact .inr (by first | omega | (simp only [World.size_alloc, World.size_drew, World.size_setCell] <;> omega)) | refine Ext.trans ?_ (by with_reducible assumption)))
  · simp (disch := (first | omega | decide | (simp only [World.size_alloc, World.size_setCell, World.size_drew, size_sets, List.mem_cons, List.not_mem_nil, or_false, not_false_eq_true] <;> omega) | fail)) only [↓rsHead_3, rsHead_1, Option.isNone_some, Option.isNone_none, tick_eq, tickV_eq, ne_eq, Int.reduceAdd, Int.reduceSub, Int.reduceMul, Int.reduceEq, Int.reduceLT, Int.reduceLE, Int.reduceToNat, Nat.reduceMul, Nat.reduceAdd, Nat.reduceSub, List.nil_append, List.cons_append, List.getElem?_toArray, List.getElem?_cons_zero, List.getElem?_cons_succ, List.setIfInBounds_toArray, List.set_cons_zero, List.set_cons_succ, Option.map_some, List.not_mem_nil, ←decide_not, e1_0, h1]
    refine bits_With_call (Gives.to (With_spec _ _ _ _ _) fun w2 E2 => ?_)
    have z2 := E2.size
    try simp only [World.size_alloc, World.size_setCell, World.size_drew] at z2
    simp (disch := (first | omega | decide | (simp only [World.size_alloc, World.size_setCell, World.size_drew, size_sets, List.mem_cons, List.not_mem_nil, or_false, not_false_eq_true] <;> omega) | fail)) only [↓rsHead_3, rsHead_1, Option.isNone_some, Option.isNone_none, tick_eq, tickV_eq, ne_eq, Int.reduceAdd, Int.reduceSub, Int.reduceMul, Int.reduceEq, Int.reduceLT, Int.reduceLE, Int.reduceToNat, Nat.reduceMul, Nat.reduceAdd, Nat.reduceSub, List.nil_append, List.cons_append, List.getElem?_toArray, List.getElem?_cons_zero, List.getElem?_cons_succ, List.setIfInBounds_toArray, List.set_cons_zero, List.set_cons_succ, Option.map_some, List.not_mem_nil, ←decide_not, e1_0, h1]
    refine ⟨?_, by (repeat (first | with_reducible exact Ext.refl _ _ | with_reducible assumption | with_reducible refine Ext.alloc' ?_ _ | with_reducible refine Ext.drew' ?_ | with_reducible refine Ext.set' ?_ ?_ | exact .inr (by first | omega | (simp only [World.size_alloc, World.size_drew, World.size_setCell] <;> omega)) | refine Ext.trans ?_ (by with_reducible assumption)))⟩
    have hr := right_t.1 h
    rw [pack_with_m (by omega)]
    simp only [packW, packE, packI, if_pos h, if_true]
abbrev rsHead_4 := (And.intro @xBox_r (And.intro @loadK_some (And.intro @loadsK_s (And.intro @loadsK_n (And.intro @loadsR_s (And.intro @loadsR_n (And.intro @storesK_s (And.intro @storesK_n (And.intro @xPick_t (And.intro @xPick_f (And.intro @xGuard_tt (And.intro @xGuard_ff (And.intro @xGuard_tf (And.intro @xGuard_ft (And.intro @xGuard_u 
  (And.intro @xNil_r (And.intro @xIf_t (And.intro @xBin_add' (And.intro @xBin_sub' (And.intro @xBin_mul' (And.intro @xBin_quo' (And.intro @xBin_rem' (And.intro @xIf_f (And.intro @xIf_tt (And.intro @xEx0 (And.intro @xEx1 (And.intro @xEx2 (And.intro @xEx3 (And.intro @xBin_eqs (And.intro @xBin_nes (And.intro @xUn_not (And.intro @xu8_add (And.intro @xu8_com 
  (And.intro @xu8_shl (And.intro @xu16_add (And.intro @xu16_com (And.intro @xu16_shl (And.intro @xu32_add (And.intro @xu32_com (And.intro @xu32_shl (And.intro @xu64_add (And.intro @xu64_com (And.intro @xu64_shl (And.intro @xi64_shl (And.intro @xMakeFunc_r (And.intro @xSq_r (And.intro @xPur_s (And.intro @xRd_s (And.intro @xRe_s (And.intro @xDet_s 
  (And.intro @xDet_ld (And.intro @xDet_ld2 (And.intro @xDet_ld3 (And.intro @xDet_ld4 (And.intro @xGuard_tt (And.intro @ld_3 (And.intro @ld_4 (And.intro @ld_84 (And.intro @fa_84_0 (And.intro @fa_84_1 (And.intro @fa_84_2 (And.intro @fa_84_3 @cv_3_69))))))))))))))))))))))))))))))))))))))))))))))))))))))))))))))
theorem rPack_spec (p b : Int) (m : Bool) (t : Int) (w : World) : Gives Try.prog n_loamref14_Pack #[hd p b m t] w (.tuple #[u64 (packW p b m t), i64 (packE p b m t)]) := by
  refine loamref14_Pack_of ?_
  unfold loamref14_Pack
  simp (disch := (first | omega | decide | (simp only [World.size_alloc, World.size_setCell, World.size_drew, size_sets, List.mem_cons, List.not_mem_nil, or_false, not_false_eq_true] <;> omega) | fail)) only [↓rsHead_4, rsHead_1, Option.isNone_some, Option.isNone_none, tick_eq, tickV_eq, ne_eq, Int.reduceAdd, Int.reduceSub, Int.reduceMul, Int.reduceEq, Int.reduceLT, Int.reduceLE, Int.reduceToNat, Nat.reduceMul, Nat.reduceAdd, Nat.reduceSub, List.nil_append, List.cons_append, List.getElem?_toArray, List.getElem?_cons_zero, List.getElem?_cons_succ, List.setIfInBounds_toArray, List.set_cons_zero, List.set_cons_succ, Option.map_some, List.not_mem_nil, ←decide_not, eq_self]
  refine loamref14_Right_call (Gives.to (rRight_spec _ _ _ _ _) fun w1 E1 => ?_)
  have z1 := E1.size
  try simp only [World.size_alloc, World.size_setCell, World.size_drew] at z1
  have e1_0 : ∀ o, w1.cell? ⟨w.heap.size, o, none⟩ = _ := fun o => E1.cell_o (by first | omega | (simp only [World.size_alloc, World.size_setCell, World.size_drew, size_sets] <;> omega))
  by_cases h : rightP p b m t
  rotate_left
  · have h1 : rightV p b m t = false := decide_eq_false h
    simp (disch := (first | omega | decide | (simp only [World.size_alloc, World.size_setCell, World.size_drew, size_sets, List.mem_cons, List.not_mem_nil, or_false, not_false_eq_true] <;> omega) | fail)) only [↓rsHead_4, rsHead_1, Option.isNone_some, Option.isNone_none, tick_eq, tickV_eq, ne_eq, Int.reduceAdd, Int.reduceSub, Int.reduceMul, Int.reduceEq, Int.reduceLT, Int.reduceLE, Int.reduceToNat, Nat.reduceMul, Nat.reduceAdd, Nat.reduceSub, List.nil_append, List.cons_append, List.getElem?_toArray, List.getElem?_cons_zero, List.getElem?_cons_succ, List.setIfInBounds_toArray, List.set_cons_zero, List.set_cons_succ, Option.map_some, List.not_mem_nil, ←decide_not, e1_0, h1]
    exact ⟨by simp only [packW, packE, if_neg h], by (repeat (first | with_reducible exact Ext.refl _ _ | with_reducible assumption | with_reducible refine Ext.alloc' ?_ _ | with_reducible refine Ext.drew' ?_ | with_reducible refine Ext.set' ?_ ?_ | exact .inr (by first | omega | (simp only [World.size_alloc, World.size_drew, World.size_setCell] <;> omega)) | refine Ext.trans ?_ (by with_reducible assumption)))⟩
  have h1 : rightV p b m t = true := decide_eq_true h
  cases m
  · simp (disch := (first | omega | decide | (simp only [World.size_alloc, World.size_setCell, World.size_drew, size_sets, List.mem_cons, List.not_mem_nil, or_false, not_false_eq_true] <;> omega) | fail)) only [↓rsHead_4, rsHead_1, Option.isNone_some, Option.isNone_none, tick_eq, tickV_eq, ne_eq, Int.reduceAdd, Int.reduceSub, Int.reduceMul, Int.reduceEq, Int.reduceLT, Int.reduceLE, Int.reduceToNat, Nat.reduceMul, Nat.reduceAdd, Nat.reduceSub, List.nil_append, List.cons_append, List.getElem?_toArray, List.getElem?_cons_zero, List.getElem?_cons_succ, List.setIfInBounds_toArray, List.set_cons_zero, List.set_cons_succ, Option.map_some, List.not_mem_nil, ←decide_not, e1_0, h1]
    refine ⟨?_, by (repeat (first | with_reducible exact Ext.refl _ _ | with_reducible assumption | with_reducible refine Ext.alloc' ?_ _ | with_reducible refine Ext.drew' ?_ | with_reducible refine Ext.set' ?_ ?_ | exact .inr (by first | omega | (simp only [World.size_alloc, World.size_drew, World.size_setCell] <;> omega)) | refine Ext.trans ?_ (by with_reducible assumption)))⟩
    have hr := right_f.1 h
    rw [pack_add_n (by omega) (by omega)]
    simp only [packW, packE, packI, if_pos h, Bool.false_eq_true, if_false]
  · simp (disch := (first | omega | decide | (simp only [World.size_alloc, World.size_setCell, World.size_drew, size_sets, List.mem_cons, List.not_mem_nil, or_false, not_false_eq_true] <;> omega) | fail)) only [↓rsHead_4, rsHead_1, Option.isNone_some, Option.isNone_none, tick_eq, tickV_eq, ne_eq, Int.reduceAdd, Int.reduceSub, Int.reduceMul, Int.reduceEq, Int.reduceLT, Int.reduceLE, Int.reduceToNat, Nat.reduceMul, Nat.reduceAdd, Nat.reduceSub, List.nil_append, List.cons_append, List.getElem?_toArray, List.getElem?_cons_zero, List.getElem?_cons_succ, List.setIfInBounds_toArray, List.set_cons_zero, List.set_cons_succ, Option.map_some, List.not_mem_nil, ←decide_not, e1_0, h1]
    refine ⟨?_, by (repeat (first | with_reducible exact Ext.refl _ _ | with_reducible assumption | with_reducible refine Ext.alloc' ?_ _ | with_reducible refine Ext.drew' ?_ | with_reducible refine Ext.set' ?_ ?_ | exact .inr (by first | omega | (simp only [World.size_alloc, World.size_drew, World.size_setCell] <;> omega)) | refine Ext.trans ?_ (by with_reducible assumption)))⟩
    have hr := right_t.1 h
    rw [pack_add_m (by omega)]
    simp only [packW, packE, packI, if_pos h, if_true]
def sizeV (p b : Int) (m : Bool) (t : Int) : Int := if rightP p b m t ∧ m = false then 1 + p + (b + 7) / 8 else 0
abbrev rsHead_5 := (And.intro @xBox_r (And.intro @loadK_some (And.intro @loadsK_s (And.intro @loadsK_n (And.intro @loadsR_s (And.intro @loadsR_n (And.intro @storesK_s (And.intro @storesK_n (And.intro @xPick_t (And.intro @xPick_f (And.intro @xGuard_tt (And.intro @xGuard_ff (And.intro @xGuard_tf (And.intro @xGuard_ft (And.intro @xGuard_u 
  (And.intro @xNil_r (And.intro @xIf_t (And.intro @xBin_add' (And.intro @xBin_sub' (And.intro @xBin_mul' (And.intro @xBin_quo' (And.intro @xBin_rem' (And.intro @xIf_f (And.intro @xIf_tt (And.intro @xEx0 (And.intro @xEx1 (And.intro @xEx2 (And.intro @xEx3 (And.intro @xBin_eqs (And.intro @xBin_nes (And.intro @xUn_not (And.intro @xu8_add (And.intro @xu8_sub 
  (And.intro @xu8_quo (And.intro @xu8_com (And.intro @xu16_add (And.intro @xu16_sub (And.intro @xu16_quo (And.intro @xu16_com (And.intro @xu32_add (And.intro @xu32_sub (And.intro @xu32_quo (And.intro @xu32_com (And.intro @xu64_add (And.intro @xu64_sub (And.intro @xu64_quo (And.intro @xu64_com (And.intro @xMakeFunc_r (And.intro @xSq_r (And.intro @xPur_s 
  (And.intro @xRd_s (And.intro @xRe_s (And.intro @xDet_s (And.intro @xDet_ld (And.intro @xDet_ld2 (And.intro @xDet_ld3 (And.intro @xDet_ld4 (And.intro @xGuard_tt (And.intro @ld_3 (And.intro @ld_4 (And.intro @ld_123 (And.intro @fa_123_0 (And.intro @fa_123_1 @fa_123_2)))))))))))))))))))))))))))))))))))))))))))))))))))))))))))))))
theorem Size_spec (p b : Int) (m : Bool) (t : Int) (w : World) : Gives Try.prog n_head_Size #[hd p b m t] w (i64 (sizeV p b m t)) := by
  refine head_Size_of ?_
  unfold head_Size
  simp (disch := (first | omega | decide | (simp only [World.size_alloc, World.size_setCell, World.size_drew, size_sets, List.mem_cons, List.not_mem_nil, or_false, not_false_eq_true] <;> omega) | fail)) only [↓rsHead_5, rsHead_1, Option.isNone_some, Option.isNone_none, tick_eq, tickV_eq, ne_eq, Int.reduceAdd, Int.reduceSub, Int.reduceMul, Int.reduceEq, Int.reduceLT, Int.reduceLE, Int.reduceToNat, Nat.reduceMul, Nat.reduceAdd, Nat.reduceSub, List.nil_append, List.cons_append, List.getElem?_toArray, List.getElem?_cons_zero, List.getElem?_cons_succ, List.setIfInBounds_toArray, List.set_cons_zero, List.set_cons_succ, Option.map_some, List.not_mem_nil, ←decide_not, eq_self]
  refine head_Right_call (Gives.to (Right_spec _ _ _ _ _) fun w1 E1 => ?_)
  have z1 := E1.size
  try simp only [World.size_alloc, World.size_setCell, World.size_drew] at z1
  have e1_0 : ∀ o, w1.cell? ⟨w.heap.size, o, none⟩ = _ := fun o => E1.cell_o (by first | omega | (simp only [World.size_alloc, World.size_setCell, World.size_drew, size_sets] <;> omega))
  by_cases h : rightP p b m t
  rotate_left
  · have h1 : rightV p b m t = false := decide_eq_false h
    simp (disch := (first | omega | decide | (simp only [World.size_alloc, World.size_setCell, World.size_drew, size_sets, List.mem_cons, List.not_mem_nil, or_false, not_false_eq_true] <;> omega) | fail)) only [↓rsHead_5, rsHead_1, Option.isNone_some, Option.isNone_none, tick_eq, tickV_eq, ne_eq, Int.reduceAdd, Int.reduceSub, Int.reduceMul, Int.reduceEq, Int.reduceLT, Int.reduceLE, Int.reduceToNat, Nat.reduceMul, Nat.reduceAdd, Nat.reduceSub, List.nil_append, List.cons_append, List.getElem?_toArray, List.getElem?_cons_zero, List.getElem?_cons_succ, List.setIfInBounds_toArray, List.set_cons_zero, List.set_cons_succ, Option.map_some, List.not_mem_nil, ←decide_not, e1_0, h1]
    exact ⟨by simp [sizeV, h], by (repeat (first | with_reducible exact Ext.refl _ _ | with_reducible assumption | with_reducible refine Ext.alloc' ?_ _ | with_reducible refine Ext.drew' ?_ | with_reducible refine Ext.set' ?_ ?_ | exact .inr (by first | omega | (simp only [World.size_alloc, World.size_drew, World.size_setCell] <;> omega)) | refine Ext.trans ?_ (by with_reducible assumption)))⟩
  have h1 : rightV p b m t = true := decide_eq_true h
  cases m
  · have hr := right_f.1 h
    simp (disch := (first | omega | decide | (simp only [World.size_alloc, World.size_setCell, World.size_drew, size_sets, List.mem_cons, List.not_mem_nil, or_false, not_false_eq_true] <;> omega) | fail)) only [↓rsHead_5, rsHead_1, Option.isNone_some, Option.isNone_none, tick_eq, tickV_eq, ne_eq, Int.reduceAdd, Int.reduceSub, Int.reduceMul, Int.reduceEq, Int.reduceLT, Int.reduceLE, Int.reduceToNat, Nat.reduceMul, Nat.reduceAdd, Nat.reduceSub, List.nil_append, List.cons_append, List.getElem?_toArray, List.getElem?_cons_zero, List.getElem?_cons_succ, List.setIfInBounds_toArray, List.set_cons_zero, List.set_cons_succ, Option.map_some, List.not_mem_nil, ←decide_not, e1_0, h1]
    exact ⟨by simp [sizeV, h]; omega, by (repeat (first | with_reducible exact Ext.refl _ _ | with_reducible assumption | with_reducible refine Ext.alloc' ?_ _ | with_reducible refine Ext.drew' ?_ | with_reducible refine Ext.set' ?_ ?_ | exact .inr (by first | omega | (simp only [World.size_alloc, World.size_drew, World.size_setCell] <;> omega)) | refine Ext.trans ?_ (by with_reducible assumption)))⟩
  · simp (disch := (first | omega | decide | (simp only [World.size_alloc, World.size_setCell, World.size_drew, size_sets, List.mem_cons, List.not_mem_nil, or_false, not_false_eq_true] <;> omega) | fail)) only [↓rsHead_5, rsHead_1, Option.isNone_some, Option.isNone_none, tick_eq, tickV_eq, ne_eq, Int.reduceAdd, Int.reduceSub, Int.reduceMul, Int.reduceEq, Int.reduceLT, Int.reduceLE, Int.reduceToNat, Nat.reduceMul, Nat.reduceAdd, Nat.reduceSub, List.nil_append, List.cons_append, List.getElem?_toArray, List.getElem?_cons_zero, List.getElem?_cons_succ, List.setIfInBounds_toArray, List.set_cons_zero, List.set_cons_succ, Option.map_some, List.not_mem_nil, ←decide_not, e1_0, h1]
    exact ⟨by simp [sizeV], by (repeat (first | with_reducible exact Ext.refl _ _ | with_reducible assumption | with_reducible refine Ext.alloc' ?_ _ | with_reducible refine Ext.drew' ?_ | with_reducible refine Ext.set' ?_ ?_ | exact .inr (by first | omega | (simp only [World.size_alloc, World.size_drew, World.size_setCell] <;> omega)) | refine Ext.trans ?_ (by with_reducible assumption)))⟩
abbrev rsHead_6 := (And.intro @xBox_r (And.intro @loadK_some (And.intro @loadsK_s (And.intro @loadsK_n (And.intro @loadsR_s (And.intro @loadsR_n (And.intro @storesK_s (And.intro @storesK_n (And.intro @xPick_t (And.intro @xPick_f (And.intro @xGuard_tt (And.intro @xGuard_ff (And.intro @xGuard_tf (And.intro @xGuard_ft (And.intro @xGuard_u 
  (And.intro @xNil_r (And.intro @xIf_t (And.intro @xBin_add' (And.intro @xBin_sub' (And.intro @xBin_mul' (And.intro @xBin_quo' (And.intro @xBin_rem' (And.intro @xIf_f (And.intro @xIf_tt (And.intro @xEx0 (And.intro @xEx1 (And.intro @xEx2 (And.intro @xEx3 (And.intro @xBin_eqs (And.intro @xBin_nes (And.intro @xUn_not (And.intro @xu8_add (And.intro @xu8_quo 
  (And.intro @xu8_com (And.intro @xu16_add (And.intro @xu16_quo (And.intro @xu16_com (And.intro @xu32_add (And.intro @xu32_quo (And.intro @xu32_com (And.intro @xu64_add (And.intro @xu64_quo (And.intro @xu64_com (And.intro @xMakeFunc_r (And.intro @xSq_r (And.intro @xPur_s (And.intro @xRd_s (And.intro @xRe_s (And.intro @xDet_s (And.intro @xDet_ld 
  (And.intro @xDet_ld2 (And.intro @xDet_ld3 (And.intro @xDet_ld4 (And.intro @xGuard_tt (And.intro @ld_3 (And.intro @ld_4 (And.intro @ld_84 (And.intro @fa_84_0 (And.intro @fa_84_1 @fa_84_2)))))))))))))))))))))))))))))))))))))))))))))))))))))))))))
theorem rSize_spec (p b : Int) (m : Bool) (t : Int) (w : World) : Gives Try.prog n_loamref14_Size #[hd p b m t] w (i64 (sizeV p b m t)) := by
  refine loamref14_Size_of ?_
  unfold loamref14_Size
  simp (disch := (first | omega | decide | (simp only [World.size_alloc, World.size_setCell, World.size_drew, size_sets, List.mem_cons, List.not_mem_nil, or_false, not_false_eq_true] <;> omega) | fail)) only [↓rsHead_6, rsHead_1, Option.isNone_some, Option.isNone_none, tick_eq, tickV_eq, ne_eq, Int.reduceAdd, Int.reduceSub, Int.reduceMul, Int.reduceEq, Int.reduceLT, Int.reduceLE, Int.reduceToNat, Nat.reduceMul, Nat.reduceAdd, Nat.reduceSub, List.nil_append, List.cons_append, List.getElem?_toArray, List.getElem?_cons_zero, List.getElem?_cons_succ, List.setIfInBounds_toArray, List.set_cons_zero, List.set_cons_succ, Option.map_some, List.not_mem_nil, ←decide_not, eq_self]
  refine loamref14_Right_call (Gives.to (rRight_spec _ _ _ _ _) fun w1 E1 => ?_)
  have z1 := E1.size
  try simp only [World.size_alloc, World.size_setCell, World.size_drew] at z1
  have e1_0 : ∀ o, w1.cell? ⟨w.heap.size, o, none⟩ = _ := fun o => E1.cell_o (by first | omega | (simp only [World.size_alloc, World.size_setCell, World.size_drew, size_sets] <;> omega))
  by_cases h : rightP p b m t
  rotate_left
  · have h1 : rightV p b m t = false := decide_eq_false h
    simp (disch := (first | omega | decide | (simp only [World.size_alloc, World.size_setCell, World.size_drew, size_sets, List.mem_cons, List.not_mem_nil, or_false, not_false_eq_true] <;> omega) | fail)) only [↓rsHead_6, rsHead_1, Option.isNone_some, Option.isNone_none, tick_eq, tickV_eq, ne_eq, Int.reduceAdd, Int.reduceSub, Int.reduceMul, Int.reduceEq, Int.reduceLT, Int.reduceLE, Int.reduceToNat, Nat.reduceMul, Nat.reduceAdd, Nat.reduceSub, List.nil_append, List.cons_append, List.getElem?_toArray, List.getElem?_cons_zero, List.getElem?_cons_succ, List.setIfInBounds_toArray, List.set_cons_zero, List.set_cons_succ, Option.map_some, List.not_mem_nil, ←decide_not, e1_0, h1]
    exact ⟨by simp [sizeV, h], by (repeat (first | with_reducible exact Ext.refl _ _ | with_reducible assumption | with_reducible refine Ext.alloc' ?_ _ | with_reducible refine Ext.drew' ?_ | with_reducible refine Ext.set' ?_ ?_ | exact .inr (by first | omega | (simp only [World.size_alloc, World.size_drew, World.size_setCell] <;> omega)) | refine Ext.trans ?_ (by with_reducible assumption)))⟩
  have h1 : rightV p b m t = true := decide_eq_true h
  cases m
  · have hr := right_f.1 h
    simp (disch := (first | omega | decide | (simp only [World.size_alloc, World.size_setCell, World.size_drew, size_sets, List.mem_cons, List.not_mem_nil, or_false, not_false_eq_true] <;> omega) | fail)) only [↓rsHead_6, rsHead_1, Option.isNone_some, Option.isNone_none, tick_eq, tickV_eq, ne_eq, Int.reduceAdd, Int.reduceSub, Int.reduceMul, Int.reduceEq, Int.reduceLT, Int.reduceLE, Int.reduceToNat, Nat.reduceMul, Nat.reduceAdd, Nat.reduceSub, List.nil_append, List.cons_append, List.getElem?_toArray, List.getElem?_cons_zero, List.getElem?_cons_succ, List.setIfInBounds_toArray, List.set_cons_zero, List.set_cons_succ, Option.map_some, List.not_mem_nil, ←decide_not, e1_0, h1]
    exact ⟨by simp [sizeV, h], by (repeat (first | with_reducible exact Ext.refl _ _ | with_reducible assumption | with_reducible refine Ext.alloc' ?_ _ | with_reducible refine Ext.drew' ?_ | with_reducible refine Ext.set' ?_ ?_ | exact .inr (by first | omega | (simp only [World.size_alloc, World.size_drew, World.size_setCell] <;> omega)) | refine Ext.trans ?_ (by with_reducible assumption)))⟩
  · simp (disch := (first | omega | decide | (simp only [World.size_alloc, World.size_setCell, World.size_drew, size_sets, List.mem_cons, List.not_mem_nil, or_false, not_false_eq_true] <;> omega) | fail)) only [↓rsHead_6, rsHead_1, Option.isNone_some, Option.isNone_none, tick_eq, tickV_eq, ne_eq, Int.reduceAdd, Int.reduceSub, Int.reduceMul, Int.reduceEq, Int.reduceLT, Int.reduceLE, Int.reduceToNat, Nat.reduceMul, Nat.reduceAdd, Nat.reduceSub, List.nil_append, List.cons_append, List.getElem?_toArray, List.getElem?_cons_zero, List.getElem?_cons_succ, List.setIfInBounds_toArray, List.set_cons_zero, List.set_cons_succ, Option.map_some, List.not_mem_nil, ←decide_not, e1_0, h1]
    exact ⟨by simp [sizeV], by (repeat (first | with_reducible exact Ext.refl _ _ | with_reducible assumption | with_reducible refine Ext.alloc' ?_ _ | with_reducible refine Ext.drew' ?_ | with_reducible refine Ext.set' ?_ ?_ | exact .inr (by first | omega | (simp only [World.size_alloc, World.size_drew, World.size_setCell] <;> omega)) | refine Ext.trans ?_ (by with_reducible assumption)))⟩
end Go.Proofs.Ytdpmidgeipibbaa
end
section
set_option linter.unusedVariables false
set_option linter.unusedSimpArgs false
set_option maxHeartbeats 4000000
namespace Go.Proofs.Ytdpmidgeipibbaa
open Go.Sh Go.RowKit

abbrev rsHeadU_0 := (And.intro @xBox_r (And.intro @loadK_some (And.intro @loadsK_s (And.intro @loadsK_n (And.intro @loadsR_s (And.intro @loadsR_n (And.intro @storesK_s (And.intro @storesK_n (And.intro @xPick_t (And.intro @xPick_f (And.intro @xGuard_tt (And.intro @xGuard_ff (And.intro @xGuard_tf (And.intro @xGuard_ft (And.intro @xGuard_u 
  (And.intro @xNil_r (And.intro @xIf_t (And.intro @xBin_add' (And.intro @xBin_sub' (And.intro @xBin_mul' (And.intro @xBin_quo' (And.intro @xBin_rem' (And.intro @xIf_f (And.intro @xIf_tt (And.intro @xEx0 (And.intro @xEx1 (And.intro @xEx2 (And.intro @xEx3 (And.intro @xBin_eqs (And.intro @xBin_nes (And.intro @xUn_not (And.intro @xu8_and (And.intro @xu8_eql 
  (And.intro @xu8_neq (And.intro @xu16_and (And.intro @xu16_eql (And.intro @xu16_neq (And.intro @xu32_and (And.intro @xu32_eql (And.intro @xu32_neq (And.intro @xu64_and (And.intro @xu64_eql (And.intro @xu64_neq (And.intro @xi64_eql (And.intro @xi64_neq (And.intro @xi64_and (And.intro @xi64_neg (And.intro @xMakeFunc_r (And.intro @xSq_r (And.intro @xPur_s 
  (And.intro @xRd_s (And.intro @xRe_s (And.intro @xDet_s (And.intro @xDet_ld (And.intro @xDet_ld2 (And.intro @xDet_ld3 (And.intro @xDet_ld4 (And.intro @xGuard_tt (And.intro @ld_123 (And.intro @lr_123 (And.intro @al_123 (And.intro @st_123 (And.intro @bd_123_0_1 (And.intro @bd_123_2_3 (And.intro @bd_123 @cv_69_3)))))))))))))))))))))))))))))))))))))))))))))))))))))))))))))))))
abbrev rsHeadU_1 := (And.intro @setCells_c (And.intro @setCells_n (And.intro @World.setCell_alloc_at (And.intro @World.setCell_alloc_past (And.intro @World.cell?_alloc_at (And.intro @World.cell?_alloc_past (And.intro @World.frozen?_alloc_at (And.intro @World.frozen?_alloc_past 
  (And.intro @World.size_alloc (And.intro @dlt_t (And.intro @dlt_f (And.intro @dle_t (And.intro @dle_f (And.intro @deq_t (And.intro @deq_f (And.intro @dne_t (And.intro @dne_f (And.intro @not_true_eq_false (And.intro @Bool.false_and (And.intro @Bool.true_and (And.intro @Bool.and_true (And.intro @Bool.and_false (And.intro @wrap_in (And.intro @Int.toNat_natCast 
  (And.intro @Nat.mul_one (And.intro @cells_int (And.intro @cells_bool (And.intro @cells_string (And.intro @cells_slice (And.intro @cells_pointer (And.intro @cells_agg (And.intro @one_int (And.intro @one_bool (And.intro @one_string (And.intro @one_slice (And.intro @one_pointer (And.intro @beq_tt (And.intro @beq_ff (And.intro @beq_tf 
  (And.intro @beq_ft (And.intro @cell_sets_b (And.intro @frozen_sets (And.intro @size_sets (And.intro @World.size_drew (And.intro @Nat.zero_add (And.intro @Nat.add_zero (And.intro @cell_drew (And.intro @frozen_drew (And.intro @cell_set_eq (And.intro @cell_set_o (And.intro @cell_set_b (And.intro @World.frozen?_setCell 
  (And.intro @decide_true (And.intro @decide_false (And.intro @not_false_eq_true (And.intro @Bool.not_true @Bool.not_false))))))))))))))))))))))))))))))))))))))))))))))))))))))))
theorem Unpack_spec (x : BitVec 64) (w : World) : Gives Try.prog n_head_Unpack #[u64 x] w (.tuple #[hd (vP x) (vB x) (vM x) (vT x), i64 (unErr x)]) := by
  refine head_Unpack_of ?_
  unfold head_Unpack head_Unpack_j1
  have f1 := field_1 x
  have f2 := field_16 x
  have f3 := field_32 x
  simp (disch := (first | omega | decide | (simp only [World.size_alloc, World.size_setCell, World.size_drew, size_sets, List.mem_cons, List.not_mem_nil, or_false, not_false_eq_true] <;> omega) | fail)) only [↓rsHeadU_0, rsHeadU_1, Option.isNone_some, Option.isNone_none, tick_eq, tickV_eq, ne_eq, Int.reduceAdd, Int.reduceSub, Int.reduceMul, Int.reduceEq, Int.reduceLT, Int.reduceLE, Int.reduceToNat, Nat.reduceMul, Nat.reduceAdd, Nat.reduceSub, List.nil_append, List.cons_append, List.getElem?_toArray, List.getElem?_cons_zero, List.getElem?_cons_succ, List.setIfInBounds_toArray, List.set_cons_zero, List.set_cons_succ, Option.map_some, List.not_mem_nil, ←decide_not, eq_self]
  refine bits_Field_call (Gives.to (Field_spec _ _ _ _) fun w1 E1 => ?_)
  have z1 := E1.size
  try simp only [World.size_alloc, World.size_setCell, World.size_drew] at z1
  have e1_0 : ∀ o, w1.cell? ⟨w.heap.size, o, none⟩ = _ := fun o => E1.cell_o (by first | omega | (simp only [World.size_alloc, World.size_setCell, World.size_drew, size_sets] <;> omega))
  have f1_0 : ∀ o, w1.frozen? ⟨w.heap.size, o, none⟩ = _ := fun o => E1.frozen_o (by first | omega | (simp only [World.size_alloc, World.size_setCell, World.size_drew, size_sets] <;> omega))
  simp (disch := (first | omega | decide | (simp only [World.size_alloc, World.size_setCell, World.size_drew, size_sets, List.mem_cons, List.not_mem_nil, or_false, not_false_eq_true] <;> omega) | fail)) only [↓rsHeadU_0, rsHeadU_1, Option.isNone_some, Option.isNone_none, tick_eq, tickV_eq, ne_eq, Int.reduceAdd, Int.reduceSub, Int.reduceMul, Int.reduceEq, Int.reduceLT, Int.reduceLE, Int.reduceToNat, Nat.reduceMul, Nat.reduceAdd, Nat.reduceSub, List.nil_append, List.cons_append, List.getElem?_toArray, List.getElem?_cons_zero, List.getElem?_cons_succ, List.setIfInBounds_toArray, List.set_cons_zero, List.set_cons_succ, Option.map_some, List.not_mem_nil, ←decide_not, e1_0, f1_0]
  refine bits_Field_call (Gives.to (Field_spec _ _ _ _) fun w2 E2 => ?_)
  have z2 := E2.size
  try simp only [World.size_alloc, World.size_setCell, World.size_drew] at z2
  have e2_0 : ∀ o, w2.cell? ⟨w.heap.size, o, none⟩ = _ := fun o => E2.cell_o (by first | omega | (simp only [World.size_alloc, World.size_setCell, World.size_drew, size_sets] <;> omega))
  have f2_0 : ∀ o, w2.frozen? ⟨w.heap.size, o, none⟩ = _ := fun o => E2.frozen_o (by first | omega | (simp only [World.size_alloc, World.size_setCell, World.size_drew, size_sets] <;> omega))
  simp (disch := (first | omega | decide | (simp only [World.size_alloc, World.size_setCell, World.size_drew, size_sets, List.mem_cons, List.not_mem_nil, or_false, not_false_eq_true] <;> omega) | fail)) only [↓rsHeadU_0, rsHeadU_1, Option.isNone_some, Option.isNone_none, tick_eq, tickV_eq, ne_eq, Int.reduceAdd, Int.reduceSub, Int.reduceMul, Int.reduceEq, Int.reduceLT, Int.reduceLE, Int.reduceToNat, Nat.reduceMul, Nat.reduceAdd, Nat.reduceSub, List.nil_append, List.cons_append, List.getElem?_toArray, List.getElem?_cons_zero, List.getElem?_cons_succ, List.setIfInBounds_toArray, List.set_cons_zero, List.set_cons_succ, Option.map_some, List.not_mem_nil, ←decide_not, e1_0, f1_0, e2_0, f2_0]
  by_cases hm : x &&& BitVec.ofNat 64 1 = BitVec.ofNat 64 1
  · have um := (low_one x).1 hm
    have up : uP x = 0 := by simp [uP, um]
    have ub : uB x = 0 := by simp [uB, um]
    have ut : uT x = (fieldB x 32 16).toInt := by rw [f3]; simp [uT, um]
    simp (disch := (first | omega | decide | (simp only [World.size_alloc, World.size_setCell, World.size_drew, size_sets, List.mem_cons, List.not_mem_nil, or_false, not_false_eq_true] <;> omega) | fail)) only [↓rsHeadU_0, rsHeadU_1, Option.isNone_some, Option.isNone_none, tick_eq, tickV_eq, ne_eq, Int.reduceAdd, Int.reduceSub, Int.reduceMul, Int.reduceEq, Int.reduceLT, Int.reduceLE, Int.reduceToNat, Nat.reduceMul, Nat.reduceAdd, Nat.reduceSub, List.nil_append, List.cons_append, List.getElem?_toArray, List.getElem?_cons_zero, List.getElem?_cons_succ, List.setIfInBounds_toArray, List.set_cons_zero, List.set_cons_succ, Option.map_some, List.not_mem_nil, ←decide_not, e1_0, f1_0, e2_0, f2_0, decide_eq_true hm]
    refine bits_Field_call (Gives.to (Field_spec _ _ _ _) fun w3 E3 => ?_)
    have z3 := E3.size
    try simp only [World.size_alloc, World.size_setCell, World.size_drew] at z3
    have e3_0 : ∀ o, w3.cell? ⟨w.heap.size, o, none⟩ = _ := fun o => E3.cell_o (by first | omega | (simp only [World.size_alloc, World.size_setCell, World.size_drew, size_sets] <;> omega))
    have f3_0 : ∀ o, w3.frozen? ⟨w.heap.size, o, none⟩ = _ := fun o => E3.frozen_o (by first | omega | (simp only [World.size_alloc, World.size_setCell, World.size_drew, size_sets] <;> omega))
    have e3_1 : ∀ o, w3.cell? ⟨w2.heap.size, o, none⟩ = _ := fun o => E3.cell_o (by first | omega | (simp only [World.size_alloc, World.size_setCell, World.size_drew, size_sets] <;> omega))
    have f3_1 : ∀ o, w3.frozen? ⟨w2.heap.size, o, none⟩ = _ := fun o => E3.frozen_o (by first | omega | (simp only [World.size_alloc, World.size_setCell, World.size_drew, size_sets] <;> omega))
    simp (disch := (first | omega | decide | (simp only [World.size_alloc, World.size_setCell, World.size_drew, size_sets, List.mem_cons, List.not_mem_nil, or_false, not_false_eq_true] <;> omega) | fail)) only [↓rsHeadU_0, rsHeadU_1, Option.isNone_some, Option.isNone_none, tick_eq, tickV_eq, ne_eq, Int.reduceAdd, Int.reduceSub, Int.reduceMul, Int.reduceEq, Int.reduceLT, Int.reduceLE, Int.reduceToNat, Nat.reduceMul, Nat.reduceAdd, Nat.reduceSub, List.nil_append, List.cons_append, List.getElem?_toArray, List.getElem?_cons_zero, List.getElem?_cons_succ, List.setIfInBounds_toArray, List.set_cons_zero, List.set_cons_succ, Option.map_some, List.not_mem_nil, ←decide_not, e1_0, f1_0, e2_0, f2_0, decide_eq_true hm, e3_0, f3_0, e3_1, f3_1]
    rw [← ut]
    simp (disch := (first | omega | decide | (simp only [World.size_alloc, World.size_setCell, World.size_drew, size_sets, List.mem_cons, List.not_mem_nil, or_false, not_false_eq_true] <;> omega) | fail)) only [↓rsHeadU_0, rsHeadU_1, Option.isNone_some, Option.isNone_none, tick_eq, tickV_eq, ne_eq, Int.reduceAdd, Int.reduceSub, Int.reduceMul, Int.reduceEq, Int.reduceLT, Int.reduceLE, Int.reduceToNat, Nat.reduceMul, Nat.reduceAdd, Nat.reduceSub, List.nil_append, List.cons_append, List.getElem?_toArray, List.getElem?_cons_zero, List.getElem?_cons_succ, List.setIfInBounds_toArray, List.set_cons_zero, List.set_cons_succ, Option.map_some, List.not_mem_nil, ←decide_not, e1_0, f1_0, e2_0, f2_0, decide_eq_true hm, e3_0, f3_0, e3_1, f3_1]
    refine head_Pack_call (Gives.to (Pack_spec _ _ _ _ _) fun w4 E4 => ?_)
    have z4 := E4.size
    try simp only [World.size_alloc, World.size_setCell, World.size_drew] at z4
    have e4_0 : ∀ o, w4.cell? ⟨w.heap.size, o, none⟩ = _ := fun o => E4.cell_o (by first | omega | (simp only [World.size_alloc, World.size_setCell, World.size_drew, size_sets] <;> omega))
    have f4_0 : ∀ o, w4.frozen? ⟨w.heap.size, o, none⟩ = _ := fun o => E4.frozen_o (by first | omega | (simp only [World.size_alloc, World.size_setCell, World.size_drew, size_sets] <;> omega))
    have e4_1 : ∀ o, w4.cell? ⟨w2.heap.size, o, none⟩ = _ := fun o => E4.cell_o (by first | omega | (simp only [World.size_alloc, World.size_setCell, World.size_drew, size_sets] <;> omega))
    have f4_1 : ∀ o, w4.frozen? ⟨w2.heap.size, o, none⟩ = _ := fun o => E4.frozen_o (by first | omega | (simp only [World.size_alloc, World.size_setCell, World.size_drew, size_sets] <;> omega))
    by_cases h1 : rightP 0 0 true (uT x)
    rotate_left
    · have hn : ¬ isHead x := by unfold isHead; rw [up, ub, um]; exact fun h => h1 h.1
      simp (disch := (first | omega | decide | (simp only [World.size_alloc, World.size_setCell, World.size_drew, size_sets, List.mem_cons, List.not_mem_nil, or_false, not_false_eq_true] <;> omega) | fail)) only [↓rsHeadU_0, rsHeadU_1, Option.isNone_some, Option.isNone_none, tick_eq, tickV_eq, ne_eq, Int.reduceAdd, Int.reduceSub, Int.reduceMul, Int.reduceEq, Int.reduceLT, Int.reduceLE, Int.reduceToNat, Nat.reduceMul, Nat.reduceAdd, Nat.reduceSub, List.nil_append, List.cons_append, List.getElem?_toArray, List.getElem?_cons_zero, List.getElem?_cons_succ, List.setIfInBounds_toArray, List.set_cons_zero, List.set_cons_succ, Option.map_some, List.not_mem_nil, ←decide_not, e1_0, f1_0, e2_0, f2_0, decide_eq_true hm, e3_0, f3_0, e3_1, f3_1, e4_0, f4_0, e4_1, f4_1, packE, if_neg h1]
      exact ⟨by simp only [vP, vB, vM, vT, unErr, if_neg hn], by (repeat (first | with_reducible exact Ext.refl _ _ | with_reducible assumption | with_reducible refine Ext.alloc' ?_ _ | with_reducible refine Ext.drew' ?_ | with_reducible refine Ext.set' ?_ ?_ | exact .inr (by first | omega | (simp only [World.size_alloc, World.size_drew, World.size_setCell] <;> omega)) | refine Ext.trans ?_ (by with_reducible assumption)))⟩
    by_cases h2 : packW 0 0 true (uT x) = x
    rotate_left
    · have hn : ¬ isHead x := by unfold isHead; rw [up, ub, um]; exact fun h => h2 h.2
      simp (disch := (first | omega | decide | (simp only [World.size_alloc, World.size_setCell, World.size_drew, size_sets, List.mem_cons, List.not_mem_nil, or_false, not_false_eq_true] <;> omega) | fail)) only [↓rsHeadU_0, rsHeadU_1, Option.isNone_some, Option.isNone_none, tick_eq, tickV_eq, ne_eq, Int.reduceAdd, Int.reduceSub, Int.reduceMul, Int.reduceEq, Int.reduceLT, Int.reduceLE, Int.reduceToNat, Nat.reduceMul, Nat.reduceAdd, Nat.reduceSub, List.nil_append, List.cons_append, List.getElem?_toArray, List.getElem?_cons_zero, List.getElem?_cons_succ, List.setIfInBounds_toArray, List.set_cons_zero, List.set_cons_succ, Option.map_some, List.not_mem_nil, ←decide_not, e1_0, f1_0, e2_0, f2_0, decide_eq_true hm, e3_0, f3_0, e3_1, f3_1, e4_0, f4_0, e4_1, f4_1, packE, if_pos h1, h2]
      exact ⟨by simp only [vP, vB, vM, vT, unErr, if_neg hn], by (repeat (first | with_reducible exact Ext.refl _ _ | with_reducible assumption | with_reducible refine Ext.alloc' ?_ _ | with_reducible refine Ext.drew' ?_ | with_reducible refine Ext.set' ?_ ?_ | exact .inr (by first | omega | (simp only [World.size_alloc, World.size_drew, World.size_setCell] <;> omega)) | refine Ext.trans ?_ (by with_reducible assumption)))⟩
    have hn : isHead x := by unfold isHead; rw [up, ub, um]; exact ⟨h1, h2⟩
    simp (disch := (first | omega | decide | (simp only [World.size_alloc, World.size_setCell, World.size_drew, size_sets, List.mem_cons, List.not_mem_nil, or_false, not_false_eq_true] <;> omega) | fail)) only [↓rsHeadU_0, rsHeadU_1, Option.isNone_some, Option.isNone_none, tick_eq, tickV_eq, ne_eq, Int.reduceAdd, Int.reduceSub, Int.reduceMul, Int.reduceEq, Int.reduceLT, Int.reduceLE, Int.reduceToNat, Nat.reduceMul, Nat.reduceAdd, Nat.reduceSub, List.nil_append, List.cons_append, List.getElem?_toArray, List.getElem?_cons_zero, List.getElem?_cons_succ, List.setIfInBounds_toArray, List.set_cons_zero, List.set_cons_succ, Option.map_some, List.not_mem_nil, ←decide_not, e1_0, f1_0, e2_0, f2_0, decide_eq_true hm, e3_0, f3_0, e3_1, f3_1, e4_0, f4_0, e4_1, f4_1, packE, if_pos h1, eq_true h2]
    exact ⟨by simp only [vP, vB, vM, vT, unErr, if_pos hn, up, ub, um], by (repeat (first | with_reducible exact Ext.refl _ _ | with_reducible assumption | with_reducible refine Ext.alloc' ?_ _ | with_reducible refine Ext.drew' ?_ | with_reducible refine Ext.set' ?_ ?_ | exact .inr (by first | omega | (simp only [World.size_alloc, World.size_drew, World.size_setCell] <;> omega)) | refine Ext.trans ?_ (by with_reducible assumption)))⟩
  · have um : uM x = false := by simpa using fun h => hm ((low_one x).2 h)
    have up : uP x = (fieldB x 1 8).toInt := by rw [f1]; simp [uP, um]
    have ub : uB x = (fieldB x 16 12).toInt := by rw [f2]; simp [uB, um]
    have ut : uT x = 0 := by simp [uT, um]
    simp (disch := (first | omega | decide | (simp only [World.size_alloc, World.size_setCell, World.size_drew, size_sets, List.mem_cons, List.not_mem_nil, or_false, not_false_eq_true] <;> omega) | fail)) only [↓rsHeadU_0, rsHeadU_1, Option.isNone_some, Option.isNone_none, tick_eq, tickV_eq, ne_eq, Int.reduceAdd, Int.reduceSub, Int.reduceMul, Int.reduceEq, Int.reduceLT, Int.reduceLE, Int.reduceToNat, Nat.reduceMul, Nat.reduceAdd, Nat.reduceSub, List.nil_append, List.cons_append, List.getElem?_toArray, List.getElem?_cons_zero, List.getElem?_cons_succ, List.setIfInBounds_toArray, List.set_cons_zero, List.set_cons_succ, Option.map_some, List.not_mem_nil, ←decide_not, e1_0, f1_0, e2_0, f2_0, decide_eq_false hm]
    rw [← up, ← ub]
    simp (disch := (first | omega | decide | (simp only [World.size_alloc, World.size_setCell, World.size_drew, size_sets, List.mem_cons, List.not_mem_nil, or_false, not_false_eq_true] <;> omega) | fail)) only [↓rsHeadU_0, rsHeadU_1, Option.isNone_some, Option.isNone_none, tick_eq, tickV_eq, ne_eq, Int.reduceAdd, Int.reduceSub, Int.reduceMul, Int.reduceEq, Int.reduceLT, Int.reduceLE, Int.reduceToNat, Nat.reduceMul, Nat.reduceAdd, Nat.reduceSub, List.nil_append, List.cons_append, List.getElem?_toArray, List.getElem?_cons_zero, List.getElem?_cons_succ, List.setIfInBounds_toArray, List.set_cons_zero, List.set_cons_succ, Option.map_some, List.not_mem_nil, ←decide_not, e1_0, f1_0, e2_0, f2_0, decide_eq_false hm]
    refine head_Pack_call (Gives.to (Pack_spec _ _ _ _ _) fun w5 E5 => ?_)
    have z5 := E5.size
    try simp only [World.size_alloc, World.size_setCell, World.size_drew] at z5
    have e5_0 : ∀ o, w5.cell? ⟨w.heap.size, o, none⟩ = _ := fun o => E5.cell_o (by first | omega | (simp only [World.size_alloc, World.size_setCell, World.size_drew, size_sets] <;> omega))
    have f5_0 : ∀ o, w5.frozen? ⟨w.heap.size, o, none⟩ = _ := fun o => E5.frozen_o (by first | omega | (simp only [World.size_alloc, World.size_setCell, World.size_drew, size_sets] <;> omega))
    have e5_1 : ∀ o, w5.cell? ⟨w2.heap.size, o, none⟩ = _ := fun o => E5.cell_o (by first | omega | (simp only [World.size_alloc, World.size_setCell, World.size_drew, size_sets] <;> omega))
    have f5_1 : ∀ o, w5.frozen? ⟨w2.heap.size, o, none⟩ = _ := fun o => E5.frozen_o (by first | omega | (simp only [World.size_alloc, World.size_setCell, World.size_drew, size_sets] <;> omega))
    by_cases h1 : rightP (uP x) (uB x) false 0
    rotate_left
    · have hn : ¬ isHead x := by unfold isHead; rw [um, ut]; exact fun h => h1 h.1
      simp (disch := (first | omega | decide | (simp only [World.size_alloc, World.size_setCell, World.size_drew, size_sets, List.mem_cons, List.not_mem_nil, or_false, not_false_eq_true] <;> omega) | fail)) only [↓rsHeadU_0, rsHeadU_1, Option.isNone_some, Option.isNone_none, tick_eq, tickV_eq, ne_eq, Int.reduceAdd, Int.reduceSub, Int.reduceMul, Int.reduceEq, Int.reduceLT, Int.reduceLE, Int.reduceToNat, Nat.reduceMul, Nat.reduceAdd, Nat.reduceSub, List.nil_append, List.cons_append, List.getElem?_toArray, List.getElem?_cons_zero, List.getElem?_cons_succ, List.setIfInBounds_toArray, List.set_cons_zero, List.set_cons_succ, Option.map_some, List.not_mem_nil, ←decide_not, e1_0, f1_0, e2_0, f2_0, decide_eq_false hm, e5_0, f5_0, e5_1, f5_1, packE, if_neg h1]
      exact ⟨by simp only [vP, vB, vM, vT, unErr, if_neg hn], by (repeat (first | with_reducible exact Ext.refl _ _ | with_reducible assumption | with_reducible refine Ext.alloc' ?_ _ | with_reducible refine Ext.drew' ?_ | with_reducible refine Ext.set' ?_ ?_ | exact .inr (by first | omega | (simp only [World.size_alloc, World.size_drew, World.size_setCell] <;> omega)) | refine Ext.trans ?_ (by with_reducible assumption)))⟩
    by_cases h2 : packW (uP x) (uB x) false 0 = x
    rotate_left
    · have hn : ¬ isHead x := by unfold isHead; rw [um, ut]; exact fun h => h2 h.2
      simp (disch := (first | omega | decide | (simp only [World.size_alloc, World.size_setCell, World.size_drew, size_sets, List.mem_cons, List.not_mem_nil, or_false, not_false_eq_true] <;> omega) | fail)) only [↓rsHeadU_0, rsHeadU_1, Option.isNone_some, Option.isNone_none, tick_eq, tickV_eq, ne_eq, Int.reduceAdd, Int.reduceSub, Int.reduceMul, Int.reduceEq, Int.reduceLT, Int.reduceLE, Int.reduceToNat, Nat.reduceMul, Nat.reduceAdd, Nat.reduceSub, List.nil_append, List.cons_append, List.getElem?_toArray, List.getElem?_cons_zero, List.getElem?_cons_succ, List.setIfInBounds_toArray, List.set_cons_zero, List.set_cons_succ, Option.map_some, List.not_mem_nil, ←decide_not, e1_0, f1_0, e2_0, f2_0, decide_eq_false hm, e5_0, f5_0, e5_1, f5_1, packE, if_pos h1, h2]
      exact ⟨by simp only [vP, vB, vM, vT, unErr, if_neg hn], by (repeat (first | with_reducible exact Ext.refl _ _ | with_reducible assumption | with_reducible refine Ext.alloc' ?_ _ | with_reducible refine Ext.drew' ?_ | with_reducible refine Ext.set' ?_ ?_ | exact .inr (by first | omega | (simp only [World.size_alloc, World.size_drew, World.size_setCell] <;> omega)) | refine Ext.trans ?_ (by with_reducible assumption)))⟩
    have hn : isHead x := by unfold isHead; rw [um, ut]; exact ⟨h1, h2⟩
    simp (disch := (first | omega | decide | (simp only [World.size_alloc, World.size_setCell, World.size_drew, size_sets, List.mem_cons, List.not_mem_nil, or_false, not_false_eq_true] <;> omega) | fail)) only [↓rsHeadU_0, rsHeadU_1, Option.isNone_some, Option.isNone_none, tick_eq, tickV_eq, ne_eq, Int.reduceAdd, Int.reduceSub, Int.reduceMul, Int.reduceEq, Int.reduceLT, Int.reduceLE, Int.reduceToNat, Nat.reduceMul, Nat.reduceAdd, Nat.reduceSub, List.nil_append, List.cons_append, List.getElem?_toArray, List.getElem?_cons_zero, List.getElem?_cons_succ, List.setIfInBounds_toArray, List.set_cons_zero, List.set_cons_succ, Option.map_some, List.not_mem_nil, ←decide_not, e1_0, f1_0, e2_0, f2_0, decide_eq_false hm, e5_0, f5_0, e5_1, f5_1, packE, if_pos h1, eq_true h2]
    exact ⟨by simp only [vP, vB, vM, vT, unErr, if_pos hn, ut, um], by (repeat (first | with_reducible exact Ext.refl _ _ | with_reducible assumption | with_reducible refine Ext.alloc' ?_ _ | with_reducible refine Ext.drew' ?_ | with_reducible refine Ext.set' ?_ ?_ | exact .inr (by first | omega | (simp only [World.size_alloc, World.size_drew, World.size_setCell] <;> omega)) | refine Ext.trans ?_ (by with_reducible assumption)))⟩

end Go.Proofs.Ytdpmidgeipibbaa
end
section
set_option linter.unusedVariables false
set_option linter.unusedSimpArgs false
set_option maxHeartbeats 4000000
namespace Go.Proofs.Ytdpmidgeipibbaa
open Go.Sh Go.RowKit

abbrev b8 (n : Nat) : BitVec 8 := BitVec.ofNat 8 n
end Go.Proofs.Ytdpmidgeipibbaa
end
section
set_option linter.unusedVariables false
set_option linter.unusedSimpArgs false
set_option maxHeartbeats 4000000
namespace Go.Proofs.Ytdpmidgeipibbaa
open Go.Sh Go.RowKit

end Go.Proofs.Ytdpmidgeipibbaa
end
section
set_option linter.unusedVariables false
set_option linter.unusedSimpArgs false
set_option maxHeartbeats 4000000
namespace Go.Proofs.Ytdpmidgeipibbaa
open Go.Sh Go.RowKit

abbrev c0 : BitVec 64 := BitVec.ofNat 64 0
def byteW (ws : List (BitVec 64)) (i : Nat) : BitVec 8 := ((ws.getD (i / 8) c0) >>> (8 * (i % 8))).setWidth 8
/-- n things from a place on -/
def among (at' n all : Int) : Prop := 0 ≤ at' ∧ 0 ≤ n ∧ n ≤ all ∧ at' ≤ all - n
instance (at' n all : Int) : Decidable (among at' n all) := by unfold among; infer_instance
end Go.Proofs.Ytdpmidgeipibbaa
end
section
set_option linter.unusedVariables false
set_option linter.unusedSimpArgs false
set_option maxHeartbeats 4000000
namespace Go.Proofs.Ytdpmidgeipibbaa
open Go.Sh Go.RowKit

abbrev ptr (g : Nat) : Value := .pointer (some ⟨g, 0, none⟩)
def blkOf : Option Addr → List Nat
  | some a => [a.block]
  | none => []
/-- words of one's own -/
def OwnW (w : World) (base : Nat) (a : Option Addr) (c : Nat) (ws : List (BitVec 64)) : Prop :=
  ws = [] ∨ ∃ gs rest, a = some ⟨gs, 0, none⟩ ∧ base ≤ gs ∧ Blk w gs 69 (wrds ws ++ rest) ∧ c ≤ (wrds ws ++ rest).length
structure MemIs (w : World) (base g : Nat) (a : Option Addr) (c : Nat) (ws : List (BitVec 64)) : Prop where
  lo : base ≤ g
  hd : w.cell? ⟨g, 0, none⟩ = some (.slice a ws.length c)
  len : ws.length ≤ 8192
  cap : ws.length ≤ c
  nil : a = none → c = 0
  own : OwnW w base a c ws
  apart : ws ≠ [] → g ∉ blkOf a
  up : ∀ x ∈ blkOf a, base ≤ x
theorem MemIs.lt {w : World} {base g : Nat} {a : Option Addr} {c : Nat} {ws : List (BitVec 64)} (h : MemIs w base g a c ws) : g < w.heap.size := World.block_lt_of_cell? w ⟨g, 0, none⟩ h.hd
theorem OwnW.row {w : World} {base : Nat} {a : Option Addr} {c : Nat} {ws : List (BitVec 64)} (h : OwnW w base a c ws) : RowAt w a (wrds ws) := by
  rcases h with rfl | ⟨gs, rest, rfl, _, hB, _⟩
  · exact RowAt.nil
  · have := hB.row.take (wrds ws).length
    rwa [List.take_left' rfl] at this
theorem OwnW.ext {w w' : World} {base : Nat} {a : Option Addr} {c : Nat} {ws : List (BitVec 64)} {M : List Nat} (h : OwnW w base a c ws) (hx : Ext M w w') (hm : ws ≠ [] → ∀ g ∈ blkOf a, g ∉ M) : OwnW w' base a c ws := by
  rcases h with rfl | ⟨gs, rest, rfl, hb, hB, hc⟩
  · exact .inl rfl
  · by_cases hw : ws = []
    · exact .inl hw
    · exact .inr ⟨gs, rest, rfl, hb, hB.ext hx (hm hw gs (by simp [blkOf])), hc⟩
theorem MemIs.ext {w w' : World} {base g : Nat} {a : Option Addr} {c : Nat} {ws : List (BitVec 64)} {M : List Nat} (h : MemIs w base g a c ws) (hx : Ext M w w') (hg : g ∉ M) (hm : ws ≠ [] → ∀ g ∈ blkOf a, g ∉ M) : MemIs w' base g a c ws :=
  ⟨h.lo, by rw [hx.cell (a := ⟨g, 0, none⟩) h.lt hg]; exact h.hd, h.len, h.cap, h.nil, h.own.ext hx hm, h.apart, h.up⟩
theorem MemIs.ext0 {w w' : World} {base g : Nat} {a : Option Addr} {c : Nat} {ws : List (BitVec 64)} (h : MemIs w base g a c ws) (hx : Ext [] w w') : MemIs w' base g a c ws := h.ext hx (by simp) (by simp)

section
variable {w : World} {base g : Nat} {a : Option Addr} {c : Nat} {ws : List (BitVec 64)}
end
end Go.Proofs.Ytdpmidgeipibbaa
end
section
set_option linter.unusedVariables false
set_option linter.unusedSimpArgs false
set_option maxHeartbeats 4000000
namespace Go.Proofs.Ytdpmidgeipibbaa
open Go.Sh Go.RowKit

end Go.Proofs.Ytdpmidgeipibbaa
end
section
set_option linter.unusedVariables false
set_option linter.unusedSimpArgs false
set_option maxHeartbeats 4000000
namespace Go.Proofs.Ytdpmidgeipibbaa
open Go.Sh Go.RowKit

abbrev OwnU (w : World) (v : Value) (l : List (BitVec 64)) : Prop := Own w 69 1 v l.length (wrds l)
abbrev NewU (w w' : World) (v : Value) (l : List (BitVec 64)) : Prop := NewR 69 1 w w' v l.length (wrds l)
theorem appUn {w : World} {K : K1} {m : List (BitVec 64)} {a : Option Addr} {c g : Nat} (hs : RowAt w a (wrds m)) (hnil : a = none → c = 0) (hmc : m.length ≤ c) (hl : m.length ≤ 100000)
    (hK : ∀ v' w', OwnU w' v' m → Ext [] w w' → (∀ b ∈ blk v', w.heap.size ≤ b) → K v' w') (hg : g = w.heap.size := by first | rfl | (simp only [World.size_alloc, World.size_drew, World.size_setCell] <;> omega)) : xBuiltin Try.prog .append #[28, 28] 28 [false, false] [.slice (some ⟨g, 0, none⟩) 0 0, .slice a m.length c] (w.alloc (.cells #[] 69)) K := by
  subst hg
  refine xApp (e := 69) (s := 1) (n := 0) (xs := []) (news := wrds m) (bytes := 8) (z := .int .u64 0) (by kernel_rfl) (by kernel_rfl) (by rfl) (by decide) (Own.lit (cs := []) (m := 0) (by decide) (by rfl)) (by simp) (hs.ext0 (Ext.alloc _ _ _)) hnil hmc (by simp [Value.oneCell']) (by omega) (by omega) fun v' w' h1 h2 => ?_
  simp only [Nat.zero_add, List.nil_append] at h1
  have X : Ext [] w (w.alloc (.cells #[] 69)) := Ext.alloc _ _ _
  have U := h2.up (w0 := w) X.size (by simp [blk, Value.ownBlock])
  exact hK v' w' h1 (h2.new X (by simp [blk, Value.ownBlock])) U
/-- one word of an own row: what a load and a store need -/
theorem OwnU.at {w : World} {v : Value} {l : List (BitVec 64)} {i : Nat} (h : OwnU w v l) (hi : i < l.length) (x : BitVec 64) :
    ∃ g cap, v = .slice (some ⟨g, 0, none⟩) l.length cap ∧ w.cell? ⟨g, i, none⟩ = some (u64 l[i]) ∧ w.frozen? ⟨g, i, none⟩ = false ∧ OwnU (w.setCell ⟨g, i, none⟩ (u64 x)) v (l.set i x) ∧ Ext (blk v) w (w.setCell ⟨g, i, none⟩ (u64 x)) ∧ g < w.heap.size := by
  obtain ⟨g, cap, rest, rfl, hB, hnc, hm, hl⟩ := h.open (by omega)
  have c1 : w.cell? ⟨g, i, none⟩ = some (u64 l[i]) := by rw [hB.cell, List.getElem?_append_left (by simpa using hi)]; simp [hi]
  have B2 := hB.set (i := i) (v := u64 x)
  rw [List.set_append_left _ _ (by simpa using hi)] at B2
  have e2 : (wrds l).set i (u64 x) = wrds (l.set i x) := by simp [wrds, List.map_set]
  rw [e2] at B2
  refine ⟨g, cap, rfl, c1, hB.frozen, ?_, (Ext.set (w := w) (b := g)).more (by simp [blk, Value.ownBlock]), hB.lt⟩
  have := Own.close (n := l.length) (s := 1) B2 hnc hm (by simpa using hl) (by simp)
  show Own _ _ _ _ (l.set i x).length _
  rw [List.length_set]
  exact this
end Go.Proofs.Ytdpmidgeipibbaa
end
section
set_option linter.unusedVariables false
set_option linter.unusedSimpArgs false
set_option maxHeartbeats 4000000
namespace Go.Proofs.Ytdpmidgeipibbaa
open Go.Sh Go.RowKit

def szW (x : BitVec 64) : Nat := 1 + (uP x).toNat + ((uB x).toNat + 7) / 8
def okW (x : BitVec 64) : Prop := isHead x ∧ uM x = false
instance (x : BitVec 64) : Decidable (okW x) := by unfold okW isHead rightP; infer_instance
theorem okW_size {x : BitVec 64} (h : okW x) : sizeV (vP x) (vB x) (vM x) (vT x) = szW x ∧ unErr x = 0 ∧ vM x = false ∧ 1 ≤ szW x ∧ szW x ≤ 193 := by
  obtain ⟨h1, h2⟩ := h
  have h3 := h1.1
  have h4 := h3
  rw [h2, right_f] at h4
  refine ⟨?_, if_pos h1, by simp [vM, h1, h2], by unfold szW; omega, by unfold szW; omega⟩
  simp only [sizeV, vP, vB, vM, vT, if_pos h1, h2, and_true]
  rw [h2] at h3
  rw [if_pos h3]
  unfold szW
  omega
theorem okW_not {x : BitVec 64} (h : ¬ okW x) (he : unErr x = 0) : vM x = true := by
  have h1 : isHead x := by
    by_cases h1 : isHead x
    · exact h1
    · simp [unErr, h1] at he
  have : uM x = true := by
    cases hm : uM x
    · exact absurd ⟨h1, hm⟩ h
    · rfl
  simp [vM, h1, this]
theorem okW_pack {p b : Int} (h : rightP p b false 0) : okW (packW p b false 0) ∧ szW (packW p b false 0) = 1 + p.toNat + (b.toNat + 7) / 8 := by
  obtain ⟨h1, h2, h3, h4⟩ := un_pack h
  exact ⟨⟨un_pack_is h, h3⟩, by unfold szW; rw [h1, h2]⟩
def wat (ws : List (BitVec 64)) (i : Nat) : BitVec 64 := ws.getD i c0
def walk (ws : List (BitVec 64)) (t : Nat) : Nat → Nat → Option (List Nat)
  | 0, _ => some []
  | f + 1, o => if o < t then (if okW (wat ws o) ∧ o + szW (wat ws o) ≤ t then (walk ws t f (o + szW (wat ws o))).map (o :: ·) else none) else some []
def objs (ws : List (BitVec 64)) (b t : Nat) : Option (List Nat) := walk ws t t b
inductive Objs (ws : List (BitVec 64)) (t : Nat) : Nat → List Nat → Prop
  | nil : Objs ws t t []
  | cons {o : Nat} {l : List Nat} : okW (wat ws o) → o + szW (wat ws o) ≤ t → Objs ws t (o + szW (wat ws o)) l → Objs ws t o (o :: l)
theorem szW_pos {x : BitVec 64} : 1 ≤ szW x := by unfold szW; omega
theorem Objs.le {ws : List (BitVec 64)} {t o : Nat} {l : List Nat} (h : Objs ws t o l) : o ≤ t := by
  induction h with
  | nil => exact Nat.le_refl _
  | cons _ h2 _ _ => omega
theorem Objs.walk {ws : List (BitVec 64)} {t o : Nat} {l : List Nat} (h : Objs ws t o l) : ∀ f, t ≤ o + f → Go.Proofs.Ytdpmidgeipibbaa.walk ws t f o = some l := by
  induction h with
  | nil =>
    intro f hf
    cases f with
    | zero => rfl
    | succ f => unfold Go.Proofs.Ytdpmidgeipibbaa.walk; rw [if_neg (Nat.lt_irrefl _)]
  | @cons o l h1 h2 h3 ih =>
    intro f hf
    have hp := szW_pos (x := wat ws o)
    have hle := h3.le
    cases f with
    | zero => omega
    | succ f => unfold Go.Proofs.Ytdpmidgeipibbaa.walk; rw [if_pos (by omega), if_pos ⟨h1, h2⟩, ih f (by omega)]; rfl
theorem Objs.more {ws ws' : List (BitVec 64)} {t n o : Nat} {l : List Nat} (h : Objs ws t o l) (hs : ∀ i, i < t → wat ws' i = wat ws i) (hk : okW (wat ws' t)) (hn : n = szW (wat ws' t)) : Objs ws' (t + n) o (l ++ [t]) := by
  induction h with
  | nil => subst hn; exact .cons hk (Nat.le_refl _) .nil
  | @cons o l h1 h2 h3 ih =>
    have hp := szW_pos (x := wat ws o)
    have hle := h3.le
    have e := hs o (by omega)
    rw [← e] at h1 h2 ih
    exact .cons h1 (by omega) ih
/-- nought from a place on -/
def zr (ws : List (BitVec 64)) (o n : Nat) : List (BitVec 64) := ws.mapIdx fun i x => if o ≤ i ∧ i < o + n then c0 else x
@[simp] theorem zr_length {ws : List (BitVec 64)} {o n : Nat} : (zr ws o n).length = ws.length := by simp [zr]
def alW (ws : List (BitVec 64)) (t : Nat) (x : BitVec 64) (n : Nat) : List (BitVec 64) := zr (ws.set t x) (t + 1) (n - 1)
@[simp] theorem alW_length {ws : List (BitVec 64)} {t n : Nat} {x : BitVec 64} : (alW ws t x n).length = ws.length := by simp [alW]
theorem wat_zr {ws : List (BitVec 64)} {o n i : Nat} : wat (zr ws o n) i = if o ≤ i ∧ i < o + n then c0 else wat ws i := by
  unfold wat zr
  simp only [List.getD_eq_getElem?_getD, List.getElem?_mapIdx]
  cases ws[i]? with
  | none => simp
  | some x => simp
theorem wat_set {ws : List (BitVec 64)} {t i : Nat} {x : BitVec 64} (ht : t < ws.length) : wat (ws.set t x) i = if i = t then x else wat ws i := by
  unfold wat
  simp only [List.getD_eq_getElem?_getD, List.getElem?_set]
  by_cases h : t = i
  · subst h; simp [ht]
  · rw [if_neg h, if_neg (fun e => h e.symm)]
theorem wat_alW {ws : List (BitVec 64)} {t n i : Nat} {x : BitVec 64} (ht : t < ws.length) : wat (alW ws t x n) i = if i = t then x else if t + 1 ≤ i ∧ i < t + 1 + (n - 1) then c0 else wat ws i := by
  unfold alW
  rw [wat_zr, wat_set ht]
  by_cases h : i = t
  · subst h; rw [if_neg (by omega)]; simp
  · simp [h]
theorem Objs.alloc {ws : List (BitVec 64)} {b t n : Nat} {l : List Nat} {p bb : Int} (h : Objs ws t b l) (ht : t < ws.length) (hr : rightP p bb false 0) (hn : n = szW (packW p bb false 0)) : Objs (alW ws t (packW p bb false 0) n) (t + n) b (l ++ [t]) := by
  have e : wat (alW ws t (packW p bb false 0) n) t = packW p bb false 0 := by rw [wat_alW ht, if_pos rfl]
  refine h.more (fun i hi => ?_) (by rw [e]; exact (okW_pack hr).1) (by rw [e]; exact hn)
  rw [wat_alW ht, if_neg (by omega), if_neg (by omega)]
/-! rows of numbers and of words -/
abbrev nums (l : List Nat) : List Value := l.map fun (i : Nat) => i64 (i : Int)
abbrev OwnI (w : World) (v : Value) (l : List Nat) : Prop := Own w 3 1 v l.length (nums l)
theorem appIl {w : World} {K : K1} {v : Value} {l : List Nat} {o g : Nat} {cs : List Value} (hO : OwnI w v l) (hcs : cs = [i64 (o : Int)]) (hl : l.length ≤ 100000)
    (hK : ∀ v' w', OwnI w' v' (l ++ [o]) → Stp (blk v) (blk v') w w' → K v' w') (hg : g = w.heap.size := by first | rfl | (simp only [World.size_alloc, World.size_drew, World.size_setCell] <;> omega)) : xBuiltin Try.prog .append #[66, 66] 66 [false, false] [v, .slice (some ⟨g, 0, none⟩) 1 1] (w.alloc (.cells cs.toArray 3)) K := by
  subst hcs hg
  refine xAppL (bytes := 8) (z := .int .i64 0) (by kernel_rfl) (by kernel_rfl) (by rfl) (by decide) hO (by simp) (by simp [Value.oneCell']) (by omega) (by omega) fun v' w' h1 h2 => hK v' w' ?_ h2
  show Own w' 3 1 v' (l ++ [o]).length (nums (l ++ [o]))
  rw [List.length_append, nums, List.map_append]
  exact h1
end Go.Proofs.Ytdpmidgeipibbaa
end
section
set_option linter.unusedVariables false
set_option linter.unusedSimpArgs false
set_option maxHeartbeats 4000000
namespace Go.Proofs.Ytdpmidgeipibbaa
open Go.Sh Go.RowKit

theorem MemIs.blt {w : World} {base g : Nat} {a : Option Addr} {c : Nat} {ws : List (BitVec 64)} (h : MemIs w base g a c ws) (hw : ws ≠ []) : ∀ x ∈ blkOf a, x < w.heap.size := by
  rcases h.own with e | ⟨gs, rest, rfl, _, hB, _⟩
  · exact absurd e hw
  · simp [blkOf, hB.lt]
abbrev spC (g b t e : Nat) : List Value := [ptr g, i64 (b : Int), i64 (t : Int), i64 (e : Int)]
structure SpIs (w : World) (base s g : Nat) (a : Option Addr) (c : Nat) (ws : List (BitVec 64)) (b t e : Nat) : Prop where
  mem : MemIs w base g a c ws
  blk : Blk w s 102 (spC g b t e)
  sg : s ≠ g
  sa : ws ≠ [] → s ∉ blkOf a
  bt : b ≤ t
  te : t ≤ e
  el : e ≤ ws.length
section
variable {w : World} {base s g : Nat} {a : Option Addr} {c : Nat} {ws : List (BitVec 64)} {b t e : Nat}
theorem SpIs.ext {w' : World} {M : List Nat} (h : SpIs w base s g a c ws b t e) (hx : Ext M w w') (hs : s ∉ M) (hg : g ∉ M) (ha : ws ≠ [] → ∀ x ∈ blkOf a, x ∉ M) : SpIs w' base s g a c ws b t e :=
  ⟨h.mem.ext hx hg ha, h.blk.ext hx hs, h.sg, h.sa, h.bt, h.te, h.el⟩
theorem SpIs.ext0 {w' : World} (h : SpIs w base s g a c ws b t e) (hx : Ext [] w w') : SpIs w' base s g a c ws b t e := h.ext hx (by simp) (by simp) (by simp)
def mayP (b t e n : Int) : Prop := 0 ≤ b ∧ b ≤ t ∧ t ≤ e ∧ e ≤ n
instance (b t e n : Int) : Decidable (mayP b t e n) := by unfold mayP; infer_instance
/-! a place's header -/
/-! a new object -/
end
end Go.Proofs.Ytdpmidgeipibbaa
end
section
set_option linter.unusedVariables false
set_option linter.unusedSimpArgs false
set_option maxHeartbeats 4000000
namespace Go.Proofs.Ytdpmidgeipibbaa
open Go.Sh Go.RowKit

theorem SizeW_spec {x : BitVec 64} (h : okW x) (w : World) : Gives Try.prog n_head_Size #[hd (vP x) (vB x) false (vT x)] w (i64 (szW x : Int)) := by
  have e := (okW_size h).1
  rw [(okW_size h).2.2.1] at e
  rw [← e]
  exact Size_spec _ _ _ _ w
abbrev NewI (w w' : World) (v : Value) (l : List Nat) : Prop := NewR 3 1 w w' v l.length (nums l)
section
variable {w : World} {base s g : Nat} {a : Option Addr} {c : Nat} {ws : List (BitVec 64)} {b t e : Nat}
end
end Go.Proofs.Ytdpmidgeipibbaa
end
section
set_option linter.unusedVariables false
set_option linter.unusedSimpArgs false
set_option maxHeartbeats 4000000
namespace Go.Proofs.Ytdpmidgeipibbaa
open Go.Sh Go.RowKit

def pN (x : BitVec 64) : Nat := (uP x).toNat
def bN (x : BitVec 64) : Nat := (uB x).toNat
theorem okW_v {x : BitVec 64} (h : okW x) : vP x = pN x ∧ vB x = bN x ∧ vM x = false ∧ vT x = 0 ∧ unErr x = 0 ∧ szW x = 1 + pN x + (bN x + 7) / 8 ∧ pN x ≤ 64 ∧ bN x ≤ 1024 := by
  obtain ⟨_, e2, e3, _, _⟩ := okW_size h
  obtain ⟨h1, h2⟩ := h
  have h3 := h1.1
  rw [h2, right_f] at h3
  simp only [vP, vB, vT, if_pos h1, pN, bN]
  exact ⟨by omega, by omega, e3, by omega, e2, rfl, by omega, by omega⟩
/-- an object that ends by the top -/
structure ObjAt (ws : List (BitVec 64)) (b t o : Nat) : Prop where
  lo : b ≤ o
  ok : okW (wat ws o)
  hi : o + szW (wat ws o) ≤ t
theorem ObjAt.lt {ws : List (BitVec 64)} {b t o : Nat} (h : ObjAt ws b t o) : o < t := by
  have := h.hi
  have := szW_pos (x := wat ws o)
  omega
section
variable {w : World} {base s g : Nat} {a : Option Addr} {c : Nat} {ws : List (BitVec 64)} {b t e : Nat}
end
end Go.Proofs.Ytdpmidgeipibbaa
end
section
set_option linter.unusedVariables false
set_option linter.unusedSimpArgs false
set_option maxHeartbeats 4000000
namespace Go.Proofs.Ytdpmidgeipibbaa
open Go.Sh Go.RowKit

def PtrW (ws : List (BitVec 64)) (l : List Nat) (o : Nat) : Prop := ∀ i, i < pN (wat ws o) → (wat ws (o + 1 + i)).toNat = 0 ∨ ((wat ws (o + 1 + i)).toNat ≤ 8192 ∧ 1 ≤ (wat ws (o + 1 + i)).toNat ∧ (wat ws (o + 1 + i)).toNat - 1 ∈ l)
def PadW (ws : List (BitVec 64)) (o : Nat) : Prop := ∀ j, (o + 1 + pN (wat ws o)) * 8 + bN (wat ws o) ≤ j → j < (o + szW (wat ws o)) * 8 → byteW ws j = BitVec.ofNat 8 0
theorem Objs.count {ws : List (BitVec 64)} {t o : Nat} {l : List Nat} (h : Objs ws t o l) : o + l.length ≤ t := by
  induction h with
  | nil => simp
  | @cons o q h1 h2 h3 ih => have := szW_pos (x := wat ws o); simp only [List.length_cons]; omega
def WellP (ws : List (BitVec 64)) (b t : Nat) : Prop := ∃ l, objs ws b t = some l ∧ ∀ o ∈ l, PtrW ws l o ∧ PadW ws o
def WellIs (ws : List (BitVec 64)) (b t : Nat) (v : Int) : Prop := (WellP ws b t ∧ v = 0) ∨ (¬ WellP ws b t ∧ v = 2)
theorem WellIs.bad {ws : List (BitVec 64)} {b t o : Nat} {l : List Nat} (h : objs ws b t = some l) (ho : o ∈ l) (hb : ¬ (PtrW ws l o ∧ PadW ws o)) : WellIs ws b t 2 := by
  refine .inr ⟨?_, rfl⟩
  rintro ⟨l', h1, h2⟩
  rw [h] at h1
  cases h1
  exact hb (h2 o ho)
def PtrOk (l : List Nat) (x : Nat) : Prop := x = 0 ∨ (x ≤ 8192 ∧ 1 ≤ x ∧ x - 1 ∈ l)
instance (l : List Nat) (x : Nat) : Decidable (PtrOk l x) := by unfold PtrOk; infer_instance
end Go.Proofs.Ytdpmidgeipibbaa
end
section
set_option linter.unusedVariables false
set_option linter.unusedSimpArgs false
set_option maxHeartbeats 4000000
namespace Go.Proofs.Ytdpmidgeipibbaa
open Go.Sh Go.RowKit

/-- walking over words: places, and where it ends for want of an object -/
inductive Sc (x : Nat → BitVec 64) (t : Nat) : Nat → List Nat → Option Nat → Prop
  | done : Sc x t t [] none
  | bad {o : Nat} : o < t → ¬ (okW (x o) ∧ o + szW (x o) ≤ t) → Sc x t o [] (some o)
  | step {o : Nat} {l : List Nat} {b : Option Nat} : okW (x o) → o + szW (x o) ≤ t → Sc x t (o + szW (x o)) l b → Sc x t o (o :: l) b
theorem Sc.le {x : Nat → BitVec 64} {t o : Nat} {l : List Nat} {b : Option Nat} (h : Sc x t o l b) : o ≤ t := by
  cases h with
  | done => exact Nat.le_refl _
  | bad h1 _ => exact Nat.le_of_lt h1
  | step _ h2 _ => have := szW_pos (x := x o); omega
theorem Sc.ex (x : Nat → BitVec 64) (t : Nat) : ∀ (f o : Nat), t ≤ o + f → o ≤ t → ∃ l b, Sc x t o l b
  | 0, o, h1, h2 => by obtain rfl : o = t := by omega
                       exact ⟨_, _, .done⟩
  | f + 1, o, h1, h2 => by
    by_cases h : o = t
    · subst h; exact ⟨_, _, .done⟩
    · by_cases h3 : okW (x o) ∧ o + szW (x o) ≤ t
      · have := szW_pos (x := x o)
        obtain ⟨l, b, h4⟩ := Sc.ex x t f (o + szW (x o)) (by omega) h3.2
        exact ⟨_, _, .step h3.1 h3.2 h4⟩
      · exact ⟨_, _, .bad (by omega) h3⟩
theorem Sc.congr {x y : Nat → BitVec 64} {t o : Nat} {l : List Nat} {b : Option Nat} (h : Sc x t o l b) (e : ∀ i, o ≤ i → i < t → x i = y i) : Sc y t o l b := by
  induction h with
  | done => exact .done
  | @bad o h1 h2 => rw [e o (Nat.le_refl _) h1] at h2; exact .bad h1 h2
  | @step o l b h1 h2 h3 ih =>
    have hp := szW_pos (x := x o)
    have e1 := e o (Nat.le_refl _) (by omega)
    have ih := ih fun i hi => e i (by omega)
    rw [e1] at h1 h2 ih
    exact .step h1 h2 ih
theorem Sc.uniq {x : Nat → BitVec 64} {t o : Nat} {l l' : List Nat} {b b' : Option Nat} (h : Sc x t o l b) (h' : Sc x t o l' b') : l = l' ∧ b = b' := by
  induction h generalizing l' b' with
  | done =>
    cases h' with
    | done => exact ⟨rfl, rfl⟩
    | bad h1 _ => exact absurd h1 (Nat.lt_irrefl _)
    | step _ h2 _ => have := szW_pos (x := x t); omega
  | @bad o h1 h2 =>
    cases h' with
    | done => exact absurd h1 (Nat.lt_irrefl _)
    | bad _ _ => exact ⟨rfl, rfl⟩
    | step h3 h4 _ => exact absurd ⟨h3, h4⟩ h2
  | @step o l b h1 h2 h3 ih =>
    cases h' with
    | done => have := szW_pos (x := x t); omega
    | bad _ h5 => exact absurd ⟨h1, h2⟩ h5
    | step _ _ h6 => obtain ⟨rfl, rfl⟩ := ih h6; exact ⟨rfl, rfl⟩
theorem Sc.step_inv {x : Nat → BitVec 64} {t o : Nat} {l : List Nat} {b : Option Nat} (h : Sc x t o l b) (h1 : o < t) (h2 : okW (x o)) (h3 : o + szW (x o) ≤ t) : ∃ l', l = o :: l' ∧ Sc x t (o + szW (x o)) l' b := by
  cases h with
  | done => exact absurd h1 (Nat.lt_irrefl _)
  | bad _ h5 => exact absurd ⟨h2, h3⟩ h5
  | step _ _ h6 => exact ⟨_, rfl, h6⟩
theorem Sc.all {x : Nat → BitVec 64} {t o : Nat} {l : List Nat} {b : Option Nat} (h : Sc x t o l b) : l.Pairwise (· < ·) ∧ ∀ p ∈ l, o ≤ p ∧ okW (x p) ∧ p + szW (x p) ≤ t := by
  induction h with
  | done => exact ⟨.nil, by simp⟩
  | bad => exact ⟨.nil, by simp⟩
  | @step o l b h1 h2 h3 ih =>
    have hp := szW_pos (x := x o)
    refine ⟨List.pairwise_cons.2 ⟨fun p hq => ?_, ih.1⟩, fun p hq => ?_⟩
    · have := (ih.2 p hq).1
      omega
    · rcases List.mem_cons.1 hq with rfl | hq
      · exact ⟨Nat.le_refl _, h1, h2⟩
      · have := ih.2 p hq
        exact ⟨by omega, this.2⟩
theorem Sc.count {x : Nat → BitVec 64} {t o : Nat} {l : List Nat} {b : Option Nat} (h : Sc x t o l b) : o + l.length ≤ t := by
  induction h with
  | done => simp
  | bad h1 _ => simp; omega
  | @step o l b h1 h2 h3 ih => have := szW_pos (x := x o); simp only [List.length_cons]; omega
theorem Sc.objs {ws : List (BitVec 64)} {t o : Nat} {l : List Nat} (h : Sc (wat ws) t o l none) : Objs ws t o l := by
  generalize hb : (none : Option Nat) = b at h
  induction h with
  | done => exact .nil
  | bad => cases hb
  | step h1 h2 _ ih => exact .cons h1 h2 (ih hb)
/-! findings -/
abbrev Fnd := Nat × List (BitVec 8)
def sHead : List (BitVec 8) := [104#8, 101#8, 97#8, 100#8]
def sPtr : List (BitVec 8) := [112#8, 116#8, 114#8]
def sPad : List (BitVec 8) := [112#8, 97#8, 100#8]
def padX (x : Nat → BitVec 64) (o : Nat) : Prop := bN (x o) % 8 ≠ 0 ∧ x (o + szW (x o) - 1) >>> (8 * (bN (x o) % 8)) ≠ 0#64
instance (x : Nat → BitVec 64) (o : Nat) : Decidable (padX x o) := by unfold padX; infer_instance
def badF : Option Nat → List Fnd
  | none => []
  | some o => [(o, sHead)]
def ptrF (x : Nat → BitVec 64) (l : List Nat) (o : Nat) : Nat → List Fnd
  | 0 => []
  | k + 1 => ptrF x l o k ++ (if PtrOk l (x (o + 1 + k)).toNat then [] else [(o + 1 + k, sPtr)])
def padF (x : Nat → BitVec 64) (o : Nat) : List Fnd := if padX x o then [(o + szW (x o) - 1, sPad)] else []
def objF (x : Nat → BitVec 64) (l : List Nat) (o : Nat) : List Fnd := ptrF x l o (pN (x o)) ++ padF x o
def allF (x : Nat → BitVec 64) (l : List Nat) (b : Option Nat) : List Fnd := badF b ++ l.flatMap (objF x l)
theorem ptrF_len (x : Nat → BitVec 64) (l : List Nat) (o : Nat) : ∀ k, (ptrF x l o k).length ≤ k
  | 0 => Nat.le_refl _
  | k + 1 => by
    have := ptrF_len x l o k
    rw [ptrF, List.length_append]
    split <;> simp <;> omega
theorem objF_len (x : Nat → BitVec 64) (l : List Nat) (o : Nat) : (objF x l o).length ≤ pN (x o) + 1 := by
  have := ptrF_len x l o (pN (x o))
  unfold objF padF
  rw [List.length_append]
  split <;> simp <;> omega
theorem szW_ge {y : BitVec 64} : pN y + 1 ≤ szW y := by unfold szW pN; omega
theorem Sc.fnd {x : Nat → BitVec 64} {t o : Nat} {l : List Nat} {b : Option Nat} (h : Sc x t o l b) (l' : List Nat) : ∀ j, ((l.take j).flatMap (objF x l')).length ≤ t - o := by
  induction h with
  | done => simp
  | bad => simp
  | @step o l b h1 h2 h3 ih =>
    intro j
    cases j with
    | zero => simp
    | succ j =>
      have := ih j
      have h4 := objF_len x l' o
      have h5 := szW_ge (y := x o)
      rw [List.take_succ_cons, List.flatMap_cons, List.length_append]
      omega
end Go.Proofs.Ytdpmidgeipibbaa
end
section
set_option linter.unusedVariables false
set_option linter.unusedSimpArgs false
set_option maxHeartbeats 4000000
namespace Go.Proofs.Ytdpmidgeipibbaa
open Go.Sh Go.RowKit

abbrev fC (f : Fnd) : List Value := [i64 (f.1 : Int), .string (strOf f.2)]
abbrev OwnF (w : World) (v : Value) (F : List Fnd) : Prop := Own w 40 2 v F.length (F.flatMap fC)
theorem fC_len (F : List Fnd) : (F.flatMap fC).length = F.length * 2 := by
  induction F with
  | nil => rfl
  | cons f F ih => rw [List.flatMap_cons, List.length_append, ih, List.length_cons]; simp [fC]; omega
theorem appFl {w : World} {K : K1} {v : Value} {F : List Fnd} {f : Fnd} {g : Nat} {cs : List Value} (hO : OwnF w v F) (hcs : cs = fC f) (hl : F.length ≤ 1000000)
    (hK : ∀ v' w', OwnF w' v' (F ++ [f]) → Stp (blk v) (blk v') w w' → K v' w') (hg : g = w.heap.size := by first | rfl | (simp only [World.size_alloc, World.size_drew, World.size_setCell] <;> omega)) : xBuiltin Try.prog .append #[37, 37] 37 [false, false] [v, .slice (some ⟨g, 0, none⟩) 1 1] (w.alloc (.cells cs.toArray 40)) K := by
  subst hcs hg
  refine xAppL (s := 2) (n := F.length) (m := 1) (xs := F.flatMap fC) (news := fC f) (bytes := 24) (z := .agg #[.int .i64 0, .string ⟨#[]⟩]) (by kernel_rfl) (by kernel_rfl) (by rfl) (by decide) hO (by rfl) (by simp [fC, Value.oneCell']) (by omega) (by omega) fun v' w' h1 h2 => hK v' w' ?_ h2
  show Own w' 40 2 v' (F ++ [f]).length ((F ++ [f]).flatMap fC)
  rw [List.length_append, List.flatMap_append]
  simpa using h1
/-- a header, as a map keeps it -/
abbrev hdX (x : Nat → BitVec 64) (p : Nat) : Int × Value := ((p : Int), hd (pN (x p)) (bN (x p)) false 0)
structure WkIs (w0 w : World) (k r : Nat) (v : Value) (a : Option Addr) (c : Nat) (L : List (BitVec 64)) (base : Nat) (l : List Nat) (F : List Fnd) : Prop where
  blk : Blk w k 96 [.slice a L.length c, i64 (base : Int), .map (some r), v]
  map : MapIs w r (l.map (hdX fun p => wat L (p - base)))
  own : OwnF w v F
  kr : k ≠ r
  kv : k ∉ Go.Sh.blk v
  rv : r ∉ Go.Sh.blk v
  up : w0.heap.size ≤ k ∧ w0.heap.size ≤ r ∧ ∀ y ∈ Go.Sh.blk v, w0.heap.size ≤ y
  row : RowAt w a (wrds L)
  ra : ∀ b o, a = some ⟨b, o, none⟩ → L ≠ [] → b < w0.heap.size
  ext : Ext [] w0 w
section
variable {w0 w : World} {k r : Nat} {v : Value} {a : Option Addr} {c : Nat} {L : List (BitVec 64)} {base : Nat} {l : List Nat} {F : List Fnd}
theorem WkIs.ext0 {w' : World} (h : WkIs w0 w k r v a c L base l F) (hx : Ext [] w w') : WkIs w0 w' k r v a c L base l F :=
  ⟨h.blk.ext hx (by simp), h.map.ext0 hx, h.own.ext0 hx, h.kr, h.kv, h.rv, h.up, h.row.ext0 hx, h.ra, h.ext.trans hx⟩
theorem WkIs.rowx {w' : World} {M : List Nat} (h : WkIs w0 w k r v a c L base l F) (hx : Ext M w w') (hM : ∀ y ∈ M, w0.heap.size ≤ y) : RowAt w' a (wrds L) := by
  by_cases hL : L = []
  · subst hL; exact RowAt.nil
  · exact h.row.ext hx fun b o hb hm => by
      have := h.ra b o hb hL
      have := hM b hm
      omega
abbrev rsChk_0 := (And.intro @xBox_r (And.intro @loadK_some (And.intro @loadsK_s (And.intro @loadsK_n (And.intro @loadsR_s (And.intro @loadsR_n (And.intro @storesK_s (And.intro @storesK_n (And.intro @xPick_t (And.intro @xPick_f (And.intro @xGuard_tt (And.intro @xGuard_ff (And.intro @xGuard_tf (And.intro @xGuard_ft (And.intro @xGuard_u 
  (And.intro @xNil_r (And.intro @xIf_t (And.intro @xBin_add' (And.intro @xBin_sub' (And.intro @xBin_mul' (And.intro @xBin_quo' (And.intro @xBin_rem' (And.intro @xIf_f (And.intro @xIf_tt (And.intro @xEx0 (And.intro @xEx1 (And.intro @xEx2 (And.intro @xEx3 (And.intro @xBin_eqs (And.intro @xBin_nes (And.intro @xUn_not (And.intro @xMakeFunc_r (And.intro @xSq_r 
  (And.intro @xPur_s (And.intro @xRd_s (And.intro @xRe_s (And.intro @xDet_s (And.intro @xDet_ld (And.intro @xDet_ld2 (And.intro @xDet_ld3 (And.intro @xDet_ld4 (And.intro @xGuard_tt (And.intro @ld_37 (And.intro @fa_96_3 (And.intro @st_37 (And.intro @bd_40_0_1 @bs_37_1))))))))))))))))))))))))))))))))))))))))))))))
abbrev rsChk_1 := (And.intro @setCells_c (And.intro @setCells_n (And.intro @World.setCell_alloc_at (And.intro @World.setCell_alloc_past (And.intro @World.cell?_alloc_at (And.intro @World.cell?_alloc_past (And.intro @World.frozen?_alloc_at (And.intro @World.frozen?_alloc_past 
  (And.intro @World.size_alloc (And.intro @dlt_t (And.intro @dlt_f (And.intro @dle_t (And.intro @dle_f (And.intro @deq_t (And.intro @deq_f (And.intro @dne_t (And.intro @dne_f (And.intro @not_true_eq_false (And.intro @Bool.false_and (And.intro @Bool.true_and (And.intro @Bool.and_true (And.intro @Bool.and_false (And.intro @wrap_in (And.intro @Int.toNat_natCast 
  (And.intro @Nat.mul_one (And.intro @cells_int (And.intro @cells_bool (And.intro @cells_string (And.intro @cells_slice (And.intro @cells_pointer (And.intro @cells_agg (And.intro @one_int (And.intro @one_bool (And.intro @one_string (And.intro @one_slice (And.intro @one_pointer (And.intro @beq_tt (And.intro @beq_ff (And.intro @beq_tf 
  (And.intro @beq_ft (And.intro @cell_sets_b (And.intro @frozen_sets (And.intro @size_sets (And.intro @World.size_drew (And.intro @Nat.zero_add (And.intro @Nat.add_zero (And.intro @cell_drew (And.intro @frozen_drew (And.intro @cell_set_eq (And.intro @cell_set_o (And.intro @cell_set_b (And.intro @World.frozen?_setCell 
  (And.intro @decide_true (And.intro @decide_false (And.intro @not_false_eq_true (And.intro @Bool.not_true @Bool.not_false))))))))))))))))))))))))))))))))))))))))))))))))))))))))
theorem add_spec {at' : Nat} {s : List (BitVec 8)} (h : WkIs w0 w k r v a c L base l F) (hF : F.length ≤ 1000000) : Yld Try.prog n_check_walk_add #[ptr k, i64 (at' : Int), .string (strOf s)] w fun u w' => ∃ v', WkIs w0 w' k r v' a c L base l (F ++ [(at', s)]) ∧ Stp (k :: Go.Sh.blk v) (k :: Go.Sh.blk v') w w' := by
  have kb := fun i => h.blk.cell (i := i)
  have zk := h.blk.lt
  have zr := h.map.lt
  obtain ⟨a2, c2, hv, _⟩ := h.own.slice
  refine check_walk_add_of ?_
  unfold check_walk_add
  have hv2 := hv
  subst hv2
  simp (disch := (first | omega | decide | (simp only [World.size_alloc, World.size_setCell, World.size_drew, size_sets, List.mem_cons, List.not_mem_nil, or_false, not_false_eq_true] <;> omega) | fail)) only [↓rsChk_0, rsChk_1, Option.isNone_some, Option.isNone_none, tick_eq, tickV_eq, ne_eq, Int.reduceAdd, Int.reduceSub, Int.reduceMul, Int.reduceEq, Int.reduceLT, Int.reduceLE, Int.reduceToNat, Nat.reduceMul, Nat.reduceAdd, Nat.reduceSub, List.nil_append, List.cons_append, List.getElem?_toArray, List.getElem?_cons_zero, List.getElem?_cons_succ, List.setIfInBounds_toArray, List.set_cons_zero, List.set_cons_succ, Option.map_some, List.not_mem_nil, ←decide_not, kb]
  refine appFl h.own (f := (at', s)) rfl hF fun v' w1 O1 F1 => ?_
  have B1 := h.blk.ext F1.ext h.kv
  have k1 := fun i => B1.cell (i := i)
  have f1 := fun i => B1.frozen (i := i)
  obtain ⟨a3, c3, hv3, _⟩ := O1.slice
  have hkv : k ∉ Go.Sh.blk v' := fun hm => by
    rcases F1.at' k hm with h1 | h1
    · exact h.kv h1
    · omega
  have hrv : r ∉ Go.Sh.blk v' := fun hm => by
    rcases F1.at' r hm with h1 | h1
    · exact h.rv h1
    · omega
  have M1 := h.map.ext F1.ext h.rv
  have z1 := F1.ext.size
  have hup : ∀ y ∈ Go.Sh.blk v', w0.heap.size ≤ y := fun y hy => by
    rcases F1.at' y hy with h1 | h1
    · exact h.up.2.2 y h1
    · have := h.ext.size
      omega
  have R1 := h.rowx F1.ext (fun y hy => h.up.2.2 y hy)
  have X1 : Ext [] w0 w1 := h.ext.new F1.ext (fun y hy => h.up.2.2 y hy)
  have G1 := F1.ext
  have T1 := F1.at'
  subst hv3
  simp (disch := (first | omega | decide | (simp only [World.size_alloc, World.size_setCell, World.size_drew, size_sets, List.mem_cons, List.not_mem_nil, or_false, not_false_eq_true] <;> omega) | fail)) only [↓rsChk_0, rsChk_1, Option.isNone_some, Option.isNone_none, tick_eq, tickV_eq, ne_eq, Int.reduceAdd, Int.reduceSub, Int.reduceMul, Int.reduceEq, Int.reduceLT, Int.reduceLE, Int.reduceToNat, Nat.reduceMul, Nat.reduceAdd, Nat.reduceSub, List.nil_append, List.cons_append, List.getElem?_toArray, List.getElem?_cons_zero, List.getElem?_cons_succ, List.setIfInBounds_toArray, List.set_cons_zero, List.set_cons_succ, Option.map_some, List.not_mem_nil, ←decide_not, kb, k1, f1]
  have B2 := B1.set (i := 3) (v := .slice a3 (F ++ [(at', s)]).length c3)
  have X2 : Ext [k] w1 (w1.setCell ⟨k, 3, none⟩ (.slice a3 (F ++ [(at', s)]).length c3)) := Ext.set (w := w1) (b := k)
  refine ⟨_, ⟨B2, M1.ext X2 (by simpa using h.kr.symm), O1.ext X2 (fun y hy hm => by simp only [List.mem_singleton] at hm; subst hm; exact hkv hy), h.kr, hkv, hrv, ⟨h.up.1, h.up.2.1, hup⟩, ?_, h.ra, X1.set' (.inr h.up.1)⟩, ⟨(G1.more (fun y hy => List.mem_cons_of_mem _ hy)).set' (.inl (by simp)), fun y hy => ?_⟩⟩
  · by_cases hL : L = []
    · subst hL; exact RowAt.nil
    · exact R1.ext X2 fun b o hb hm => by
        have := h.ra b o hb hL
        simp only [List.mem_singleton] at hm
        have := h.up.1
        omega
  · rcases List.mem_cons.1 hy with rfl | hy
    · exact .inl (by simp)
    · rcases T1 y hy with h1 | h1
      · exact .inl (List.mem_cons_of_mem _ h1)
      · exact .inr h1
theorem zero_hd (w : World) : (zeroValue 123).run Try.prog w = .ok (hd 0 0 false 0) w := by kernel_rfl
theorem mget_hd {x : Nat → BitVec 64} {l : List Nat} {p : Nat} (hp : p ∈ l) : mget (l.map (hdX x)) (p : Int) = some (hd (pN (x p)) (bN (x p)) false 0) := by
  induction l with
  | nil => cases hp
  | cons q l ih =>
    rw [List.map_cons, mget]
    by_cases e : (q : Int) = p
    · have : q = p := by omega
      subst this
      exact if_pos rfl
    · rw [if_neg e]
      rcases List.mem_cons.1 hp with rfl | h
      · exact absurd rfl e
      · exact ih h
theorem mget_no {x : Nat → BitVec 64} {l : List Nat} {i : Int} (h : ∀ p ∈ l, (p : Int) ≠ i) : mget (l.map (hdX x)) i = none :=
  mget_none fun q hq => by
    obtain ⟨p, hp, rfl⟩ := List.mem_map.1 hq
    exact h p hp
abbrev rsChk_2 := (And.intro @xBox_r (And.intro @loadK_some (And.intro @loadsK_s (And.intro @loadsK_n (And.intro @loadsR_s (And.intro @loadsR_n (And.intro @storesK_s (And.intro @storesK_n (And.intro @xPick_t (And.intro @xPick_f (And.intro @xGuard_tt (And.intro @xGuard_ff (And.intro @xGuard_tf (And.intro @xGuard_ft (And.intro @xGuard_u 
  (And.intro @xNil_r (And.intro @xIf_t (And.intro @xBin_add' (And.intro @xBin_sub' (And.intro @xBin_mul' (And.intro @xBin_quo' (And.intro @xBin_rem' (And.intro @xIf_f (And.intro @xIf_tt (And.intro @xEx0 (And.intro @xEx1 (And.intro @xEx2 (And.intro @xEx3 (And.intro @xBin_eqs (And.intro @xBin_nes (And.intro @xUn_not (And.intro @xu8_add (And.intro @xu8_sub 
  (And.intro @xu8_eql (And.intro @xu8_leq (And.intro @xu16_add (And.intro @xu16_sub (And.intro @xu16_eql (And.intro @xu16_leq (And.intro @xu32_add (And.intro @xu32_sub (And.intro @xu32_eql (And.intro @xu32_leq (And.intro @xu64_add (And.intro @xu64_sub (And.intro @xu64_eql (And.intro @xu64_leq (And.intro @xi64_leq (And.intro @xi64_eql (And.intro @xMakeFunc_r 
  (And.intro @xSq_r (And.intro @xPur_s (And.intro @xRd_s (And.intro @xRe_s (And.intro @xDet_s (And.intro @xDet_ld (And.intro @xDet_ld2 (And.intro @xDet_ld3 (And.intro @xDet_ld4 (And.intro @xGuard_tt (And.intro @ld_3 (And.intro @ld_28 (And.intro @ld_94 (And.intro @fa_96_0 (And.intro @fa_96_1 (And.intro @fa_96_2 (And.intro @al_123 (And.intro @st_123 (And.intro @cv_3_69 
  (And.intro @cv_69_3 @ln_28))))))))))))))))))))))))))))))))))))))))))))))))))))))))))))))))))))))
theorem points_spec (h : WkIs w0 w k r v a c L base l F) (hl : ∀ p ∈ l, p < base + L.length) (hb : base + L.length ≤ 8192) (y : BitVec 64) : Gives Try.prog n_check_walk_points #[ptr k, u64 y] w (.bool (decide (PtrOk l y.toNat))) := by
  have kb := fun i => h.blk.cell (i := i)
  have zk := h.blk.lt
  have hy := y.isLt
  refine check_walk_points_of ?_
  unfold check_walk_points
  by_cases h0 : y.toNat = 0
  · have hx0 : y = BitVec.ofNat 64 0 := BitVec.eq_of_toNat_eq h0
    subst hx0
    simp (disch := (first | omega | decide | (simp only [World.size_alloc, World.size_setCell, World.size_drew, size_sets, List.mem_cons, List.not_mem_nil, or_false, not_false_eq_true] <;> omega) | fail)) only [↓rsChk_2, rsChk_1, Option.isNone_some, Option.isNone_none, tick_eq, tickV_eq, ne_eq, Int.reduceAdd, Int.reduceSub, Int.reduceMul, Int.reduceEq, Int.reduceLT, Int.reduceLE, Int.reduceToNat, Nat.reduceMul, Nat.reduceAdd, Nat.reduceSub, List.nil_append, List.cons_append, List.getElem?_toArray, List.getElem?_cons_zero, List.getElem?_cons_succ, List.setIfInBounds_toArray, List.set_cons_zero, List.set_cons_succ, Option.map_some, List.not_mem_nil, ←decide_not, eq_self]
    exact ⟨by rw [decide_eq_true (.inl rfl)], Ext.refl _ _⟩
  have hne : y ≠ BitVec.ofNat 64 0 := fun h => h0 (by rw [h]; rfl)
  have hs : (y - BitVec.ofNat 64 1).toNat = y.toNat - 1 := by
    rw [BitVec.toNat_sub]
    have : (BitVec.ofNat 64 1).toNat = 1 := by decide
    omega
  have hlk := fun (K : K1) => xLookup_ok (P := Try.prog) (K := K) (t := 94) (kt := 3) (et := 123) (by kernel_rfl) (by kernel_rfl) (zero_hd w) h.map ((y - BitVec.ofNat 64 1).toInt)
  by_cases hp : y.toNat - 1 ∈ l
  · have hlt := hl _ hp
    have hi : (y - BitVec.ofNat 64 1).toInt = ((y.toNat - 1 : Nat) : Int) := by rw [BitVec.toInt_eq_toNat_of_lt (by omega), hs]
    rw [hi, mget_hd hp] at hlk
    have hc : (BitVec.ofInt 64 ((base : Int) + (L.length : Int))).toNat = base + L.length := by
      rw [show (base : Int) + (L.length : Int) = ((base + L.length : Nat) : Int) by omega, BitVec.ofInt_natCast, BitVec.toNat_ofNat]
      omega
    have hle : decide (y.toNat ≤ (BitVec.ofInt 64 ((base : Int) + (L.length : Int))).toNat) = true := decide_eq_true (by omega)
    have hlk2 : ∀ K : K1, xLookup Try.prog 94 (.map (some r)) (i64 ((y.toNat - 1 : Nat) : Int)) true w K = K (.tuple #[hd (pN (wat L (y.toNat - 1 - base))) (bN (wat L (y.toNat - 1 - base))) false 0, .bool true]) w := hlk
    simp (disch := (first | omega | decide | (simp only [World.size_alloc, World.size_setCell, World.size_drew, size_sets, List.mem_cons, List.not_mem_nil, or_false, not_false_eq_true] <;> omega) | fail)) only [↓rsChk_2, rsChk_1, Option.isNone_some, Option.isNone_none, tick_eq, tickV_eq, ne_eq, Int.reduceAdd, Int.reduceSub, Int.reduceMul, Int.reduceEq, Int.reduceLT, Int.reduceLE, Int.reduceToNat, Nat.reduceMul, Nat.reduceAdd, Nat.reduceSub, List.nil_append, List.cons_append, List.getElem?_toArray, List.getElem?_cons_zero, List.getElem?_cons_succ, List.setIfInBounds_toArray, List.set_cons_zero, List.set_cons_succ, Option.map_some, List.not_mem_nil, ←decide_not, kb, decide_eq_false hne, hi, hlk2, hle]
    exact ⟨by rw [decide_eq_true (.inr ⟨by omega, by omega, hp⟩)], (Ext.alloc _ _ _).trans (Ext.drew _ _)⟩
  · have hno : mget (l.map (hdX fun p => wat L (p - base))) ((y - BitVec.ofNat 64 1).toInt) = none := mget_no fun p hpl e => by
      have hpb := hl p hpl
      have h5 : (y - BitVec.ofNat 64 1).toInt = ((y.toNat - 1 : Nat) : Int) := by
        rw [BitVec.toInt_eq_toNat_cond, hs]
        rw [BitVec.toInt_eq_toNat_cond, hs] at e
        split at e
        · rw [if_pos (by assumption)]
        · omega
      rw [h5] at e
      have : p = y.toNat - 1 := by omega
      exact hp (this ▸ hpl)
    have hno2 : ¬ PtrOk l y.toNat := by
      rintro (h1 | ⟨_, _, h1⟩)
      · exact h0 h1
      · exact hp h1
    rw [hno] at hlk
    have hlk2 : ∀ K : K1, xLookup Try.prog 94 (.map (some r)) (i64 ((y - BitVec.ofNat 64 1).toInt)) true w K = K (.tuple #[hd 0 0 false 0, .bool false]) w := hlk
    generalize hti : (y - BitVec.ofNat 64 1).toInt = ti at *
    simp (disch := (first | omega | decide | (simp only [World.size_alloc, World.size_setCell, World.size_drew, size_sets, List.mem_cons, List.not_mem_nil, or_false, not_false_eq_true] <;> omega) | fail)) only [↓rsChk_2, rsChk_1, Option.isNone_some, Option.isNone_none, tick_eq, tickV_eq, ne_eq, Int.reduceAdd, Int.reduceSub, Int.reduceMul, Int.reduceEq, Int.reduceLT, Int.reduceLE, Int.reduceToNat, Nat.reduceMul, Nat.reduceAdd, Nat.reduceSub, List.nil_append, List.cons_append, List.getElem?_toArray, List.getElem?_cons_zero, List.getElem?_cons_succ, List.setIfInBounds_toArray, List.set_cons_zero, List.set_cons_succ, Option.map_some, List.not_mem_nil, ←decide_not, kb, decide_eq_false hne, hti, hlk2]
    exact ⟨by rw [decide_eq_false hno2], (Ext.alloc _ _ _).trans (Ext.drew _ _)⟩
abbrev rsChk_3 := (And.intro @xBox_r (And.intro @loadK_some (And.intro @loadsK_s (And.intro @loadsK_n (And.intro @loadsR_s (And.intro @loadsR_n (And.intro @storesK_s (And.intro @storesK_n (And.intro @xPick_t (And.intro @xPick_f (And.intro @xGuard_tt (And.intro @xGuard_ff (And.intro @xGuard_tf (And.intro @xGuard_ft (And.intro @xGuard_u 
  (And.intro @xNil_r (And.intro @xIf_t (And.intro @xBin_add' (And.intro @xBin_sub' (And.intro @xBin_mul' (And.intro @xBin_quo' (And.intro @xBin_rem' (And.intro @xIf_f (And.intro @xIf_tt (And.intro @xEx0 (And.intro @xEx1 (And.intro @xEx2 (And.intro @xEx3 (And.intro @xBin_eqs (And.intro @xBin_nes (And.intro @xUn_not (And.intro @xu8_mul (And.intro @xu8_rem 
  (And.intro @xu8_shr (And.intro @xu8_neq (And.intro @xu8_gtr (And.intro @xu16_mul (And.intro @xu16_rem (And.intro @xu16_shr (And.intro @xu16_neq (And.intro @xu16_gtr (And.intro @xu32_mul (And.intro @xu32_rem (And.intro @xu32_shr (And.intro @xu32_neq (And.intro @xu32_gtr (And.intro @xu64_mul (And.intro @xu64_rem (And.intro @xu64_shr (And.intro @xu64_neq 
  (And.intro @xu64_gtr (And.intro @xi64_gtr (And.intro @xi64_neq (And.intro @xi64_shr (And.intro @xi64_neg (And.intro @xMakeFunc_r (And.intro @xSq_r (And.intro @xPur_s (And.intro @xRd_s (And.intro @xRe_s (And.intro @xDet_s (And.intro @xDet_ld (And.intro @xDet_ld2 (And.intro @xDet_ld3 (And.intro @xDet_ld4 @xGuard_tt)))))))))))))))))))))))))))))))))))))))))))))))))))))))))))))))))
theorem cpad_spec (x : BitVec 64) (n : Nat) (hn : n ≤ 100000) (w : World) : Gives Try.prog n_check_pad #[u64 x, i64 (n : Int)] w (.bool (decide (n % 8 ≠ 0 ∧ x >>> (8 * (n % 8)) ≠ 0#64))) := by
  refine check_pad_of ?_
  unfold check_pad
  have e1 : (n : Int) % 8 = ((n % 8 : Nat) : Int) := by omega
  have e2 : 8 * ((n % 8 : Nat) : Int) = ((8 * (n % 8) : Nat) : Int) := by omega
  by_cases h0 : n % 8 = 0
  · have e3 : ¬ 0 < (n : Int) % 8 := by omega
    simp (disch := (first | omega | decide | (simp only [World.size_alloc, World.size_setCell, World.size_drew, size_sets, List.mem_cons, List.not_mem_nil, or_false, not_false_eq_true] <;> omega) | fail)) only [↓rsChk_3, rsChk_1, Option.isNone_some, Option.isNone_none, tick_eq, tickV_eq, ne_eq, Int.reduceAdd, Int.reduceSub, Int.reduceMul, Int.reduceEq, Int.reduceLT, Int.reduceLE, Int.reduceToNat, Nat.reduceMul, Nat.reduceAdd, Nat.reduceSub, List.nil_append, List.cons_append, List.getElem?_toArray, List.getElem?_cons_zero, List.getElem?_cons_succ, List.setIfInBounds_toArray, List.set_cons_zero, List.set_cons_succ, Option.map_some, List.not_mem_nil, ←decide_not, eq_self]
    exact ⟨by rw [decide_eq_false (fun h => h.1 h0)], Ext.refl _ _⟩
  · have e3 : 0 < (n : Int) % 8 := by omega
    have e4 : (8 * ((n : Int) % 8)).toNat = 8 * (n % 8) := by omega
    by_cases h1 : x >>> (8 * (n % 8)) = BitVec.ofNat 64 0
    · simp (disch := (first | omega | decide | (simp only [World.size_alloc, World.size_setCell, World.size_drew, size_sets, List.mem_cons, List.not_mem_nil, or_false, not_false_eq_true] <;> omega) | fail)) only [↓rsChk_3, rsChk_1, Option.isNone_some, Option.isNone_none, tick_eq, tickV_eq, ne_eq, Int.reduceAdd, Int.reduceSub, Int.reduceMul, Int.reduceEq, Int.reduceLT, Int.reduceLE, Int.reduceToNat, Nat.reduceMul, Nat.reduceAdd, Nat.reduceSub, List.nil_append, List.cons_append, List.getElem?_toArray, List.getElem?_cons_zero, List.getElem?_cons_succ, List.setIfInBounds_toArray, List.set_cons_zero, List.set_cons_succ, Option.map_some, List.not_mem_nil, ←decide_not, e4, decide_eq_false (fun h : ¬ x >>> (8 * (n % 8)) = BitVec.ofNat 64 0 => h h1)]
      exact ⟨by rw [decide_eq_false (fun h => h.2 h1)], Ext.refl _ _⟩
    · simp (disch := (first | omega | decide | (simp only [World.size_alloc, World.size_setCell, World.size_drew, size_sets, List.mem_cons, List.not_mem_nil, or_false, not_false_eq_true] <;> omega) | fail)) only [↓rsChk_3, rsChk_1, Option.isNone_some, Option.isNone_none, tick_eq, tickV_eq, ne_eq, Int.reduceAdd, Int.reduceSub, Int.reduceMul, Int.reduceEq, Int.reduceLT, Int.reduceLE, Int.reduceToNat, Nat.reduceMul, Nat.reduceAdd, Nat.reduceSub, List.nil_append, List.cons_append, List.getElem?_toArray, List.getElem?_cons_zero, List.getElem?_cons_succ, List.setIfInBounds_toArray, List.set_cons_zero, List.set_cons_succ, Option.map_some, List.not_mem_nil, ←decide_not, e4, decide_eq_true h1]
      exact ⟨by rw [decide_eq_true ⟨h0, h1⟩], Ext.refl _ _⟩
end
end Go.Proofs.Ytdpmidgeipibbaa
end
section
set_option linter.unusedVariables false
set_option linter.unusedSimpArgs false
set_option maxHeartbeats 4000000
namespace Go.Proofs.Ytdpmidgeipibbaa
open Go.Sh Go.RowKit

section
variable {w0 w : World} {k r : Nat} {v : Value} {a : Option Addr} {c : Nat} {L : List (BitVec 64)} {base : Nat} {l : List Nat} {F : List Fnd}
theorem WkIs.extM {w' : World} {M : List Nat} (h : WkIs w0 w k r v a c L base l F) (hx : Ext M w w') (h1 : k ∉ M) (h2 : r ∉ M) (h3 : ∀ y ∈ Go.Sh.blk v, y ∉ M) (h4 : ∀ y ∈ M, w0.heap.size ≤ y) : WkIs w0 w' k r v a c L base l F :=
  ⟨h.blk.ext hx h1, h.map.ext hx h2, h.own.ext hx h3, h.kr, h.kv, h.rv, h.up, h.rowx hx h4, h.ra, h.ext.new hx h4⟩
theorem WkIs.put {w' : World} {p : Nat} (h : WkIs w0 w k r v a c L base l F) (M : MapIs w' r ((l ++ [p]).map (hdX fun p => wat L (p - base)))) (hx : Ext [r] w w') : WkIs w0 w' k r v a c L base (l ++ [p]) F :=
  ⟨h.blk.ext hx (by simpa using h.kr), M, h.own.ext hx (fun y hy hm => by simp only [List.mem_singleton] at hm; subst hm; exact h.rv hy), h.kr, h.kv, h.rv, h.up, h.rowx hx (fun y hy => by simp only [List.mem_singleton] at hy; subst hy; exact h.up.2.1), h.ra, h.ext.new hx (fun y hy => by simp only [List.mem_singleton] at hy; subst hy; exact h.up.2.1)⟩
theorem word_at (h : WkIs w0 w k r v a c L base l F) {i : Nat} (hi : i < L.length) : ∃ b o, a = some ⟨b, o, none⟩ ∧ w.cell? ⟨b, o + i, none⟩ = some (u64 (wat L i)) := by
  obtain ⟨b5, o5, h5, z5, k5⟩ := h.row.at (i := i) (by simpa using hi)
  refine ⟨b5, o5, h5, ?_⟩
  simp only [List.getElem_map] at k5
  rw [k5]
  unfold wat
  rw [List.getD_eq_getElem?_getD, List.getElem?_eq_getElem hi]
  rfl
abbrev rsChk2_0 := (And.intro @xBox_r (And.intro @loadK_some (And.intro @loadsK_s (And.intro @loadsK_n (And.intro @loadsR_s (And.intro @loadsR_n (And.intro @storesK_s (And.intro @storesK_n (And.intro @xPick_t (And.intro @xPick_f (And.intro @xGuard_tt (And.intro @xGuard_ff (And.intro @xGuard_tf (And.intro @xGuard_ft (And.intro @xGuard_u 
  (And.intro @xNil_r (And.intro @xIf_t (And.intro @xBin_add' (And.intro @xBin_sub' (And.intro @xBin_mul' (And.intro @xBin_quo' (And.intro @xBin_rem' (And.intro @xIf_f (And.intro @xIf_tt (And.intro @xEx0 (And.intro @xEx1 (And.intro @xEx2 (And.intro @xEx3 (And.intro @xBin_eqs (And.intro @xBin_nes (And.intro @xUn_not (And.intro @xu8_add (And.intro @xu8_sub 
  (And.intro @xu8_neq (And.intro @xu8_lss (And.intro @xu8_gtr (And.intro @xu16_add (And.intro @xu16_sub (And.intro @xu16_neq (And.intro @xu16_lss (And.intro @xu16_gtr (And.intro @xu32_add (And.intro @xu32_sub (And.intro @xu32_neq (And.intro @xu32_lss (And.intro @xu32_gtr (And.intro @xu64_add (And.intro @xu64_sub (And.intro @xu64_neq (And.intro @xu64_lss 
  (And.intro @xu64_gtr (And.intro @xi64_lss (And.intro @xi64_gtr (And.intro @xi64_neq (And.intro @xi64_neg (And.intro @xMakeFunc_r (And.intro @xSq_r (And.intro @xPur_s (And.intro @xRd_s (And.intro @xRe_s (And.intro @xDet_s (And.intro @xDet_ld (And.intro @xDet_ld2 (And.intro @xDet_ld3 (And.intro @xDet_ld4 (And.intro @xGuard_tt (And.intro @ld_3 (And.intro @ld_4 
  (And.intro @ld_28 (And.intro @ld_69 (And.intro @ld_94 (And.intro @ld_123 (And.intro @fa_96_0 (And.intro @fa_96_1 (And.intro @fa_96_2 (And.intro @fa_123_2 (And.intro @al_123 (And.intro @st_123 (And.intro @ia_28 (And.intro @ln_28 (And.intro @bs_66_0 @bs_66_1)))))))))))))))))))))))))))))))))))))))))))))))))))))))))))))))))))))))))))))))))
abbrev rsChk2_1 := (And.intro @setCells_c (And.intro @setCells_n (And.intro @World.setCell_alloc_at (And.intro @World.setCell_alloc_past (And.intro @World.cell?_alloc_at (And.intro @World.cell?_alloc_past (And.intro @World.frozen?_alloc_at (And.intro @World.frozen?_alloc_past 
  (And.intro @World.size_alloc (And.intro @dlt_t (And.intro @dlt_f (And.intro @dle_t (And.intro @dle_f (And.intro @deq_t (And.intro @deq_f (And.intro @dne_t (And.intro @dne_f (And.intro @not_true_eq_false (And.intro @Bool.false_and (And.intro @Bool.true_and (And.intro @Bool.and_true (And.intro @Bool.and_false (And.intro @wrap_in (And.intro @Int.toNat_natCast 
  (And.intro @Nat.mul_one (And.intro @cells_int (And.intro @cells_bool (And.intro @cells_string (And.intro @cells_slice (And.intro @cells_pointer (And.intro @cells_agg (And.intro @one_int (And.intro @one_bool (And.intro @one_string (And.intro @one_slice (And.intro @one_pointer (And.intro @beq_tt (And.intro @beq_ff (And.intro @beq_tf 
  (And.intro @beq_ft (And.intro @cell_sets_b (And.intro @frozen_sets (And.intro @size_sets (And.intro @World.size_drew (And.intro @Nat.zero_add (And.intro @Nat.add_zero (And.intro @cell_drew (And.intro @frozen_drew (And.intro @cell_set_eq (And.intro @cell_set_o (And.intro @cell_set_b (And.intro @World.frozen?_setCell 
  (And.intro @decide_true (And.intro @decide_false (And.intro @not_false_eq_true (And.intro @Bool.not_true @Bool.not_false))))))))))))))))))))))))))))))))))))))))))))))))))))))))
theorem objects_spec (h : WkIs w0 w k r v a c L base [] []) (hb : base + L.length ≤ 8192) (hc0 : L.length ≤ c) : Yld Try.prog n_check_walk_objects #[ptr k] w fun u w' =>
    ∃ v' a2 c2 l bad, u = .slice a2 l.length c2 ∧ RowAt w' a2 (nums l) ∧ (∀ z o, a2 = some ⟨z, o, none⟩ → z < w'.heap.size ∧ z ≠ k ∧ z ∉ Go.Sh.blk v') ∧ Sc (fun p => wat L (p - base)) (base + L.length) base l bad ∧ WkIs w0 w' k r v' a c L base l (badF bad) := by
  obtain ⟨l, bad, hS⟩ := Sc.ex (fun p => wat L (p - base)) (base + L.length) L.length base (by omega) (by omega)
  refine check_walk_objects_of ?_
  unfold check_walk_objects
  simp (disch := (first | omega | decide | (simp only [World.size_alloc, World.size_setCell, World.size_drew, size_sets, List.mem_cons, List.not_mem_nil, or_false, not_false_eq_true] <;> omega) | fail)) only [↓rsChk2_0, rsChk2_1, Option.isNone_some, Option.isNone_none, tick_eq, tickV_eq, ne_eq, Int.reduceAdd, Int.reduceSub, Int.reduceMul, Int.reduceEq, Int.reduceLT, Int.reduceLE, Int.reduceToNat, Nat.reduceMul, Nat.reduceAdd, Nat.reduceSub, List.nil_append, List.cons_append, List.getElem?_toArray, List.getElem?_cons_zero, List.getElem?_cons_succ, List.setIfInBounds_toArray, List.set_cons_zero, List.set_cons_succ, Option.map_some, List.not_mem_nil, ←decide_not, eq_self]
  refine xLoop_r (L.length + 1) (fun j vs w' => ∃ (out : Value) (i : Nat) (p lr : List Nat), vs = [out, i64 (i : Int)] ∧ j ≤ i ∧ i ≤ L.length ∧ l = p ++ lr ∧ Sc (fun p => wat L (p - base)) (base + L.length) (base + i) lr bad ∧ (∀ q ∈ p, q < base + i) ∧ WkIs w0 w' k r v a c L base p [] ∧ OwnI w' out p ∧ k ∉ Go.Sh.blk out ∧ r ∉ Go.Sh.blk out ∧ (∀ y ∈ Go.Sh.blk out, y ∉ Go.Sh.blk v) ∧ ∀ y ∈ Go.Sh.blk out, w0.heap.size ≤ y)
    ⟨_, 0, [], l, rfl, Nat.le_refl _, Nat.zero_le _, rfl, hS, by simp, h, Own.nil, by simp [Go.Sh.blk, Value.ownBlock], by simp [Go.Sh.blk, Value.ownBlock], by simp [Go.Sh.blk, Value.ownBlock], by simp [Go.Sh.blk, Value.ownBlock]⟩ ?_ ?_
  rotate_left
  · rintro u v1 ⟨out, i, p, lr, hu, h1, h2, _⟩ nxt
    omega
  rintro j hj u v1 ⟨out, i, p, lr, hu, h1, h2, hl, hSc, hq, W, O, d1, d2, d3, d4⟩ nxt hnx
  simp only [List.map_cons, List.map_nil, List.cons.injEq, and_true] at hu
  rw [hu.1, hu.2]
  have kb := fun i => W.blk.cell (i := i)
  have zk := W.blk.lt
  have zo := O.lt
  have hcount := hSc.count
  have hpl : p.length ≤ 8192 := by have := hS.count; rw [hl, List.length_append] at this; omega
  have fin : ∀ (w' : World) (v' : Value) (lo : List Nat) (bb : Option Nat), lr = [] → bad = bb → WkIs w0 w' k r v' a c L base p (badF bb) → OwnI w' out p → k ∉ Go.Sh.blk out → (∀ y ∈ Go.Sh.blk out, y ∉ Go.Sh.blk v') →
      ∃ v' a2 c2 l bad, out = .slice a2 l.length c2 ∧ RowAt w' a2 (nums l) ∧ (∀ z o, a2 = some ⟨z, o, none⟩ → z < w'.heap.size ∧ z ≠ k ∧ z ∉ Go.Sh.blk v') ∧ Sc (fun p => wat L (p - base)) (base + L.length) base l bad ∧ WkIs w0 w' k r v' a c L base l (badF bad) := by
    intro w' v' lo bb hlr hbb W' O' e1 e2
    subst hlr hbb
    rw [List.append_nil] at hl
    subst hl
    have zo' := O'.lt
    obtain ⟨a2, c2, rfl, _, _, hn2, hr2, _⟩ := O'.slice
    refine ⟨v', a2, c2, l, bad, rfl, hr2, fun z o hz => ?_, hS, W'⟩
    have hm : z ∈ Go.Sh.blk (.slice a2 l.length c2) := by subst hz; simp [Go.Sh.blk, Value.ownBlock]
    exact ⟨zo' z hm, fun e => e1 (e ▸ hm), e2 z hm⟩
  unfold check_walk_objects_l1
  by_cases hi : i < L.length
  rotate_left
  · have hie : i = L.length := by omega
    subst hie
    have hu2 := hSc.uniq .done
    simp (disch := (first | omega | decide | (simp only [World.size_alloc, World.size_setCell, World.size_drew, size_sets, List.mem_cons, List.not_mem_nil, or_false, not_false_eq_true] <;> omega) | fail)) only [↓rsChk2_0, rsChk2_1, Option.isNone_some, Option.isNone_none, tick_eq, tickV_eq, ne_eq, Int.reduceAdd, Int.reduceSub, Int.reduceMul, Int.reduceEq, Int.reduceLT, Int.reduceLE, Int.reduceToNat, Nat.reduceMul, Nat.reduceAdd, Nat.reduceSub, List.nil_append, List.cons_append, List.getElem?_toArray, List.getElem?_cons_zero, List.getElem?_cons_succ, List.setIfInBounds_toArray, List.set_cons_zero, List.set_cons_succ, Option.map_some, List.not_mem_nil, ←decide_not, kb]
    exact fin v1 v [] none hu2.1 hu2.2 W O d1 d3
  obtain ⟨b1, o1, rfl, kw1⟩ := word_at W hi
  have hx : (fun p => wat L (p - base)) (base + i) = wat L i := by simp
  simp (disch := (first | omega | decide | (simp only [World.size_alloc, World.size_setCell, World.size_drew, size_sets, List.mem_cons, List.not_mem_nil, or_false, not_false_eq_true] <;> omega) | fail)) only [↓rsChk2_0, rsChk2_1, Option.isNone_some, Option.isNone_none, tick_eq, tickV_eq, ne_eq, Int.reduceAdd, Int.reduceSub, Int.reduceMul, Int.reduceEq, Int.reduceLT, Int.reduceLE, Int.reduceToNat, Nat.reduceMul, Nat.reduceAdd, Nat.reduceSub, List.nil_append, List.cons_append, List.getElem?_toArray, List.getElem?_cons_zero, List.getElem?_cons_succ, List.setIfInBounds_toArray, List.set_cons_zero, List.set_cons_succ, Option.map_some, List.not_mem_nil, ←decide_not, kb, kw1]
  have hun := Unpack_spec (wat L i) v1
  by_cases hok : okW (wat L i)
  · obtain ⟨v1', v2', v3', v4', v5', v6', v7', v8'⟩ := okW_v hok
    rw [v1', v2', v3', v4', v5'] at hun
    refine head_Unpack_call (Gives.to hun fun w2 F2 => ?_)
    have W2 := W.ext0 F2
    simp (disch := (first | omega | decide | (simp only [World.size_alloc, World.size_setCell, World.size_drew, size_sets, List.mem_cons, List.not_mem_nil, or_false, not_false_eq_true] <;> omega) | fail)) only [↓rsChk2_0, rsChk2_1, Option.isNone_some, Option.isNone_none, tick_eq, tickV_eq, ne_eq, Int.reduceAdd, Int.reduceSub, Int.reduceMul, Int.reduceEq, Int.reduceLT, Int.reduceLE, Int.reduceToNat, Nat.reduceMul, Nat.reduceAdd, Nat.reduceSub, List.nil_append, List.cons_append, List.getElem?_toArray, List.getElem?_cons_zero, List.getElem?_cons_succ, List.setIfInBounds_toArray, List.set_cons_zero, List.set_cons_succ, Option.map_some, List.not_mem_nil, ←decide_not, kb, kw1]
    have B : Blk (w2.alloc (.cells #[i64 (pN (wat L i)), i64 (bN (wat L i)), .bool false, i64 0] 123)) w2.heap.size 123 [i64 (pN (wat L i)), i64 (bN (wat L i)), .bool false, i64 0] := Blk.at rfl
    have X2 : Ext [] w2 (w2.alloc (.cells #[i64 (pN (wat L i)), i64 (bN (wat L i)), .bool false, i64 0] 123)) := Ext.alloc _ _ _
    have k2 := fun i => ((W2.ext0 X2).ext0 (Ext.drew [] _)).blk.cell (i := i)
    have k2' := fun i => W2.blk.cell (i := i)
    have zk2 := W2.blk.lt
    simp (disch := (first | omega | decide | (simp only [World.size_alloc, World.size_setCell, World.size_drew, size_sets, List.mem_cons, List.not_mem_nil, or_false, not_false_eq_true] <;> omega) | fail)) only [↓rsChk2_0, rsChk2_1, Option.isNone_some, Option.isNone_none, tick_eq, tickV_eq, ne_eq, Int.reduceAdd, Int.reduceSub, Int.reduceMul, Int.reduceEq, Int.reduceLT, Int.reduceLE, Int.reduceToNat, Nat.reduceMul, Nat.reduceAdd, Nat.reduceSub, List.nil_append, List.cons_append, List.getElem?_toArray, List.getElem?_cons_zero, List.getElem?_cons_succ, List.setIfInBounds_toArray, List.set_cons_zero, List.set_cons_succ, Option.map_some, List.not_mem_nil, ←decide_not, kb, kw1, k2']
    have hsz : ∀ w, Gives Try.prog n_head_Size #[hd (pN (wat L i)) (bN (wat L i)) false 0] w (i64 (szW (wat L i) : Int)) := fun w => by
      have := SizeW_spec hok w
      rw [v1', v2', v4'] at this
      exact this
    refine head_Size_call (Gives.to (hsz _) fun w3 F3d => ?_)
    have F3 := (Ext.drew [] _).trans F3d
    have W3 := (W2.ext0 X2).ext0 F3
    have k3 := fun i => W3.blk.cell (i := i)
    have B3 := B.ext F3 (by simp)
    have O3 := (O.ext0 F2).ext0 (X2.trans F3)
    have zh : v1.heap.size ≤ w2.heap.size := F2.size
    generalize w2.heap.size = hh at *
    by_cases hs : i + szW (wat L i) ≤ L.length
    · obtain ⟨lr', hlr', h5⟩ := hSc.step_inv (by omega) (by simpa only [Nat.add_sub_cancel_left] using hok) (by simp only [Nat.add_sub_cancel_left]; omega)
      simp only [Nat.add_sub_cancel_left] at h5
      have k3d := fun i => (W3.ext0 (Ext.drew [] w3)).blk.cell (i := i)
      have B3d := B3.ext (Ext.drew [] w3) (by simp)
      have kb3 := fun i => B3d.cell (i := i)
      have W3d := W3.ext0 (Ext.drew [] w3)
      have e1 : (base : Int) + (i : Int) = ((base + i : Nat) : Int) := by omega
      simp (disch := (first | omega | decide | (simp only [World.size_alloc, World.size_setCell, World.size_drew, size_sets, List.mem_cons, List.not_mem_nil, or_false, not_false_eq_true] <;> omega) | fail)) only [↓rsChk2_0, rsChk2_1, Option.isNone_some, Option.isNone_none, tick_eq, tickV_eq, ne_eq, Int.reduceAdd, Int.reduceSub, Int.reduceMul, Int.reduceEq, Int.reduceLT, Int.reduceLE, Int.reduceToNat, Nat.reduceMul, Nat.reduceAdd, Nat.reduceSub, List.nil_append, List.cons_append, List.getElem?_toArray, List.getElem?_cons_zero, List.getElem?_cons_succ, List.setIfInBounds_toArray, List.set_cons_zero, List.set_cons_succ, Option.map_some, List.not_mem_nil, ←decide_not, kb, kw1, k2', k3, k3d, kb3, e1]
      refine xMapUpdate_new (kt := 3) (et := 123) (by kernel_rfl) (by kernel_rfl) W3d.map (fun q hq2 => by
        obtain ⟨p', hp', rfl⟩ := List.mem_map.1 hq2
        have := hq p' hp'
        simp only
        omega) fun w4 M4 F4 => ?_
      have W4 := W3d.put (p := base + i) (by
        have hk : hdX (fun p => wat L (p - base)) (base + i) = (((base + i : Nat) : Int), hd (pN (wat L i)) (bN (wat L i)) false 0) := by simp only [hdX, Nat.add_sub_cancel_left]
        rw [List.map_append, List.map_singleton, hk]
        exact M4) F4
      have B4 := B3d.ext F4 (by have := W3d.map.lt; have := W.map.lt; simp only [List.mem_singleton]; omega)
      have O4 := (O3.ext0 (Ext.drew [] w3)).ext F4 (fun y hy hm => by simp only [List.mem_singleton] at hm; subst hm; exact d2 hy)
      have k4 := fun i => W4.blk.cell (i := i)
      have kb4 := fun i => B4.cell (i := i)
      have zo4 := O4.lt
      simp (disch := (first | omega | decide | (simp only [World.size_alloc, World.size_setCell, World.size_drew, size_sets, List.mem_cons, List.not_mem_nil, or_false, not_false_eq_true] <;> omega) | fail)) only [↓rsChk2_0, rsChk2_1, Option.isNone_some, Option.isNone_none, tick_eq, tickV_eq, ne_eq, Int.reduceAdd, Int.reduceSub, Int.reduceMul, Int.reduceEq, Int.reduceLT, Int.reduceLE, Int.reduceToNat, Nat.reduceMul, Nat.reduceAdd, Nat.reduceSub, List.nil_append, List.cons_append, List.getElem?_toArray, List.getElem?_cons_zero, List.getElem?_cons_succ, List.setIfInBounds_toArray, List.set_cons_zero, List.set_cons_succ, Option.map_some, List.not_mem_nil, ←decide_not, kb, kw1, k2', k3, k3d, kb3, e1, k4]
      refine appIl O4 rfl (by omega) fun out' w5 O5 F5 => ?_
      have hho : hh ∉ Go.Sh.blk out := fun hm => by have := zo _ hm; omega
      have B5 := B4.ext F5.ext hho
      have kb5 := fun i => B5.cell (i := i)
      have z5 := F5.ext.size
      have W5 := W4.extM F5.ext d1 d2 (fun y hy hm => d3 y hm hy) d4
      simp (disch := (first | omega | decide | (simp only [World.size_alloc, World.size_setCell, World.size_drew, size_sets, List.mem_cons, List.not_mem_nil, or_false, not_false_eq_true] <;> omega) | fail)) only [↓rsChk2_0, rsChk2_1, Option.isNone_some, Option.isNone_none, tick_eq, tickV_eq, ne_eq, Int.reduceAdd, Int.reduceSub, Int.reduceMul, Int.reduceEq, Int.reduceLT, Int.reduceLE, Int.reduceToNat, Nat.reduceMul, Nat.reduceAdd, Nat.reduceSub, List.nil_append, List.cons_append, List.getElem?_toArray, List.getElem?_cons_zero, List.getElem?_cons_succ, List.setIfInBounds_toArray, List.set_cons_zero, List.set_cons_succ, Option.map_some, List.not_mem_nil, ←decide_not, kb, kw1, k2', k3, k3d, kb3, e1, k4, kb5]
      refine head_Size_call (Gives.to (hsz _) fun w6 F6 => ?_)
      simp (disch := (first | omega | decide | (simp only [World.size_alloc, World.size_setCell, World.size_drew, size_sets, List.mem_cons, List.not_mem_nil, or_false, not_false_eq_true] <;> omega) | fail)) only [↓rsChk2_0, rsChk2_1, Option.isNone_some, Option.isNone_none, tick_eq, tickV_eq, ne_eq, Int.reduceAdd, Int.reduceSub, Int.reduceMul, Int.reduceEq, Int.reduceLT, Int.reduceLE, Int.reduceToNat, Nat.reduceMul, Nat.reduceAdd, Nat.reduceSub, List.nil_append, List.cons_append, List.getElem?_toArray, List.getElem?_cons_zero, List.getElem?_cons_succ, List.setIfInBounds_toArray, List.set_cons_zero, List.set_cons_succ, Option.map_some, List.not_mem_nil, ←decide_not, kb, kw1, k2', k3, k3d, kb3, e1, k4, kb5]
      have e3 : (i : Int) + (szW (wat L i) : Int) = ((i + szW (wat L i) : Nat) : Int) := by omega
      rw [e3]
      have hpos := szW_pos (x := wat L i)
      have zk4 := W4.blk.lt
      have zr4 := W4.map.lt
      refine hnx _ _ ⟨out', i + szW (wat L i), p ++ [base + i], lr', rfl, by omega, hs, by rw [hl, hlr']; simp, by rw [← Nat.add_assoc]; exact h5, fun q hq2 => ?_, W5.ext0 F6, O5.ext0 F6, fun hm => ?_, fun hm => ?_, fun y hy hm => ?_, fun y hy => ?_⟩
      · rcases List.mem_append.1 hq2 with h6 | h6
        · have := hq q h6; omega
        · simp only [List.mem_singleton] at h6; omega
      · rcases F5.at' k hm with h6 | h6
        · exact d1 h6
        · omega
      · rcases F5.at' r hm with h6 | h6
        · exact d2 h6
        · omega
      · rcases F5.at' y hy with h6 | h6
        · exact d3 y h6 hm
        · have := W4.own.lt y hm; omega
      · rcases F5.at' y hy with h6 | h6
        · exact d4 y h6
        · have := W4.ext.size; omega
    · have hu2 := hSc.uniq (.bad (by omega) (fun h6 => hs (by have := h6.2; simp only [Nat.add_sub_cancel_left] at this; omega)))
      have e1 : (base : Int) + (i : Int) = ((base + i : Nat) : Int) := by omega
      have cH : ({ data := #[104, 101, 97, 100] } : ByteArray) = strOf sHead := by decide +kernel
      simp (disch := (first | omega | decide | (simp only [World.size_alloc, World.size_setCell, World.size_drew, size_sets, List.mem_cons, List.not_mem_nil, or_false, not_false_eq_true] <;> omega) | fail)) only [↓rsChk2_0, rsChk2_1, Option.isNone_some, Option.isNone_none, tick_eq, tickV_eq, ne_eq, Int.reduceAdd, Int.reduceSub, Int.reduceMul, Int.reduceEq, Int.reduceLT, Int.reduceLE, Int.reduceToNat, Nat.reduceMul, Nat.reduceAdd, Nat.reduceSub, List.nil_append, List.cons_append, List.getElem?_toArray, List.getElem?_cons_zero, List.getElem?_cons_succ, List.setIfInBounds_toArray, List.set_cons_zero, List.set_cons_succ, Option.map_some, List.not_mem_nil, ←decide_not, kb, kw1, k2', k3, e1]
      rw [cH]
      refine check_walk_add_call (Yld.mono (add_spec (at' := base + i) (s := sHead) W3 (by simp)) ?_)
      rintro u w4 ⟨v', W4, F4⟩
      simp (disch := (first | omega | decide | (simp only [World.size_alloc, World.size_setCell, World.size_drew, size_sets, List.mem_cons, List.not_mem_nil, or_false, not_false_eq_true] <;> omega) | fail)) only [↓rsChk2_0, rsChk2_1, Option.isNone_some, Option.isNone_none, tick_eq, tickV_eq, ne_eq, Int.reduceAdd, Int.reduceSub, Int.reduceMul, Int.reduceEq, Int.reduceLT, Int.reduceLE, Int.reduceToNat, Nat.reduceMul, Nat.reduceAdd, Nat.reduceSub, List.nil_append, List.cons_append, List.getElem?_toArray, List.getElem?_cons_zero, List.getElem?_cons_succ, List.setIfInBounds_toArray, List.set_cons_zero, List.set_cons_succ, Option.map_some, List.not_mem_nil, ←decide_not, kb, kw1, k2', k3, e1]
      exact fin w4 v' [] (some (base + i)) hu2.1 hu2.2 W4 (O3.ext F4.ext (fun y hy hm => by
        rcases List.mem_cons.1 hm with rfl | hm
        · exact d1 hy
        · exact d3 y hy hm)) d1 (fun y hy hm => by
        rcases F4.at' y (List.mem_cons_of_mem _ hm) with h6 | h6
        · rcases List.mem_cons.1 h6 with rfl | h6
          · exact d1 hy
          · exact d3 y hy h6
        · have := O3.lt y hy; omega)
  · have hu2 := hSc.uniq (.bad (by omega) (fun h6 => hok (by have := h6.1; simpa only [Nat.add_sub_cancel_left] using this)))
    have e1 : (base : Int) + (i : Int) = ((base + i : Nat) : Int) := by omega
    have cH : ({ data := #[104, 101, 97, 100] } : ByteArray) = strOf sHead := by decide +kernel
    have tl : ∀ w3 : World, Ext [] v1 w3 → xCall Try.prog (fnv n_check_walk_add) [ptr k, i64 ((base + i : Nat) : Int), .string (strOf sHead)] w3 fun u w' => ∃ v' a2 c2 l bad, out = .slice a2 l.length c2 ∧ RowAt w' a2 (nums l) ∧ (∀ z o, a2 = some ⟨z, o, none⟩ → z < w'.heap.size ∧ z ≠ k ∧ z ∉ Go.Sh.blk v') ∧ Sc (fun p => wat L (p - base)) (base + L.length) base l bad ∧ WkIs w0 w' k r v' (some ⟨b1, o1, none⟩) c L base l (badF bad) := by
      intro w3 F3
      have W3 := W.ext0 F3
      have O3 := O.ext0 F3
      refine check_walk_add_call (Yld.mono (add_spec (at' := base + i) (s := sHead) W3 (by simp)) ?_)
      rintro u w4 ⟨v', W4, F4⟩
      exact fin w4 v' [] (some (base + i)) hu2.1 hu2.2 W4 (O3.ext F4.ext (fun y hy hm => by
        rcases List.mem_cons.1 hm with rfl | hm
        · exact d1 hy
        · exact d3 y hy hm)) d1 (fun y hy hm => by
        rcases F4.at' y (List.mem_cons_of_mem _ hm) with h6 | h6
        · rcases List.mem_cons.1 h6 with rfl | h6
          · exact d1 hy
          · exact d3 y hy h6
        · have := O3.lt y hy; omega)
    by_cases he : unErr (wat L i) = 0
    · rw [he, okW_not hok he] at hun
      refine head_Unpack_call (Gives.to hun fun w2 F2 => ?_)
      simp (disch := (first | omega | decide | (simp only [World.size_alloc, World.size_setCell, World.size_drew, size_sets, List.mem_cons, List.not_mem_nil, or_false, not_false_eq_true] <;> omega) | fail)) only [↓rsChk2_0, rsChk2_1, Option.isNone_some, Option.isNone_none, tick_eq, tickV_eq, ne_eq, Int.reduceAdd, Int.reduceSub, Int.reduceMul, Int.reduceEq, Int.reduceLT, Int.reduceLE, Int.reduceToNat, Nat.reduceMul, Nat.reduceAdd, Nat.reduceSub, List.nil_append, List.cons_append, List.getElem?_toArray, List.getElem?_cons_zero, List.getElem?_cons_succ, List.setIfInBounds_toArray, List.set_cons_zero, List.set_cons_succ, Option.map_some, List.not_mem_nil, ←decide_not, kb, kw1]
      have Y : Ext [] v1 (w2.alloc (.cells #[i64 (vP (wat L i)), i64 (vB (wat L i)), .bool true, i64 (vT (wat L i))] 123)).drew := F2.trans ((Ext.alloc _ _ _).trans (Ext.drew _ _))
      have k2 := fun i => (W.ext0 F2).blk.cell (i := i)
      have zk2 := (W.ext0 F2).blk.lt
      simp (disch := (first | omega | decide | (simp only [World.size_alloc, World.size_setCell, World.size_drew, size_sets, List.mem_cons, List.not_mem_nil, or_false, not_false_eq_true] <;> omega) | fail)) only [↓rsChk2_0, rsChk2_1, Option.isNone_some, Option.isNone_none, tick_eq, tickV_eq, ne_eq, Int.reduceAdd, Int.reduceSub, Int.reduceMul, Int.reduceEq, Int.reduceLT, Int.reduceLE, Int.reduceToNat, Nat.reduceMul, Nat.reduceAdd, Nat.reduceSub, List.nil_append, List.cons_append, List.getElem?_toArray, List.getElem?_cons_zero, List.getElem?_cons_succ, List.setIfInBounds_toArray, List.set_cons_zero, List.set_cons_succ, Option.map_some, List.not_mem_nil, ←decide_not, kb, kw1, k2, e1]
      rw [cH]
      exact tl _ Y
    · refine head_Unpack_call (Gives.to hun fun w2 F2 => ?_)
      simp (disch := (first | omega | decide | (simp only [World.size_alloc, World.size_setCell, World.size_drew, size_sets, List.mem_cons, List.not_mem_nil, or_false, not_false_eq_true] <;> omega) | fail)) only [↓rsChk2_0, rsChk2_1, Option.isNone_some, Option.isNone_none, tick_eq, tickV_eq, ne_eq, Int.reduceAdd, Int.reduceSub, Int.reduceMul, Int.reduceEq, Int.reduceLT, Int.reduceLE, Int.reduceToNat, Nat.reduceMul, Nat.reduceAdd, Nat.reduceSub, List.nil_append, List.cons_append, List.getElem?_toArray, List.getElem?_cons_zero, List.getElem?_cons_succ, List.setIfInBounds_toArray, List.set_cons_zero, List.set_cons_succ, Option.map_some, List.not_mem_nil, ←decide_not, kb, kw1]
      have Y : Ext [] v1 (w2.alloc (.cells #[i64 (vP (wat L i)), i64 (vB (wat L i)), .bool (vM (wat L i)), i64 (vT (wat L i))] 123)).drew := F2.trans ((Ext.alloc _ _ _).trans (Ext.drew _ _))
      have k2 := fun i => (W.ext0 F2).blk.cell (i := i)
      have zk2 := (W.ext0 F2).blk.lt
      simp (disch := (first | omega | decide | (simp only [World.size_alloc, World.size_setCell, World.size_drew, size_sets, List.mem_cons, List.not_mem_nil, or_false, not_false_eq_true] <;> omega) | fail)) only [↓rsChk2_0, rsChk2_1, Option.isNone_some, Option.isNone_none, tick_eq, tickV_eq, ne_eq, Int.reduceAdd, Int.reduceSub, Int.reduceMul, Int.reduceEq, Int.reduceLT, Int.reduceLE, Int.reduceToNat, Nat.reduceMul, Nat.reduceAdd, Nat.reduceSub, List.nil_append, List.cons_append, List.getElem?_toArray, List.getElem?_cons_zero, List.getElem?_cons_succ, List.setIfInBounds_toArray, List.set_cons_zero, List.set_cons_succ, Option.map_some, List.not_mem_nil, ←decide_not, kb, kw1, k2, e1]
      rw [cH]
      exact tl _ Y
end
end Go.Proofs.Ytdpmidgeipibbaa
end
section
set_option linter.unusedVariables false
set_option linter.unusedSimpArgs false
set_option maxHeartbeats 4000000
namespace Go.Proofs.Ytdpmidgeipibbaa
open Go.Sh Go.RowKit

section
variable {w0 w : World} {k r : Nat} {v : Value} {a : Option Addr} {c : Nat} {L : List (BitVec 64)} {base : Nat} {l : List Nat} {F : List Fnd}
abbrev rsChk3_0 := (And.intro @xBox_r (And.intro @loadK_some (And.intro @loadsK_s (And.intro @loadsK_n (And.intro @loadsR_s (And.intro @loadsR_n (And.intro @storesK_s (And.intro @storesK_n (And.intro @xPick_t (And.intro @xPick_f (And.intro @xGuard_tt (And.intro @xGuard_ff (And.intro @xGuard_tf (And.intro @xGuard_ft (And.intro @xGuard_u 
  (And.intro @xNil_r (And.intro @xIf_t (And.intro @xBin_add' (And.intro @xBin_sub' (And.intro @xBin_mul' (And.intro @xBin_quo' (And.intro @xBin_rem' (And.intro @xIf_f (And.intro @xIf_tt (And.intro @xEx0 (And.intro @xEx1 (And.intro @xEx2 (And.intro @xEx3 (And.intro @xBin_eqs (And.intro @xBin_nes (And.intro @xUn_not (And.intro @xu8_add (And.intro @xu8_sub 
  (And.intro @xu8_com (And.intro @xu8_leq (And.intro @xu16_add (And.intro @xu16_sub (And.intro @xu16_com (And.intro @xu16_leq (And.intro @xu32_add (And.intro @xu32_sub (And.intro @xu32_com (And.intro @xu32_leq (And.intro @xu64_add (And.intro @xu64_sub (And.intro @xu64_com (And.intro @xu64_leq (And.intro @xi64_leq (And.intro @xMakeFunc_r 
  (And.intro @xSq_r (And.intro @xPur_s (And.intro @xRd_s (And.intro @xRe_s (And.intro @xDet_s (And.intro @xDet_ld (And.intro @xDet_ld2 (And.intro @xDet_ld3 (And.intro @xDet_ld4 (And.intro @xGuard_tt (And.intro @ld_3 (And.intro @ld_28 (And.intro @ld_69 (And.intro @ld_94 (And.intro @ld_123 (And.intro @fa_96_0 (And.intro @fa_96_1 (And.intro @fa_96_2 (And.intro @fa_123_0 
  (And.intro @fa_123_1 (And.intro @al_123 (And.intro @st_123 @ia_28)))))))))))))))))))))))))))))))))))))))))))))))))))))))))))))))))))))))
abbrev rsChk3_1 := (And.intro @setCells_c (And.intro @setCells_n (And.intro @World.setCell_alloc_at (And.intro @World.setCell_alloc_past (And.intro @World.cell?_alloc_at (And.intro @World.cell?_alloc_past (And.intro @World.frozen?_alloc_at (And.intro @World.frozen?_alloc_past 
  (And.intro @World.size_alloc (And.intro @dlt_t (And.intro @dlt_f (And.intro @dle_t (And.intro @dle_f (And.intro @deq_t (And.intro @deq_f (And.intro @dne_t (And.intro @dne_f (And.intro @not_true_eq_false (And.intro @Bool.false_and (And.intro @Bool.true_and (And.intro @Bool.and_true (And.intro @Bool.and_false (And.intro @wrap_in (And.intro @Int.toNat_natCast 
  (And.intro @Nat.mul_one (And.intro @cells_int (And.intro @cells_bool (And.intro @cells_string (And.intro @cells_slice (And.intro @cells_pointer (And.intro @cells_agg (And.intro @one_int (And.intro @one_bool (And.intro @one_string (And.intro @one_slice (And.intro @one_pointer (And.intro @beq_tt (And.intro @beq_ff (And.intro @beq_tf 
  (And.intro @beq_ft (And.intro @cell_sets_b (And.intro @frozen_sets (And.intro @size_sets (And.intro @World.size_drew (And.intro @Nat.zero_add (And.intro @Nat.add_zero (And.intro @cell_drew (And.intro @frozen_drew (And.intro @cell_set_eq (And.intro @cell_set_o (And.intro @cell_set_b (And.intro @World.frozen?_setCell 
  (And.intro @decide_true (And.intro @decide_false (And.intro @not_false_eq_true (And.intro @Bool.not_true @Bool.not_false))))))))))))))))))))))))))))))))))))))))))))))))))))))))
theorem object_spec {o : Nat} (h : WkIs w0 w k r v a c L base l F) (hl : ∀ p ∈ l, p < base + L.length) (hb : base + L.length ≤ 8192) (hc0 : L.length ≤ c) (ho : o ∈ l) (hlo : base ≤ o) (hok : okW (wat L (o - base))) (hhi : o + szW (wat L (o - base)) ≤ base + L.length) (hF : F.length ≤ 100000) :
    Yld Try.prog n_check_walk_object #[ptr k, i64 (o : Int)] w fun u w' => ∃ v', WkIs w0 w' k r v' a c L base l (F ++ objF (fun p => wat L (p - base)) l o) ∧ Stp (k :: Go.Sh.blk v) (k :: Go.Sh.blk v') w w' := by
  obtain ⟨v1', v2', v3', v4', v5', v6', v7', v8'⟩ := okW_v hok
  have kb := fun i => h.blk.cell (i := i)
  have hlk := fun (K : K1) => xLookup_v (P := Try.prog) (K := K) (t := 94) (kt := 3) (et := 123) (by kernel_rfl) (by kernel_rfl) (zero_hd w) h.map (o : Int)
  rw [mget_hd ho] at hlk
  have hlk2 : ∀ K : K1, xLookup Try.prog 94 (.map (some r)) (i64 (o : Int)) false w K = K (hd (pN (wat L (o - base))) (bN (wat L (o - base))) false 0) w := hlk
  refine check_walk_object_of ?_
  unfold check_walk_object
  simp (disch := (first | omega | decide | (simp only [World.size_alloc, World.size_setCell, World.size_drew, size_sets, List.mem_cons, List.not_mem_nil, or_false, not_false_eq_true] <;> omega) | fail)) only [↓rsChk3_0, rsChk3_1, Option.isNone_some, Option.isNone_none, tick_eq, tickV_eq, ne_eq, Int.reduceAdd, Int.reduceSub, Int.reduceMul, Int.reduceEq, Int.reduceLT, Int.reduceLE, Int.reduceToNat, Nat.reduceMul, Nat.reduceAdd, Nat.reduceSub, List.nil_append, List.cons_append, List.getElem?_toArray, List.getElem?_cons_zero, List.getElem?_cons_succ, List.setIfInBounds_toArray, List.set_cons_zero, List.set_cons_succ, Option.map_some, List.not_mem_nil, ←decide_not, kb, hlk2]
  have B : Blk (w.alloc (.cells #[i64 (pN (wat L (o - base))), i64 (bN (wat L (o - base))), .bool false, i64 0] 123)) w.heap.size 123 [i64 (pN (wat L (o - base))), i64 (bN (wat L (o - base))), .bool false, i64 0] := Blk.at rfl
  have X : Ext [] w (w.alloc (.cells #[i64 (pN (wat L (o - base))), i64 (bN (wat L (o - base))), .bool false, i64 0] 123)) := Ext.alloc _ _ _
  have hy := h.ext0 X
  have zk := h.blk.lt
  have zv := h.own.lt
  have hhb : w.heap.size ∉ k :: Go.Sh.blk v := fun hm => by
    rcases List.mem_cons.1 hm with e | hm
    · omega
    · have := zv _ hm; omega
  have hsz : ∀ w, Gives Try.prog n_head_Size #[hd (pN (wat L (o - base))) (bN (wat L (o - base))) false 0] w (i64 (szW (wat L (o - base)) : Int)) := fun w => by
    have := SizeW_spec hok w
    rw [v1', v2', v4'] at this
    exact this
  have hobj : objF (fun p => wat L (p - base)) l o = ptrF (fun p => wat L (p - base)) l o (pN (wat L (o - base))) ++ padF (fun p => wat L (p - base)) o := rfl
  have hpl := ptrF_len (fun p => wat L (p - base)) l o
  have hpadF : padF (fun p => wat L (p - base)) o = if (bN (wat L (o - base)) % 8 ≠ 0 ∧ wat L (o + szW (wat L (o - base)) - 1 - base) >>> (8 * (bN (wat L (o - base)) % 8)) ≠ 0#64) then [(o + szW (wat L (o - base)) - 1, sPad)] else [] := rfl
  rw [hobj]
  generalize hP : pN (wat L (o - base)) = P at *
  generalize hN : bN (wat L (o - base)) = N at *
  generalize hZ : szW (wat L (o - base)) = Z at *
  generalize w.heap.size = hb0 at *
  generalize w.alloc (.cells #[i64 (P : Int), i64 (N : Int), .bool false, i64 0] 123) = y at *
  have e1 : (o : Int) + 1 = ((o + 1 + 0 : Nat) : Int) := by omega
  rw [e1]
  refine xLoop_n P (fun j => [i64 ((o + 1 + j : Nat) : Int)]) (fun j w' => ∃ v', WkIs w0 w' k r v' a c L base l (F ++ ptrF (fun p => wat L (p - base)) l o j) ∧ Stp (k :: Go.Sh.blk v) (k :: Go.Sh.blk v') y w') rfl ⟨v, by simpa [ptrF] using hy, Stp.refl _ _⟩ ?_ ?_
  · rintro j hj u w1 hu ⟨v', W, T⟩ nxt hnx
    simp only [List.map_cons, List.map_nil, List.cons.injEq, and_true] at hu
    rw [hu]
    have B1 := B.ext T.ext hhb
    have k1 := fun i => B1.cell (i := i)
    have Wd := W.ext0 (Ext.drew [] w1)
    have kd := fun i => Wd.blk.cell (i := i)
    have hi : o + 1 + j - base < L.length := by omega
    obtain ⟨b1, o1, rfl, kw1⟩ := word_at Wd hi
    have e2 : ((o + 1 + j : Nat) : Int) - (base : Int) = ((o + 1 + j - base : Nat) : Int) := by omega
    have e3 : ((o + 1 + j : Nat) : Int) + 1 = ((o + 1 + (j + 1) : Nat) : Int) := by omega
    have hle : ((o + 1 + j : Nat) : Int) ≤ (o : Int) + (P : Int) := by omega
    have hpj := hpl j
    have hs : ptrF (fun p => wat L (p - base)) l o (j + 1) = ptrF (fun p => wat L (p - base)) l o j ++ (if PtrOk l (wat L (o + 1 + j - base)).toNat then [] else [(o + 1 + j, sPtr)]) := rfl
    have hpt := points_spec Wd hl hb (wat L (o + 1 + j - base))
    unfold check_walk_object_l1
    generalize wat L (o + 1 + j - base) = xw at *
    generalize hq : o + 1 + j = q at *
    simp (disch := (first | omega | decide | (simp only [World.size_alloc, World.size_setCell, World.size_drew, size_sets, List.mem_cons, List.not_mem_nil, or_false, not_false_eq_true] <;> omega) | fail)) only [↓rsChk3_0, rsChk3_1, Option.isNone_some, Option.isNone_none, tick_eq, tickV_eq, ne_eq, Int.reduceAdd, Int.reduceSub, Int.reduceMul, Int.reduceEq, Int.reduceLT, Int.reduceLE, Int.reduceToNat, Nat.reduceMul, Nat.reduceAdd, Nat.reduceSub, List.nil_append, List.cons_append, List.getElem?_toArray, List.getElem?_cons_zero, List.getElem?_cons_succ, List.setIfInBounds_toArray, List.set_cons_zero, List.set_cons_succ, Option.map_some, List.not_mem_nil, ←decide_not, kb, hlk2, k1, kd, e2, kw1]
    refine check_walk_points_call (Gives.to hpt fun w2 F2d => ?_)
    have F2 := (Ext.drew [] _).trans F2d
    have W2 := W.ext0 F2
    by_cases hok2 : PtrOk l xw.toNat
    · rw [decide_eq_true hok2]
      rw [if_pos hok2, List.append_nil] at hs
      unfold check_walk_object_j1
      simp (disch := (first | omega | decide | (simp only [World.size_alloc, World.size_setCell, World.size_drew, size_sets, List.mem_cons, List.not_mem_nil, or_false, not_false_eq_true] <;> omega) | fail)) only [↓rsChk3_0, rsChk3_1, Option.isNone_some, Option.isNone_none, tick_eq, tickV_eq, ne_eq, Int.reduceAdd, Int.reduceSub, Int.reduceMul, Int.reduceEq, Int.reduceLT, Int.reduceLE, Int.reduceToNat, Nat.reduceMul, Nat.reduceAdd, Nat.reduceSub, List.nil_append, List.cons_append, List.getElem?_toArray, List.getElem?_cons_zero, List.getElem?_cons_succ, List.setIfInBounds_toArray, List.set_cons_zero, List.set_cons_succ, Option.map_some, List.not_mem_nil, ←decide_not, kb, hlk2, k1, kd, e2, kw1]
      rw [e3]
      exact hnx _ ⟨v', by rw [hs]; exact W2, ⟨T.ext.trans (F2.more (by simp)), T.at'⟩⟩
    · rw [decide_eq_false hok2]
      rw [if_neg hok2] at hs
      have cP : ({ data := #[112, 116, 114] } : ByteArray) = strOf sPtr := by decide +kernel
      simp (disch := (first | omega | decide | (simp only [World.size_alloc, World.size_setCell, World.size_drew, size_sets, List.mem_cons, List.not_mem_nil, or_false, not_false_eq_true] <;> omega) | fail)) only [↓rsChk3_0, rsChk3_1, Option.isNone_some, Option.isNone_none, tick_eq, tickV_eq, ne_eq, Int.reduceAdd, Int.reduceSub, Int.reduceMul, Int.reduceEq, Int.reduceLT, Int.reduceLE, Int.reduceToNat, Nat.reduceMul, Nat.reduceAdd, Nat.reduceSub, List.nil_append, List.cons_append, List.getElem?_toArray, List.getElem?_cons_zero, List.getElem?_cons_succ, List.setIfInBounds_toArray, List.set_cons_zero, List.set_cons_succ, Option.map_some, List.not_mem_nil, ←decide_not, kb, hlk2, k1, kd, e2, kw1]
      rw [cP]
      refine check_walk_add_call (Yld.mono (add_spec (at' := q) (s := sPtr) W2 (by rw [List.length_append]; omega)) ?_)
      rintro u w3 ⟨v3, W3, T3⟩
      unfold check_walk_object_j1
      simp (disch := (first | omega | decide | (simp only [World.size_alloc, World.size_setCell, World.size_drew, size_sets, List.mem_cons, List.not_mem_nil, or_false, not_false_eq_true] <;> omega) | fail)) only [↓rsChk3_0, rsChk3_1, Option.isNone_some, Option.isNone_none, tick_eq, tickV_eq, ne_eq, Int.reduceAdd, Int.reduceSub, Int.reduceMul, Int.reduceEq, Int.reduceLT, Int.reduceLE, Int.reduceToNat, Nat.reduceMul, Nat.reduceAdd, Nat.reduceSub, List.nil_append, List.cons_append, List.getElem?_toArray, List.getElem?_cons_zero, List.getElem?_cons_succ, List.setIfInBounds_toArray, List.set_cons_zero, List.set_cons_succ, Option.map_some, List.not_mem_nil, ←decide_not, kb, hlk2, k1, kd, e2, kw1]
      rw [e3]
      refine hnx _ ⟨v3, by rw [hs, ← List.append_assoc]; exact W3, ?_⟩
      exact (Stp.trans ⟨T.ext.trans (F2.more (by simp)), T.at'⟩ T3)
  · rintro u w1 hu ⟨v', W, T⟩ nxt
    simp only [List.map_cons, List.map_nil, List.cons.injEq, and_true] at hu
    rw [hu]
    have B1 := B.ext T.ext hhb
    have k1 := fun i => B1.cell (i := i)
    have hpj := hpl P
    unfold check_walk_object_l1
    simp (disch := (first | omega | decide | (simp only [World.size_alloc, World.size_setCell, World.size_drew, size_sets, List.mem_cons, List.not_mem_nil, or_false, not_false_eq_true] <;> omega) | fail)) only [↓rsChk3_0, rsChk3_1, Option.isNone_some, Option.isNone_none, tick_eq, tickV_eq, ne_eq, Int.reduceAdd, Int.reduceSub, Int.reduceMul, Int.reduceEq, Int.reduceLT, Int.reduceLE, Int.reduceToNat, Nat.reduceMul, Nat.reduceAdd, Nat.reduceSub, List.nil_append, List.cons_append, List.getElem?_toArray, List.getElem?_cons_zero, List.getElem?_cons_succ, List.setIfInBounds_toArray, List.set_cons_zero, List.set_cons_succ, Option.map_some, List.not_mem_nil, ←decide_not, kb, hlk2, k1]
    refine head_Size_call (Gives.to (hsz _) fun w2 F2 => ?_)
    have W2 := W.ext0 F2
    have kd := fun i => W2.blk.cell (i := i)
    have hi : o + Z - 1 - base < L.length := by omega
    obtain ⟨b1, o1, rfl, kw1⟩ := word_at W2 hi
    have e2 : (o : Int) + (Z : Int) - 1 = ((o + Z - 1 : Nat) : Int) := by omega
    have e3 : ((o + Z - 1 : Nat) : Int) - (base : Int) = ((o + Z - 1 - base : Nat) : Int) := by omega
    have B2 := B1.ext F2 (by simp)
    have k2 := fun i => B2.cell (i := i)
    have hpd := cpad_spec (wat L (o + Z - 1 - base)) N (by omega) w2.drew
    generalize wat L (o + Z - 1 - base) = xw at *
    simp (disch := (first | omega | decide | (simp only [World.size_alloc, World.size_setCell, World.size_drew, size_sets, List.mem_cons, List.not_mem_nil, or_false, not_false_eq_true] <;> omega) | fail)) only [↓rsChk3_0, rsChk3_1, Option.isNone_some, Option.isNone_none, tick_eq, tickV_eq, ne_eq, Int.reduceAdd, Int.reduceSub, Int.reduceMul, Int.reduceEq, Int.reduceLT, Int.reduceLE, Int.reduceToNat, Nat.reduceMul, Nat.reduceAdd, Nat.reduceSub, List.nil_append, List.cons_append, List.getElem?_toArray, List.getElem?_cons_zero, List.getElem?_cons_succ, List.setIfInBounds_toArray, List.set_cons_zero, List.set_cons_succ, Option.map_some, List.not_mem_nil, ←decide_not, kb, hlk2, k1]
    rw [e2]
    generalize hq : o + Z - 1 = q at *
    simp (disch := (first | omega | decide | (simp only [World.size_alloc, World.size_setCell, World.size_drew, size_sets, List.mem_cons, List.not_mem_nil, or_false, not_false_eq_true] <;> omega) | fail)) only [↓rsChk3_0, rsChk3_1, Option.isNone_some, Option.isNone_none, tick_eq, tickV_eq, ne_eq, Int.reduceAdd, Int.reduceSub, Int.reduceMul, Int.reduceEq, Int.reduceLT, Int.reduceLE, Int.reduceToNat, Nat.reduceMul, Nat.reduceAdd, Nat.reduceSub, List.nil_append, List.cons_append, List.getElem?_toArray, List.getElem?_cons_zero, List.getElem?_cons_succ, List.setIfInBounds_toArray, List.set_cons_zero, List.set_cons_succ, Option.map_some, List.not_mem_nil, ←decide_not, kb, hlk2, k1, kd, e3, kw1, k2]
    refine check_pad_call (Gives.to hpd fun w3 F3d => ?_)
    have F3 := (Ext.drew [] _).trans F3d
    have W3 := W2.ext0 F3
    have T3 : Stp (k :: Go.Sh.blk v) (k :: Go.Sh.blk v') y w3 := ⟨T.ext.trans ((F2.trans F3).more (by simp)), T.at'⟩
    have X0 : ∀ {v4 : Value} {w4 : World}, Stp (k :: Go.Sh.blk v) (k :: Go.Sh.blk v4) y w4 → Stp (k :: Go.Sh.blk v) (k :: Go.Sh.blk v4) w w4 := fun T4 => ⟨(X.more (by simp)).trans T4.ext, fun z hz => (T4.at' z hz).imp id fun h5 => Nat.le_trans X.size h5⟩
    by_cases hp : (N % 8 ≠ 0 ∧ xw >>> (8 * (N % 8)) ≠ 0#64)
    · rw [decide_eq_true hp]
      rw [if_pos hp] at hpadF
      have cP : ({ data := #[112, 97, 100] } : ByteArray) = strOf sPad := by decide +kernel
      simp (disch := (first | omega | decide | (simp only [World.size_alloc, World.size_setCell, World.size_drew, size_sets, List.mem_cons, List.not_mem_nil, or_false, not_false_eq_true] <;> omega) | fail)) only [↓rsChk3_0, rsChk3_1, Option.isNone_some, Option.isNone_none, tick_eq, tickV_eq, ne_eq, Int.reduceAdd, Int.reduceSub, Int.reduceMul, Int.reduceEq, Int.reduceLT, Int.reduceLE, Int.reduceToNat, Nat.reduceMul, Nat.reduceAdd, Nat.reduceSub, List.nil_append, List.cons_append, List.getElem?_toArray, List.getElem?_cons_zero, List.getElem?_cons_succ, List.setIfInBounds_toArray, List.set_cons_zero, List.set_cons_succ, Option.map_some, List.not_mem_nil, ←decide_not, kb, hlk2, k1, kd, e3, kw1, k2]
      rw [cP]
      refine check_walk_add_call (Yld.mono (add_spec (at' := q) (s := sPad) W3 (by rw [List.length_append]; omega)) ?_)
      rintro u w4 ⟨v4, W4, T4⟩
      refine ⟨v4, by rw [hpadF, ← List.append_assoc]; exact W4, X0 (T3.trans T4)⟩
    · rw [decide_eq_false hp]
      rw [if_neg hp] at hpadF
      simp (disch := (first | omega | decide | (simp only [World.size_alloc, World.size_setCell, World.size_drew, size_sets, List.mem_cons, List.not_mem_nil, or_false, not_false_eq_true] <;> omega) | fail)) only [↓rsChk3_0, rsChk3_1, Option.isNone_some, Option.isNone_none, tick_eq, tickV_eq, ne_eq, Int.reduceAdd, Int.reduceSub, Int.reduceMul, Int.reduceEq, Int.reduceLT, Int.reduceLE, Int.reduceToNat, Nat.reduceMul, Nat.reduceAdd, Nat.reduceSub, List.nil_append, List.cons_append, List.getElem?_toArray, List.getElem?_cons_zero, List.getElem?_cons_succ, List.setIfInBounds_toArray, List.set_cons_zero, List.set_cons_succ, Option.map_some, List.not_mem_nil, ←decide_not, kb, hlk2, k1, kd, e3, kw1, k2]
      refine ⟨v', by rw [hpadF, List.append_nil]; exact W3, X0 T3⟩
abbrev rsChk3_2 := (And.intro @xBox_r (And.intro @loadK_some (And.intro @loadsK_s (And.intro @loadsK_n (And.intro @loadsR_s (And.intro @loadsR_n (And.intro @storesK_s (And.intro @storesK_n (And.intro @xPick_t (And.intro @xPick_f (And.intro @xGuard_tt (And.intro @xGuard_ff (And.intro @xGuard_tf (And.intro @xGuard_ft (And.intro @xGuard_u 
  (And.intro @xNil_r (And.intro @xIf_t (And.intro @xBin_add' (And.intro @xBin_sub' (And.intro @xBin_mul' (And.intro @xBin_quo' (And.intro @xBin_rem' (And.intro @xIf_f (And.intro @xIf_tt (And.intro @xEx0 (And.intro @xEx1 (And.intro @xEx2 (And.intro @xEx3 (And.intro @xBin_eqs (And.intro @xBin_nes (And.intro @xUn_not (And.intro @xu8_add (And.intro @xu8_lss 
  (And.intro @xu16_add (And.intro @xu16_lss (And.intro @xu32_add (And.intro @xu32_lss (And.intro @xu64_add (And.intro @xu64_lss (And.intro @xi64_lss (And.intro @xMakeFunc_r (And.intro @xSq_r (And.intro @xPur_s (And.intro @xRd_s (And.intro @xRe_s (And.intro @xDet_s (And.intro @xDet_ld (And.intro @xDet_ld2 (And.intro @xDet_ld3 (And.intro @xDet_ld4 
  (And.intro @xGuard_tt (And.intro @ld_3 (And.intro @bd_96_0_1_2 (And.intro @ia_66 @ln_66))))))))))))))))))))))))))))))))))))))))))))))))))))))
theorem look_spec (w : World) (L : List (BitVec 64)) (a : Option Addr) (c base : Nat) (hrow : RowAt w a (wrds L)) (hb : base + L.length ≤ 8192) (hc0 : L.length ≤ c) : Yld Try.prog n_check_look #[.slice a L.length c, i64 (base : Int)] w fun u w' => ∃ k r v l bad, u = ptr k ∧ Sc (fun p => wat L (p - base)) (base + L.length) base l bad ∧ WkIs w w' k r v a c L base l (allF (fun p => wat L (p - base)) l bad) := by
  refine check_look_of ?_
  unfold check_look
  have hm := fun (K : K1) (w : World) => xMakeMap_r (P := Try.prog) (w := w) (K := K) (t := 94)
  simp (disch := (first | omega | decide | (simp only [World.size_alloc, World.size_setCell, World.size_drew, size_sets, List.mem_cons, List.not_mem_nil, or_false, not_false_eq_true] <;> omega) | fail)) only [↓rsChk3_2, rsChk3_1, Option.isNone_some, Option.isNone_none, tick_eq, tickV_eq, ne_eq, Int.reduceAdd, Int.reduceSub, Int.reduceMul, Int.reduceEq, Int.reduceLT, Int.reduceLE, Int.reduceToNat, Nat.reduceMul, Nat.reduceAdd, Nat.reduceSub, List.nil_append, List.cons_append, List.getElem?_toArray, List.getElem?_cons_zero, List.getElem?_cons_succ, List.setIfInBounds_toArray, List.set_cons_zero, List.set_cons_succ, Option.map_some, List.not_mem_nil, ←decide_not, hm]
  have X1 : Ext [] w (w.alloc (.map #[] 0)) := Ext.alloc _ _ _
  have M1 := MapIs.new w
  have W : WkIs w ((w.alloc (.map #[] 0)).alloc (.cells #[.slice a L.length c, i64 (base : Int), .map (some w.heap.size), .slice none 0 0] 96)) (w.heap.size + 1) w.heap.size (.slice none 0 0) a c L base [] [] := by
    have X2 : Ext [] (w.alloc (.map #[] 0)) ((w.alloc (.map #[] 0)).alloc (.cells #[.slice a L.length c, i64 (base : Int), .map (some w.heap.size), .slice none 0 0] 96)) := Ext.alloc _ _ _
    refine ⟨?_, M1.ext0 X2, Own.nil, by omega, by simp [Go.Sh.blk, Value.ownBlock], by simp [Go.Sh.blk, Value.ownBlock], ⟨by omega, Nat.le_refl _, by simp [Go.Sh.blk, Value.ownBlock]⟩, (hrow.ext0 X1).ext0 X2, fun b o hz hL => ?_, X1.trans X2⟩
    · have := Blk.at (w := w.alloc (.map #[] 0)) (e := 96) (cs := [.slice a L.length c, i64 (base : Int), .map (some w.heap.size), .slice none 0 0]) rfl
      rw [World.size_alloc] at this
      exact this
    · obtain ⟨b9, o9, h9, z9, _⟩ := hrow.get (by simpa using hL)
      rw [hz] at h9
      simp only [Option.some.injEq, Addr.mk.injEq, and_true] at h9
      omega
  simp only [World.size_alloc]
  generalize (w.alloc (.map #[] 0)).alloc (.cells #[.slice a L.length c, i64 (base : Int), .map (some w.heap.size), .slice none 0 0] 96) = y at *
  generalize w.heap.size + 1 = k at *
  refine check_walk_objects_call (Yld.mono (objects_spec W hb hc0) ?_)
  rintro u w1 ⟨v', a2, c2, l, bad, rfl, R1, D1, hS, W1⟩
  have hcount := hS.count
  obtain ⟨hsort, hall⟩ := hS.all
  have hlb : ∀ p ∈ l, p < base + L.length := fun p hp => by
    have := hall p hp
    have := szW_pos (x := wat L (p - base))
    omega
  simp (disch := (first | omega | decide | (simp only [World.size_alloc, World.size_setCell, World.size_drew, size_sets, List.mem_cons, List.not_mem_nil, or_false, not_false_eq_true] <;> omega) | fail)) only [↓rsChk3_2, rsChk3_1, Option.isNone_some, Option.isNone_none, tick_eq, tickV_eq, ne_eq, Int.reduceAdd, Int.reduceSub, Int.reduceMul, Int.reduceEq, Int.reduceLT, Int.reduceLE, Int.reduceToNat, Nat.reduceMul, Nat.reduceAdd, Nat.reduceSub, List.nil_append, List.cons_append, List.getElem?_toArray, List.getElem?_cons_zero, List.getElem?_cons_succ, List.setIfInBounds_toArray, List.set_cons_zero, List.set_cons_succ, Option.map_some, List.not_mem_nil, ←decide_not, hm]
  refine xLoop_n l.length (fun j => [i64 (j : Int)]) (fun j w' => ∃ v'', WkIs w w' k w.heap.size v'' a c L base l (badF bad ++ (l.take j).flatMap (objF (fun p => wat L (p - base)) l)) ∧ Stp (k :: Go.Sh.blk v') (k :: Go.Sh.blk v'') w1 w') rfl ⟨v', by simpa using W1, Stp.refl _ _⟩ ?_ ?_
  · rintro j hj u w2 hu ⟨v2, W2, T2⟩ nxt hnx
    simp only [List.map_cons, List.map_nil, List.cons.injEq, and_true] at hu
    rw [hu]
    have R2 := R1.ext T2.ext (fun z o hz hm => by
      obtain ⟨d1, d2, d3⟩ := D1 z o hz
      rcases List.mem_cons.1 hm with e | hm
      · exact d2 e
      · exact d3 hm)
    obtain ⟨b1, o1, rfl, z1, k1⟩ := R2.at (i := j) (by simpa using hj)
    simp only [List.getElem_map] at k1
    have hm := List.getElem_mem hj
    obtain ⟨g1, g2, g3⟩ := hall _ hm
    have hfl : (badF bad ++ (l.take j).flatMap (objF (fun p => wat L (p - base)) l)).length ≤ 100000 := by
      have h1 := hS.fnd l j
      have h2 : (badF bad).length ≤ 1 := by cases bad <;> simp [badF]
      rw [List.length_append]
      omega
    have hsucc : badF bad ++ (l.take (j + 1)).flatMap (objF (fun p => wat L (p - base)) l) = (badF bad ++ (l.take j).flatMap (objF (fun p => wat L (p - base)) l)) ++ objF (fun p => wat L (p - base)) l l[j] := by
      rw [List.take_add_one, List.getElem?_eq_getElem hj, List.flatMap_append, List.append_assoc]
      simp
    unfold check_look_l1
    simp (disch := (first | omega | decide | (simp only [World.size_alloc, World.size_setCell, World.size_drew, size_sets, List.mem_cons, List.not_mem_nil, or_false, not_false_eq_true] <;> omega) | fail)) only [↓rsChk3_2, rsChk3_1, Option.isNone_some, Option.isNone_none, tick_eq, tickV_eq, ne_eq, Int.reduceAdd, Int.reduceSub, Int.reduceMul, Int.reduceEq, Int.reduceLT, Int.reduceLE, Int.reduceToNat, Nat.reduceMul, Nat.reduceAdd, Nat.reduceSub, List.nil_append, List.cons_append, List.getElem?_toArray, List.getElem?_cons_zero, List.getElem?_cons_succ, List.setIfInBounds_toArray, List.set_cons_zero, List.set_cons_succ, Option.map_some, List.not_mem_nil, ←decide_not, hm, k1]
    refine check_walk_object_call (Yld.mono (object_spec W2 hlb hb hc0 hm g1 g2 g3 hfl) ?_)
    rintro u w3 ⟨v3, W3, T3⟩
    simp (disch := (first | omega | decide | (simp only [World.size_alloc, World.size_setCell, World.size_drew, size_sets, List.mem_cons, List.not_mem_nil, or_false, not_false_eq_true] <;> omega) | fail)) only [↓rsChk3_2, rsChk3_1, Option.isNone_some, Option.isNone_none, tick_eq, tickV_eq, ne_eq, Int.reduceAdd, Int.reduceSub, Int.reduceMul, Int.reduceEq, Int.reduceLT, Int.reduceLE, Int.reduceToNat, Nat.reduceMul, Nat.reduceAdd, Nat.reduceSub, List.nil_append, List.cons_append, List.getElem?_toArray, List.getElem?_cons_zero, List.getElem?_cons_succ, List.setIfInBounds_toArray, List.set_cons_zero, List.set_cons_succ, Option.map_some, List.not_mem_nil, ←decide_not, hm, k1]
    exact hnx _ ⟨v3, by rw [hsucc]; exact W3, T2.trans T3⟩
  · rintro u w2 hu ⟨v2, W2, T2⟩ nxt
    simp only [List.map_cons, List.map_nil, List.cons.injEq, and_true] at hu
    rw [hu]
    unfold check_look_l1
    simp (disch := (first | omega | decide | (simp only [World.size_alloc, World.size_setCell, World.size_drew, size_sets, List.mem_cons, List.not_mem_nil, or_false, not_false_eq_true] <;> omega) | fail)) only [↓rsChk3_2, rsChk3_1, Option.isNone_some, Option.isNone_none, tick_eq, tickV_eq, ne_eq, Int.reduceAdd, Int.reduceSub, Int.reduceMul, Int.reduceEq, Int.reduceLT, Int.reduceLE, Int.reduceToNat, Nat.reduceMul, Nat.reduceAdd, Nat.reduceSub, List.nil_append, List.cons_append, List.getElem?_toArray, List.getElem?_cons_zero, List.getElem?_cons_succ, List.setIfInBounds_toArray, List.set_cons_zero, List.set_cons_succ, Option.map_some, List.not_mem_nil, ←decide_not, hm]
    exact ⟨k, w.heap.size, v2, l, bad, by trivial, hS, by rw [List.take_length] at W2; exact W2⟩
end
end Go.Proofs.Ytdpmidgeipibbaa
end
section
set_option linter.unusedVariables false
set_option linter.unusedSimpArgs false
set_option maxHeartbeats 4000000
namespace Go.Proofs.Ytdpmidgeipibbaa
open Go.Sh Go.RowKit

theorem ptrF_congr {x y : Nat → BitVec 64} {l : List Nat} {o : Nat} : ∀ k, (∀ i, i < k → x (o + 1 + i) = y (o + 1 + i)) → ptrF x l o k = ptrF y l o k
  | 0, _ => rfl
  | k + 1, h => by
    rw [ptrF, ptrF, ptrF_congr k (fun i hi => h i (by omega)), h k (by omega)]
theorem flat_congr {α β : Type} {f g : α → List β} : ∀ l : List α, (∀ x ∈ l, f x = g x) → l.flatMap f = l.flatMap g
  | [], _ => rfl
  | x :: l, h => by rw [List.flatMap_cons, List.flatMap_cons, h x (by simp), flat_congr l fun y hy => h y (by simp [hy])]
theorem allF_congr {x y : Nat → BitVec 64} {b t : Nat} {l : List Nat} {bad : Option Nat} (h : Sc x t b l bad) (e : ∀ i, b ≤ i → i < t → x i = y i) : allF x l bad = allF y l bad := by
  unfold allF
  congr 1
  refine flat_congr l ?_
  intro o ho
  obtain ⟨h1, h2, h3⟩ := h.all.2 o ho
  have h4 := szW_ge (y := x o)
  have e0 := e o h1 (by omega)
  have e2 := e (o + szW (x o) - 1) (by omega) (by omega)
  have hp : padX x o ↔ padX y o := by unfold padX; rw [← e0, e2]
  have hpF : padF x o = padF y o := by
    unfold padF
    by_cases h6 : padX x o
    · rw [if_pos h6, if_pos (hp.1 h6), e0]
    · rw [if_neg h6, if_neg (fun h7 => h6 (hp.2 h7))]
  unfold objF
  rw [hpF, ptrF_congr (pN (x o)) (fun i hi => e _ (by omega) (by omega)), e0]
/-- findings, as a row -/
def FndR (w w' : World) (u : Value) (F : List Fnd) : Prop := Ext [] w w' ∧ ∃ a2 c2, u = .slice a2 F.length c2 ∧ F.length ≤ c2 ∧ (a2 = none → c2 = 0) ∧ RowAt w' a2 (F.flatMap fC)
abbrev rsChk4_0 := (And.intro @xBox_r (And.intro @loadK_some (And.intro @loadsK_s (And.intro @loadsK_n (And.intro @loadsR_s (And.intro @loadsR_n (And.intro @storesK_s (And.intro @storesK_n (And.intro @xPick_t (And.intro @xPick_f (And.intro @xGuard_tt (And.intro @xGuard_ff (And.intro @xGuard_tf (And.intro @xGuard_ft (And.intro @xGuard_u 
  (And.intro @xNil_r (And.intro @xIf_t (And.intro @xBin_add' (And.intro @xBin_sub' (And.intro @xBin_mul' (And.intro @xBin_quo' (And.intro @xBin_rem' (And.intro @xIf_f (And.intro @xIf_tt (And.intro @xEx0 (And.intro @xEx1 (And.intro @xEx2 (And.intro @xEx3 (And.intro @xBin_eqs (And.intro @xBin_nes (And.intro @xUn_not (And.intro @xMakeFunc_r (And.intro @xSq_r 
  (And.intro @xPur_s (And.intro @xRd_s (And.intro @xRe_s (And.intro @xDet_s (And.intro @xDet_ld (And.intro @xDet_ld2 (And.intro @xDet_ld3 (And.intro @xDet_ld4 (And.intro @xGuard_tt @ln_37))))))))))))))))))))))))))))))))))))))))))
abbrev rsChk4_1 := (And.intro @setCells_c (And.intro @setCells_n (And.intro @World.setCell_alloc_at (And.intro @World.setCell_alloc_past (And.intro @World.cell?_alloc_at (And.intro @World.cell?_alloc_past (And.intro @World.frozen?_alloc_at (And.intro @World.frozen?_alloc_past 
  (And.intro @World.size_alloc (And.intro @dlt_t (And.intro @dlt_f (And.intro @dle_t (And.intro @dle_f (And.intro @deq_t (And.intro @deq_f (And.intro @dne_t (And.intro @dne_f (And.intro @not_true_eq_false (And.intro @Bool.false_and (And.intro @Bool.true_and (And.intro @Bool.and_true (And.intro @Bool.and_false (And.intro @wrap_in (And.intro @Int.toNat_natCast 
  (And.intro @Nat.mul_one (And.intro @cells_int (And.intro @cells_bool (And.intro @cells_string (And.intro @cells_slice (And.intro @cells_pointer (And.intro @cells_agg (And.intro @one_int (And.intro @one_bool (And.intro @one_string (And.intro @one_slice (And.intro @one_pointer (And.intro @beq_tt (And.intro @beq_ff (And.intro @beq_tf 
  (And.intro @beq_ft (And.intro @cell_sets_b (And.intro @frozen_sets (And.intro @size_sets (And.intro @World.size_drew (And.intro @Nat.zero_add (And.intro @Nat.add_zero (And.intro @cell_drew (And.intro @frozen_drew (And.intro @cell_set_eq (And.intro @cell_set_o (And.intro @cell_set_b (And.intro @World.frozen?_setCell 
  (And.intro @decide_true (And.intro @decide_false (And.intro @not_false_eq_true (And.intro @Bool.not_true @Bool.not_false))))))))))))))))))))))))))))))))))))))))))))))))))))))))
theorem ClipF_spec {w : World} {b : Option Addr} {n m : Nat} (hm : n ≤ m) : Gives Try.prog n_slices_Clip_check_Finding_check_Finding #[.slice b n m] w (.slice b n n) := by
  refine slices_Clip_check_Finding_check_Finding_of ?_
  unfold slices_Clip_check_Finding_check_Finding
  have hs := fun (K : K1) (w : World) => xSlice_hms (P := Try.prog) (w := w) (K := K) (t := 37) (z := 2) (k := .i64) (k' := .i64) (a := b) (n := n) (c := m) (h := (n : Int)) (m := (n : Int)) (by kernel_rfl) (by kernel_rfl) (by omega) (by omega) (by omega)
  simp (disch := (first | omega | decide | (simp only [World.size_alloc, World.size_setCell, World.size_drew, size_sets, List.mem_cons, List.not_mem_nil, or_false, not_false_eq_true] <;> omega) | fail)) only [↓rsChk4_0, rsChk4_1, Option.isNone_some, Option.isNone_none, tick_eq, tickV_eq, ne_eq, Int.reduceAdd, Int.reduceSub, Int.reduceMul, Int.reduceEq, Int.reduceLT, Int.reduceLE, Int.reduceToNat, Nat.reduceMul, Nat.reduceAdd, Nat.reduceSub, List.nil_append, List.cons_append, List.getElem?_toArray, List.getElem?_cons_zero, List.getElem?_cons_succ, List.setIfInBounds_toArray, List.set_cons_zero, List.set_cons_succ, Option.map_some, List.not_mem_nil, ←decide_not, hs]
  exact ⟨by simp, Ext.refl _ _⟩
/-- what look leaves, as findings -/
theorem fnd_of {w0 w : World} {k r : Nat} {v : Value} {a : Option Addr} {c : Nat} {L : List (BitVec 64)} {base : Nat} {l : List Nat} {F : List Fnd} (W : WkIs w0 w k r v a c L base l F) : ∃ a2 c2, v = .slice a2 F.length c2 ∧ F.length ≤ c2 ∧ (a2 = none → c2 = 0) ∧ RowAt w a2 (F.flatMap fC) := by
  obtain ⟨a2, c2, hv, h1, h2, h3, h4, _⟩ := W.own.slice
  exact ⟨a2, c2, hv, h1, h3, h4⟩
section
variable {w : World} {base s g : Nat} {a : Option Addr} {c : Nat} {ws : List (BitVec 64)} {b t e : Nat}
end
end Go.Proofs.Ytdpmidgeipibbaa
end
section
set_option linter.unusedVariables false
set_option linter.unusedSimpArgs false
set_option maxHeartbeats 4000000
namespace Go.Proofs.Ytdpmidgeipibbaa
open Go.Sh Go.RowKit

def sMagic : List (BitVec 8) := [109#8, 97#8, 103#8, 105#8, 99#8]
def sSize : List (BitVec 8) := [115#8, 105#8, 122#8, 101#8]
def nR (l : List (BitVec 64)) : Nat := (fieldB (wat l 1) 0 16).toNat
def sizeOk (l : List (BitVec 64)) : Prop := 2 ≤ l.length ∧ fieldB (wat l 1) 48 16 = BitVec.ofNat 64 0 ∧ fieldB (wat l 1) 16 32 = BitVec.ofNat 64 l.length ∧ nR l ≤ 64 ∧ 2 + 5 * nR l ≤ l.length
instance (l : List (BitVec 64)) : Decidable (sizeOk l) := by unfold sizeOk; infer_instance
def magF (l : List (BitVec 64)) : List Fnd := if l.length < 1 ∨ wat l 0 ≠ BitVec.ofNat 64 1296125772 then [(0, sMagic)] else []
theorem nR_lt (l : List (BitVec 64)) : nR l < 65536 := by
  have h : (fieldB (wat l 1) 0 16).toNat = _ := field_nat (wat l 1) (a := 0) (n := 16) (by decide) (by decide)
  unfold nR
  rw [h]
  exact Nat.mod_lt _ (by decide)
theorem row_w {w : World} {a : Option Addr} {l : List (BitVec 64)} (h : RowAt w a (wrds l)) {i : Nat} (hi : i < l.length) : ∃ b o, a = some ⟨b, o, none⟩ ∧ b < w.heap.size ∧ w.cell? ⟨b, o + i, none⟩ = some (u64 (wat l i)) := by
  obtain ⟨b5, o5, h5, z5, k5⟩ := h.at (i := i) (by simpa using hi)
  refine ⟨b5, o5, h5, z5, ?_⟩
  simp only [List.getElem_map] at k5
  rw [k5]
  unfold wat
  rw [List.getD_eq_getElem?_getD, List.getElem?_eq_getElem hi]
  rfl
abbrev rsChk5_0 := (And.intro @xBox_r (And.intro @loadK_some (And.intro @loadsK_s (And.intro @loadsK_n (And.intro @loadsR_s (And.intro @loadsR_n (And.intro @storesK_s (And.intro @storesK_n (And.intro @xPick_t (And.intro @xPick_f (And.intro @xGuard_tt (And.intro @xGuard_ff (And.intro @xGuard_tf (And.intro @xGuard_ft (And.intro @xGuard_u 
  (And.intro @xNil_r (And.intro @xIf_t (And.intro @xBin_add' (And.intro @xBin_sub' (And.intro @xBin_mul' (And.intro @xBin_quo' (And.intro @xBin_rem' (And.intro @xIf_f (And.intro @xIf_tt (And.intro @xEx0 (And.intro @xEx1 (And.intro @xEx2 (And.intro @xEx3 (And.intro @xBin_eqs (And.intro @xBin_nes (And.intro @xUn_not (And.intro @xu8_add (And.intro @xu8_mul 
  (And.intro @xu8_eql (And.intro @xu8_lss (And.intro @xu8_leq (And.intro @xu16_add (And.intro @xu16_mul (And.intro @xu16_eql (And.intro @xu16_lss (And.intro @xu16_leq (And.intro @xu32_add (And.intro @xu32_mul (And.intro @xu32_eql (And.intro @xu32_lss (And.intro @xu32_leq (And.intro @xu64_add (And.intro @xu64_mul (And.intro @xu64_eql (And.intro @xu64_lss 
  (And.intro @xu64_leq (And.intro @xi64_lss (And.intro @xi64_leq (And.intro @xi64_eql (And.intro @xMakeFunc_r (And.intro @xSq_r (And.intro @xPur_s (And.intro @xRd_s (And.intro @xRe_s (And.intro @xDet_s (And.intro @xDet_ld (And.intro @xDet_ld2 (And.intro @xDet_ld3 (And.intro @xDet_ld4 (And.intro @xGuard_tt (And.intro @ld_69 (And.intro @cv_3_69 (And.intro @cv_69_3 
  (And.intro @ia_28 @ln_28)))))))))))))))))))))))))))))))))))))))))))))))))))))))))))))))))))))
abbrev rsChk5_1 := (And.intro @setCells_c (And.intro @setCells_n (And.intro @World.setCell_alloc_at (And.intro @World.setCell_alloc_past (And.intro @World.cell?_alloc_at (And.intro @World.cell?_alloc_past (And.intro @World.frozen?_alloc_at (And.intro @World.frozen?_alloc_past 
  (And.intro @World.size_alloc (And.intro @dlt_t (And.intro @dlt_f (And.intro @dle_t (And.intro @dle_f (And.intro @deq_t (And.intro @deq_f (And.intro @dne_t (And.intro @dne_f (And.intro @not_true_eq_false (And.intro @Bool.false_and (And.intro @Bool.true_and (And.intro @Bool.and_true (And.intro @Bool.and_false (And.intro @wrap_in (And.intro @Int.toNat_natCast 
  (And.intro @Nat.mul_one (And.intro @cells_int (And.intro @cells_bool (And.intro @cells_string (And.intro @cells_slice (And.intro @cells_pointer (And.intro @cells_agg (And.intro @one_int (And.intro @one_bool (And.intro @one_string (And.intro @one_slice (And.intro @one_pointer (And.intro @beq_tt (And.intro @beq_ff (And.intro @beq_tf 
  (And.intro @beq_ft (And.intro @cell_sets_b (And.intro @frozen_sets (And.intro @size_sets (And.intro @World.size_drew (And.intro @Nat.zero_add (And.intro @Nat.add_zero (And.intro @cell_drew (And.intro @frozen_drew (And.intro @cell_set_eq (And.intro @cell_set_o (And.intro @cell_set_b (And.intro @World.frozen?_setCell 
  (And.intro @decide_true (And.intro @decide_false (And.intro @not_false_eq_true (And.intro @Bool.not_true @Bool.not_false))))))))))))))))))))))))))))))))))))))))))))))))))))))))
theorem csize_spec (l : List (BitVec 64)) (a : Option Addr) (c : Nat) (w : World) (h : RowAt w a (wrds l)) (hl : l.length ≤ 100000) : Gives Try.prog n_check_size #[.slice a l.length c] w (.tuple #[i64 ((if l.length < 2 then 0 else nR l : Nat) : Int), .bool (decide (sizeOk l))]) := by
  refine check_size_of ?_
  unfold check_size
  by_cases h2 : l.length < 2
  · rw [if_pos h2, decide_eq_false (fun h => by have := h.1; omega)]
    simp (disch := (first | omega | decide | (simp only [World.size_alloc, World.size_setCell, World.size_drew, size_sets, List.mem_cons, List.not_mem_nil, or_false, not_false_eq_true] <;> omega) | fail)) only [↓rsChk5_0, rsChk5_1, Option.isNone_some, Option.isNone_none, tick_eq, tickV_eq, ne_eq, Int.reduceAdd, Int.reduceSub, Int.reduceMul, Int.reduceEq, Int.reduceLT, Int.reduceLE, Int.reduceToNat, Nat.reduceMul, Nat.reduceAdd, Nat.reduceSub, List.nil_append, List.cons_append, List.getElem?_toArray, List.getElem?_cons_zero, List.getElem?_cons_succ, List.setIfInBounds_toArray, List.set_cons_zero, List.set_cons_succ, Option.map_some, List.not_mem_nil, ←decide_not, eq_self]
    exact ⟨by trivial, Ext.refl _ _⟩
  rw [if_neg h2]
  obtain ⟨b1, o1, rfl, z1, k1⟩ := row_w h (i := 1) (by omega)
  have hnl := nR_lt l
  have hni : (fieldB (wat l 1) 0 16).toInt = (nR l : Int) := by
    unfold nR at *
    rw [BitVec.toInt_eq_toNat_of_lt (by omega)]
  simp (disch := (first | omega | decide | (simp only [World.size_alloc, World.size_setCell, World.size_drew, size_sets, List.mem_cons, List.not_mem_nil, or_false, not_false_eq_true] <;> omega) | fail)) only [↓rsChk5_0, rsChk5_1, Option.isNone_some, Option.isNone_none, tick_eq, tickV_eq, ne_eq, Int.reduceAdd, Int.reduceSub, Int.reduceMul, Int.reduceEq, Int.reduceLT, Int.reduceLE, Int.reduceToNat, Nat.reduceMul, Nat.reduceAdd, Nat.reduceSub, List.nil_append, List.cons_append, List.getElem?_toArray, List.getElem?_cons_zero, List.getElem?_cons_succ, List.setIfInBounds_toArray, List.set_cons_zero, List.set_cons_succ, Option.map_some, List.not_mem_nil, ←decide_not, k1]
  refine bits_Field_call (Gives.to (Field_spec _ _ _ _) fun w2 F2 => ?_)
  have k2 : w2.cell? ⟨b1, o1 + 1, none⟩ = some (u64 (wat l 1)) := F2.cell0 k1
  simp (disch := (first | omega | decide | (simp only [World.size_alloc, World.size_setCell, World.size_drew, size_sets, List.mem_cons, List.not_mem_nil, or_false, not_false_eq_true] <;> omega) | fail)) only [↓rsChk5_0, rsChk5_1, Option.isNone_some, Option.isNone_none, tick_eq, tickV_eq, ne_eq, Int.reduceAdd, Int.reduceSub, Int.reduceMul, Int.reduceEq, Int.reduceLT, Int.reduceLE, Int.reduceToNat, Nat.reduceMul, Nat.reduceAdd, Nat.reduceSub, List.nil_append, List.cons_append, List.getElem?_toArray, List.getElem?_cons_zero, List.getElem?_cons_succ, List.setIfInBounds_toArray, List.set_cons_zero, List.set_cons_succ, Option.map_some, List.not_mem_nil, ←decide_not, k1, k2, hni]
  refine bits_Field_call (Gives.to (Field_spec _ _ _ _) fun w3 F3 => ?_)
  have k3 : w3.cell? ⟨b1, o1 + 1, none⟩ = some (u64 (wat l 1)) := F3.cell0 k2
  have hcl : BitVec.ofInt 64 (l.length : Int) = BitVec.ofNat 64 l.length := by rw [BitVec.ofInt_natCast]
  by_cases g1 : fieldB (wat l 1) 48 16 = BitVec.ofNat 64 0
  rotate_left
  · have hs : ¬ sizeOk l := fun h => g1 h.2.1
    rw [decide_eq_false hs]
    simp (disch := (first | omega | decide | (simp only [World.size_alloc, World.size_setCell, World.size_drew, size_sets, List.mem_cons, List.not_mem_nil, or_false, not_false_eq_true] <;> omega) | fail)) only [↓rsChk5_0, rsChk5_1, Option.isNone_some, Option.isNone_none, tick_eq, tickV_eq, ne_eq, Int.reduceAdd, Int.reduceSub, Int.reduceMul, Int.reduceEq, Int.reduceLT, Int.reduceLE, Int.reduceToNat, Nat.reduceMul, Nat.reduceAdd, Nat.reduceSub, List.nil_append, List.cons_append, List.getElem?_toArray, List.getElem?_cons_zero, List.getElem?_cons_succ, List.setIfInBounds_toArray, List.set_cons_zero, List.set_cons_succ, Option.map_some, List.not_mem_nil, ←decide_not, k1, k2, hni, k3, decide_eq_false g1]
    exact ⟨by trivial, F2.trans F3⟩
  simp (disch := (first | omega | decide | (simp only [World.size_alloc, World.size_setCell, World.size_drew, size_sets, List.mem_cons, List.not_mem_nil, or_false, not_false_eq_true] <;> omega) | fail)) only [↓rsChk5_0, rsChk5_1, Option.isNone_some, Option.isNone_none, tick_eq, tickV_eq, ne_eq, Int.reduceAdd, Int.reduceSub, Int.reduceMul, Int.reduceEq, Int.reduceLT, Int.reduceLE, Int.reduceToNat, Nat.reduceMul, Nat.reduceAdd, Nat.reduceSub, List.nil_append, List.cons_append, List.getElem?_toArray, List.getElem?_cons_zero, List.getElem?_cons_succ, List.setIfInBounds_toArray, List.set_cons_zero, List.set_cons_succ, Option.map_some, List.not_mem_nil, ←decide_not, k1, k2, hni, k3, decide_eq_true g1]
  refine bits_Field_call (Gives.to (Field_spec _ _ _ _) fun w4 F4 => ?_)
  have X4 := F2.trans (F3.trans F4)
  by_cases g2 : fieldB (wat l 1) 16 32 = BitVec.ofNat 64 l.length
  rotate_left
  · have hs : ¬ sizeOk l := fun h => g2 h.2.2.1
    rw [decide_eq_false hs]
    simp (disch := (first | omega | decide | (simp only [World.size_alloc, World.size_setCell, World.size_drew, size_sets, List.mem_cons, List.not_mem_nil, or_false, not_false_eq_true] <;> omega) | fail)) only [↓rsChk5_0, rsChk5_1, Option.isNone_some, Option.isNone_none, tick_eq, tickV_eq, ne_eq, Int.reduceAdd, Int.reduceSub, Int.reduceMul, Int.reduceEq, Int.reduceLT, Int.reduceLE, Int.reduceToNat, Nat.reduceMul, Nat.reduceAdd, Nat.reduceSub, List.nil_append, List.cons_append, List.getElem?_toArray, List.getElem?_cons_zero, List.getElem?_cons_succ, List.setIfInBounds_toArray, List.set_cons_zero, List.set_cons_succ, Option.map_some, List.not_mem_nil, ←decide_not, k1, k2, hni, k3, decide_eq_true g1, hcl, decide_eq_false g2]
    exact ⟨by trivial, X4⟩
  by_cases g3 : nR l ≤ 64
  rotate_left
  · have hs : ¬ sizeOk l := fun h => g3 h.2.2.2.1
    rw [decide_eq_false hs]
    simp (disch := (first | omega | decide | (simp only [World.size_alloc, World.size_setCell, World.size_drew, size_sets, List.mem_cons, List.not_mem_nil, or_false, not_false_eq_true] <;> omega) | fail)) only [↓rsChk5_0, rsChk5_1, Option.isNone_some, Option.isNone_none, tick_eq, tickV_eq, ne_eq, Int.reduceAdd, Int.reduceSub, Int.reduceMul, Int.reduceEq, Int.reduceLT, Int.reduceLE, Int.reduceToNat, Nat.reduceMul, Nat.reduceAdd, Nat.reduceSub, List.nil_append, List.cons_append, List.getElem?_toArray, List.getElem?_cons_zero, List.getElem?_cons_succ, List.setIfInBounds_toArray, List.set_cons_zero, List.set_cons_succ, Option.map_some, List.not_mem_nil, ←decide_not, k1, k2, hni, k3, decide_eq_true g1, hcl, decide_eq_true g2]
    exact ⟨by trivial, X4⟩
  by_cases g4 : 2 + 5 * nR l ≤ l.length
  · have hs : sizeOk l := ⟨by omega, g1, g2, g3, g4⟩
    rw [decide_eq_true hs]
    simp (disch := (first | omega | decide | (simp only [World.size_alloc, World.size_setCell, World.size_drew, size_sets, List.mem_cons, List.not_mem_nil, or_false, not_false_eq_true] <;> omega) | fail)) only [↓rsChk5_0, rsChk5_1, Option.isNone_some, Option.isNone_none, tick_eq, tickV_eq, ne_eq, Int.reduceAdd, Int.reduceSub, Int.reduceMul, Int.reduceEq, Int.reduceLT, Int.reduceLE, Int.reduceToNat, Nat.reduceMul, Nat.reduceAdd, Nat.reduceSub, List.nil_append, List.cons_append, List.getElem?_toArray, List.getElem?_cons_zero, List.getElem?_cons_succ, List.setIfInBounds_toArray, List.set_cons_zero, List.set_cons_succ, Option.map_some, List.not_mem_nil, ←decide_not, k1, k2, hni, k3, decide_eq_true g1, hcl, decide_eq_true g2]
    exact ⟨by trivial, X4⟩
  · have hs : ¬ sizeOk l := fun h => g4 h.2.2.2.2
    rw [decide_eq_false hs]
    simp (disch := (first | omega | decide | (simp only [World.size_alloc, World.size_setCell, World.size_drew, size_sets, List.mem_cons, List.not_mem_nil, or_false, not_false_eq_true] <;> omega) | fail)) only [↓rsChk5_0, rsChk5_1, Option.isNone_some, Option.isNone_none, tick_eq, tickV_eq, ne_eq, Int.reduceAdd, Int.reduceSub, Int.reduceMul, Int.reduceEq, Int.reduceLT, Int.reduceLE, Int.reduceToNat, Nat.reduceMul, Nat.reduceAdd, Nat.reduceSub, List.nil_append, List.cons_append, List.getElem?_toArray, List.getElem?_cons_zero, List.getElem?_cons_succ, List.setIfInBounds_toArray, List.set_cons_zero, List.set_cons_succ, Option.map_some, List.not_mem_nil, ←decide_not, k1, k2, hni, k3, decide_eq_true g1, hcl, decide_eq_true g2]
    exact ⟨by trivial, X4⟩
theorem appFs {w : World} {K : K1} {v : Value} {F G : List Fnd} {a : Option Addr} {c : Nat} (hO : OwnF w v F) (hr : RowAt w a (G.flatMap fC)) (hn : a = none → c = 0) (hc : G.length ≤ c) (hl : F.length + G.length ≤ 1000000)
    (hK : ∀ v' w', OwnF w' v' (F ++ G) → Stp (blk v) (blk v') w w' → K v' w') : xBuiltin Try.prog .append #[37, 37] 37 [false, false] [v, .slice a G.length c] w K := by
  refine xApp (e := 40) (s := 2) (n := F.length) (m := G.length) (xs := F.flatMap fC) (news := G.flatMap fC) (bytes := 24) (z := .agg #[.int .i64 0, .string ⟨#[]⟩]) (by kernel_rfl) (by kernel_rfl) (by rfl) (by decide) hO (fC_len G) hr hn hc (fun u hu => ?_) (by omega) (by omega) fun v' w' h1 h2 => hK v' w' ?_ h2
  · obtain ⟨f, _, hf⟩ := List.mem_flatMap.1 hu
    simp only [fC, List.mem_cons, List.not_mem_nil, or_false] at hf
    rcases hf with rfl | rfl <;> rfl
  · show Own w' 40 2 v' (F ++ G).length ((F ++ G).flatMap fC)
    rw [List.length_append, List.flatMap_append]
    exact h1
theorem wat_drop (l : List (BitVec 64)) (n i : Nat) : wat (l.drop n) i = wat l (n + i) := by
  unfold wat
  simp only [List.getD_eq_getElem?_getD, List.getElem?_drop]
abbrev rsChk5_2 := (And.intro @xBox_r (And.intro @loadK_some (And.intro @loadsK_s (And.intro @loadsK_n (And.intro @loadsR_s (And.intro @loadsR_n (And.intro @storesK_s (And.intro @storesK_n (And.intro @xPick_t (And.intro @xPick_f (And.intro @xGuard_tt (And.intro @xGuard_ff (And.intro @xGuard_tf (And.intro @xGuard_ft (And.intro @xGuard_u 
  (And.intro @xNil_r (And.intro @xIf_t (And.intro @xBin_add' (And.intro @xBin_sub' (And.intro @xBin_mul' (And.intro @xBin_quo' (And.intro @xBin_rem' (And.intro @xIf_f (And.intro @xIf_tt (And.intro @xEx0 (And.intro @xEx1 (And.intro @xEx2 (And.intro @xEx3 (And.intro @xBin_eqs (And.intro @xBin_nes (And.intro @xUn_not (And.intro @xu8_add (And.intro @xu8_mul 
  (And.intro @xu8_com (And.intro @xu8_neq (And.intro @xu8_lss (And.intro @xu8_leq (And.intro @xu16_add (And.intro @xu16_mul (And.intro @xu16_com (And.intro @xu16_neq (And.intro @xu16_lss (And.intro @xu16_leq (And.intro @xu32_add (And.intro @xu32_mul (And.intro @xu32_com (And.intro @xu32_neq (And.intro @xu32_lss (And.intro @xu32_leq (And.intro @xu64_add 
  (And.intro @xu64_mul (And.intro @xu64_com (And.intro @xu64_neq (And.intro @xu64_lss (And.intro @xu64_leq (And.intro @xi64_lss (And.intro @xi64_leq (And.intro @xi64_neq (And.intro @xi64_neg (And.intro @xMakeFunc_r (And.intro @xSq_r (And.intro @xPur_s (And.intro @xRd_s (And.intro @xRe_s (And.intro @xDet_s (And.intro @xDet_ld (And.intro @xDet_ld2 
  (And.intro @xDet_ld3 (And.intro @xDet_ld4 (And.intro @xGuard_tt (And.intro @ld_37 (And.intro @ld_69 (And.intro @fa_96_3 (And.intro @bd_40_0_1 (And.intro @ia_28 (And.intro @ln_28 (And.intro @bs_37_1 (And.intro @sh_28 (And.intro @sl_28 (And.intro @sm_28 @sb_28))))))))))))))))))))))))))))))))))))))))))))))))))))))))))))))))))))))))))))))))
theorem Image_n0 (l : List (BitVec 64)) (a : Option Addr) (c : Nat) (w : World) (h : RowAt w a (wrds l)) (hc : l.length ≤ c) (hl : l.length ≤ 8192) (hn : sizeOk l → nR l = 0) :
    Yld Try.prog n_check_Image #[.slice a l.length c] w fun u w' => ∃ os bad, (sizeOk l → Sc (wat l) l.length 2 os bad) ∧ FndR w w' u (magF l ++ if sizeOk l then allF (wat l) os bad else [(1, sSize)]) := by
  refine check_Image_of ?_
  unfold check_Image
  have j8 : ∀ (v : Value) (w1 : World), Ext [] w w1 → OwnF w1 v (magF l) → (∀ y ∈ blk v, w.heap.size ≤ y) → check_Image_j8 (fun u w' => ∃ os bad, (sizeOk l → Sc (wat l) l.length 2 os bad) ∧ FndR w w' u (magF l ++ if sizeOk l then allF (wat l) os bad else [(1, sSize)])) (.slice a l.length c) v w1 := by
    intro v w1 F1 O1 hv
    have R1 := h.ext0 F1
    have lm : (magF l).length ≤ 1 := by unfold magF; split <;> simp
    unfold check_Image_j8
    refine check_size_call (Gives.to (csize_spec l a c w1 R1 (by omega)) fun w2 F2 => ?_)
    have O2 := O1.ext0 F2
    have R2 := R1.ext0 F2
    obtain ⟨a0, c0, rfl, hc0, _, hn0, hr0, _⟩ := O1.slice
    by_cases hs : sizeOk l
    · have h2 : ¬ l.length < 2 := by have := hs.1; omega
      rw [decide_eq_true hs, if_neg h2, hn hs]
      have hlk := fun (w : World) (R : RowAt w a (wrds l)) => look_spec w (l.drop 2) (if c = 2 then a else a.map (·.add 2)) (c - 2) 2 (by
        have := R.drop 2 c (by simpa using hc)
        rw [← List.map_drop] at this
        exact this) (by rw [List.length_drop]; omega) (by rw [List.length_drop]; omega)
      rw [List.length_drop] at hlk
      simp (disch := (first | omega | decide | (simp only [World.size_alloc, World.size_setCell, World.size_drew, size_sets, List.mem_cons, List.not_mem_nil, or_false, not_false_eq_true] <;> omega) | fail)) only [↓rsChk5_2, rsChk5_1, Option.isNone_some, Option.isNone_none, tick_eq, tickV_eq, ne_eq, Int.reduceAdd, Int.reduceSub, Int.reduceMul, Int.reduceEq, Int.reduceLT, Int.reduceLE, Int.reduceToNat, Nat.reduceMul, Nat.reduceAdd, Nat.reduceSub, List.nil_append, List.cons_append, List.getElem?_toArray, List.getElem?_cons_zero, List.getElem?_cons_succ, List.setIfInBounds_toArray, List.set_cons_zero, List.set_cons_succ, Option.map_some, List.not_mem_nil, ←decide_not, eq_self]
      refine check_look_call (Yld.mono (hlk w2 R2) ?_)
      rintro u w3 ⟨k, r, v, os, bad, rfl, hS, W⟩
      have hS2 : Sc (wat l) l.length 2 os bad := by
        have e1 : 2 + (l.length - 2) = l.length := by omega
        rw [e1] at hS
        exact hS.congr fun i h3 h4 => by rw [wat_drop]; congr 1; omega
      have hall : allF (fun p => wat (l.drop 2) (p - 2)) os bad = allF (wat l) os bad := by
        have e1 : 2 + (l.length - 2) = l.length := by omega
        rw [e1] at hS
        exact allF_congr hS fun i h3 h4 => by rw [wat_drop]; congr 1; omega
      rw [hall] at W
      have lf : (allF (wat l) os bad).length ≤ 100000 := by
        have h1 := hS2.fnd os os.length
        rw [List.take_length] at h1
        have h2 : (badF bad).length ≤ 1 := by cases bad <;> simp [badF]
        unfold allF
        rw [List.length_append]
        omega
      have O3 := O2.ext0 W.ext
      obtain ⟨a3, c3, hv3, hc3, hn3, hr3⟩ := fnd_of W
      have k3 := fun i => W.blk.cell (i := i)
      subst hv3
      simp (disch := (first | omega | decide | (simp only [World.size_alloc, World.size_setCell, World.size_drew, size_sets, List.mem_cons, List.not_mem_nil, or_false, not_false_eq_true] <;> omega) | fail)) only [↓rsChk5_2, rsChk5_1, Option.isNone_some, Option.isNone_none, tick_eq, tickV_eq, ne_eq, Int.reduceAdd, Int.reduceSub, Int.reduceMul, Int.reduceEq, Int.reduceLT, Int.reduceLE, Int.reduceToNat, Nat.reduceMul, Nat.reduceAdd, Nat.reduceSub, List.nil_append, List.cons_append, List.getElem?_toArray, List.getElem?_cons_zero, List.getElem?_cons_succ, List.setIfInBounds_toArray, List.set_cons_zero, List.set_cons_succ, Option.map_some, List.not_mem_nil, ←decide_not, eq_self]
      refine xLoop_n 0 (fun _ => [.string { data := #[] }, i64 2]) (fun _ w' => Ext [] w3 w') rfl (Ext.refl _ _) (fun j hj => by omega) ?_
      intro u w4 hu F4 nxt
      simp only [List.map_cons, List.map_nil, List.cons.injEq, and_true] at hu
      rw [hu.1, hu.2]
      have k4 := fun i => (W.blk.ext F4 (by simp)).cell (i := i)
      unfold check_Image_l2
      simp (disch := (first | omega | decide | (simp only [World.size_alloc, World.size_setCell, World.size_drew, size_sets, List.mem_cons, List.not_mem_nil, or_false, not_false_eq_true] <;> omega) | fail)) only [↓rsChk5_2, rsChk5_1, Option.isNone_some, Option.isNone_none, tick_eq, tickV_eq, ne_eq, Int.reduceAdd, Int.reduceSub, Int.reduceMul, Int.reduceEq, Int.reduceLT, Int.reduceLE, Int.reduceToNat, Nat.reduceMul, Nat.reduceAdd, Nat.reduceSub, List.nil_append, List.cons_append, List.getElem?_toArray, List.getElem?_cons_zero, List.getElem?_cons_succ, List.setIfInBounds_toArray, List.set_cons_zero, List.set_cons_succ, Option.map_some, List.not_mem_nil, ←decide_not, k4]
      refine appFs (O3.ext0 F4) (hr3.ext0 F4) hn3 hc3 (by omega) fun v' w5 O5 F5 => ?_
      have X5 : Ext [] w w5 := (((F1.trans F2).trans W.ext).trans F4).new F5.ext (fun y hy => hv y hy)
      obtain ⟨a6, c6, rfl, hc6, _, hn6, hr6, _⟩ := O5.slice
      refine slices_Clip_check_Finding_check_Finding_call (Gives.to (ClipF_spec hc6) fun w6 F6 => ?_)
      exact ⟨os, bad, fun _ => hS2, X5.trans F6, a6, _, by rw [if_pos hs], by rw [if_pos hs]; exact Nat.le_refl _, fun h => by have := hn6 h; omega, by rw [if_pos hs]; exact hr6.ext0 F6⟩
    · rw [decide_eq_false hs]
      have cS : ({ data := #[115, 105, 122, 101] } : ByteArray) = strOf sSize := by decide +kernel
      simp (disch := (first | omega | decide | (simp only [World.size_alloc, World.size_setCell, World.size_drew, size_sets, List.mem_cons, List.not_mem_nil, or_false, not_false_eq_true] <;> omega) | fail)) only [↓rsChk5_2, rsChk5_1, Option.isNone_some, Option.isNone_none, tick_eq, tickV_eq, ne_eq, Int.reduceAdd, Int.reduceSub, Int.reduceMul, Int.reduceEq, Int.reduceLT, Int.reduceLE, Int.reduceToNat, Nat.reduceMul, Nat.reduceAdd, Nat.reduceSub, List.nil_append, List.cons_append, List.getElem?_toArray, List.getElem?_cons_zero, List.getElem?_cons_succ, List.setIfInBounds_toArray, List.set_cons_zero, List.set_cons_succ, Option.map_some, List.not_mem_nil, ←decide_not, eq_self]
      rw [cS]
      refine appFl O2 (f := (1, sSize)) rfl (by omega) fun v' w3 O3 F3 => ?_
      have X3 : Ext [] w w3 := (F1.trans F2).new F3.ext (fun y hy => hv y hy)
      obtain ⟨a6, c6, rfl, hc6, _, hn6, hr6, _⟩ := O3.slice
      refine slices_Clip_check_Finding_check_Finding_call (Gives.to (ClipF_spec hc6) fun w6 F6 => ?_)
      exact ⟨[], none, fun h => absurd h hs, X3.trans F6, a6, _, by rw [if_neg hs], by rw [if_neg hs]; exact Nat.le_refl _, fun h => by have := hn6 h; omega, by rw [if_neg hs]; exact hr6.ext0 F6⟩
  have cM : ({ data := #[109, 97, 103, 105, 99] } : ByteArray) = strOf sMagic := by decide +kernel
  by_cases hm : l.length < 1
  · have hmg : magF l = [(0, sMagic)] := by unfold magF; rw [if_pos (.inl hm)]
    simp (disch := (first | omega | decide | (simp only [World.size_alloc, World.size_setCell, World.size_drew, size_sets, List.mem_cons, List.not_mem_nil, or_false, not_false_eq_true] <;> omega) | fail)) only [↓rsChk5_2, rsChk5_1, Option.isNone_some, Option.isNone_none, tick_eq, tickV_eq, ne_eq, Int.reduceAdd, Int.reduceSub, Int.reduceMul, Int.reduceEq, Int.reduceLT, Int.reduceLE, Int.reduceToNat, Nat.reduceMul, Nat.reduceAdd, Nat.reduceSub, List.nil_append, List.cons_append, List.getElem?_toArray, List.getElem?_cons_zero, List.getElem?_cons_succ, List.setIfInBounds_toArray, List.set_cons_zero, List.set_cons_succ, Option.map_some, List.not_mem_nil, ←decide_not, eq_self]
    rw [cM]
    refine appFl (F := []) Own.nil (f := (0, sMagic)) rfl (by simp) fun v' w3 O3 F3 => ?_
    exact j8 v' w3 (F3.ext.more (by simp [blk, Value.ownBlock])) (by rw [hmg]; exact O3) (fun y hy => by
      rcases F3.at' y hy with h1 | h1
      · simp [blk, Value.ownBlock] at h1
      · exact h1)
  obtain ⟨b1, o1, rfl, z1, k1⟩ := row_w h (i := 0) (by omega)
  have k1' : w.cell? ⟨b1, o1, none⟩ = some (u64 (wat l 0)) := k1
  by_cases hm2 : wat l 0 = BitVec.ofNat 64 1296125772
  · have hmg : magF l = [] := by unfold magF; rw [if_neg]; rintro (h1 | h1); exact hm h1; exact h1 hm2
    simp (disch := (first | omega | decide | (simp only [World.size_alloc, World.size_setCell, World.size_drew, size_sets, List.mem_cons, List.not_mem_nil, or_false, not_false_eq_true] <;> omega) | fail)) only [↓rsChk5_2, rsChk5_1, Option.isNone_some, Option.isNone_none, tick_eq, tickV_eq, ne_eq, Int.reduceAdd, Int.reduceSub, Int.reduceMul, Int.reduceEq, Int.reduceLT, Int.reduceLE, Int.reduceToNat, Nat.reduceMul, Nat.reduceAdd, Nat.reduceSub, List.nil_append, List.cons_append, List.getElem?_toArray, List.getElem?_cons_zero, List.getElem?_cons_succ, List.setIfInBounds_toArray, List.set_cons_zero, List.set_cons_succ, Option.map_some, List.not_mem_nil, ←decide_not, k1', hm2]
    exact j8 _ w (Ext.refl _ _) (by rw [hmg]; exact Own.nil) (by simp [blk, Value.ownBlock])
  · have hmg : magF l = [(0, sMagic)] := by unfold magF; rw [if_pos (.inr hm2)]
    simp (disch := (first | omega | decide | (simp only [World.size_alloc, World.size_setCell, World.size_drew, size_sets, List.mem_cons, List.not_mem_nil, or_false, not_false_eq_true] <;> omega) | fail)) only [↓rsChk5_2, rsChk5_1, Option.isNone_some, Option.isNone_none, tick_eq, tickV_eq, ne_eq, Int.reduceAdd, Int.reduceSub, Int.reduceMul, Int.reduceEq, Int.reduceLT, Int.reduceLE, Int.reduceToNat, Nat.reduceMul, Nat.reduceAdd, Nat.reduceSub, List.nil_append, List.cons_append, List.getElem?_toArray, List.getElem?_cons_zero, List.getElem?_cons_succ, List.setIfInBounds_toArray, List.set_cons_zero, List.set_cons_succ, Option.map_some, List.not_mem_nil, ←decide_not, k1', decide_eq_true hm2]
    rw [cM]
    refine appFl (F := []) Own.nil (f := (0, sMagic)) rfl (by simp) fun v' w3 O3 F3 => ?_
    exact j8 v' w3 (F3.ext.more (by simp [blk, Value.ownBlock])) (by rw [hmg]; exact O3) (fun y hy => by
      rcases F3.at' y hy with h1 | h1
      · simp [blk, Value.ownBlock] at h1
      · exact h1)
theorem fnd_at {w : World} {a : Option Addr} {F : List Fnd} (h : RowAt w a (F.flatMap fC)) {k : Nat} (hk : k < F.length) : ∃ b o, a = some ⟨b, o, none⟩ ∧ b < w.heap.size ∧ w.cell? ⟨b, o + k * 2, none⟩ = some (i64 (F[k].1 : Int)) ∧ w.cell? ⟨b, o + k * 2 + 1, none⟩ = some (.string (strOf F[k].2)) := by
  have hc : ∀ (l : List Fnd) (k : Nat) (h : k < l.length) (j : Nat), j < 2 → (l.flatMap fC)[k * 2 + j]? = (fC l[k])[j]? := by
    intro l
    induction l with
    | nil => intro k h; simp at h
    | cons x l ih =>
      intro k h j hj
      rw [List.flatMap_cons]
      cases k with
      | zero => rw [List.getElem?_append_left (by simp [fC]; omega)]; simp
      | succ k =>
        rw [List.getElem?_append_right (by simp [fC]; omega), show (k + 1) * 2 + j - (fC x).length = k * 2 + j by simp [fC]; omega]
        simpa using ih k (by simpa using h) j hj
  obtain ⟨b, o, rfl, hb, hcc⟩ := h.get (by intro e; have := congrArg List.length e; rw [fC_len] at this; simp only [List.length_nil] at this; omega)
  refine ⟨b, o, rfl, hb, ?_, ?_⟩
  · have := hcc (k * 2 + 0) _ ((hc F k hk 0 (by omega)).trans rfl); simpa using this
  · have := hcc (k * 2 + 1) _ ((hc F k hk 1 (by omega)).trans rfl); rw [Nat.add_assoc]; exact this
end Go.Proofs.Ytdpmidgeipibbaa
end
section
set_option linter.unusedVariables false
set_option linter.unusedSimpArgs false
set_option maxHeartbeats 4000000
namespace Go.Proofs.Ytdpmidgeipibbaa
open Go.Sh Go.RowKit

abbrev rfC (r : Option Addr) (n c b t e : Nat) : List Value := [.slice r n c, i64 (b : Int), i64 (t : Int), i64 (e : Int)]
structure RfIs (w : World) (m : Nat) (r : Option Addr) (c : Nat) (ws : List (BitVec 64)) (b t e : Nat) : Prop where
  blk : Blk w m 46 (rfC r ws.length c b t e)
  row : RowAt w r (wrds ws)
  cap : ws.length ≤ c
  nil : r = none → c = 0
  mr : ws ≠ [] → m ∉ blkOf r
  len : ws.length ≤ 8192
  bt : b ≤ t
  te : t ≤ e
  el : e ≤ ws.length
theorem row_not {w : World} {r : Option Addr} {cs : List Value} {M : List Nat} (h : ∀ x ∈ blkOf r, x ∉ M) : ∀ b o, r = some ⟨b, o, none⟩ → b ∉ M := fun b o e => h b (by subst e; simp [blkOf])
section
variable {w : World} {m : Nat} {r : Option Addr} {c : Nat} {ws : List (BitVec 64)} {b t e : Nat}
theorem RfIs.ext {w' : World} {M : List Nat} (h : RfIs w m r c ws b t e) (hx : Ext M w w') (hm : m ∉ M) (hr : ws ≠ [] → ∀ x ∈ blkOf r, x ∉ M) : RfIs w' m r c ws b t e := by
  refine ⟨h.blk.ext hx hm, ?_, h.cap, h.nil, h.mr, h.len, h.bt, h.te, h.el⟩
  by_cases hw : ws = []
  · subst hw; exact RowAt.nil
  · exact h.row.ext hx (row_not (cs := []) (w := w) (hr hw))
theorem RfIs.ext0 {w' : World} (h : RfIs w m r c ws b t e) (hx : Ext [] w w') : RfIs w' m r c ws b t e := h.ext hx (by simp) (by simp)
end
end Go.Proofs.Ytdpmidgeipibbaa
end
section
set_option linter.unusedVariables false
set_option linter.unusedSimpArgs false
set_option maxHeartbeats 4000000
namespace Go.Proofs.Ytdpmidgeipibbaa
open Go.Sh Go.RowKit

section
variable {w : World} {base g : Nat} {a : Option Addr} {c : Nat} {ws : List (BitVec 64)}
end
end Go.Proofs.Ytdpmidgeipibbaa
end
section
set_option linter.unusedVariables false
set_option linter.unusedSimpArgs false
set_option maxHeartbeats 4000000
namespace Go.Proofs.Ytdpmidgeipibbaa
open Go.Sh Go.RowKit

theorem RowAt.apart {w0 w w' : World} {a : Option Addr} {cs : List Value} {M : List Nat} (h : RowAt w0 a cs) (h0 : Ext [] w0 w) (hx : Ext M w w') (hm : ∀ g ∈ M, w0.heap.size ≤ g) : RowAt w' a cs := by
  by_cases hc : cs = []
  · rw [hc]; exact RowAt.nil
  · obtain ⟨b, o, rfl, hb, _⟩ := h.get hc
    refine (h.ext0 h0).ext hx fun b' o' e hmem => ?_
    cases e
    have := hm b hmem
    omega
section
variable {w : World} {base g : Nat} {a : Option Addr} {c : Nat} {ws : List (BitVec 64)}
end
end Go.Proofs.Ytdpmidgeipibbaa
end
section
set_option linter.unusedVariables false
set_option linter.unusedSimpArgs false
set_option maxHeartbeats 4000000
namespace Go.Proofs.Ytdpmidgeipibbaa
open Go.Sh Go.RowKit Go.ChangeShapes Go.WideShapes Go.ChangeAt

end Go.Proofs.Ytdpmidgeipibbaa
end
section
set_option linter.unusedVariables false
set_option linter.unusedSimpArgs false
set_option maxHeartbeats 4000000
namespace Go.Proofs.Ytdpmidgeipibbaa
open Go.Sh Go.RowKit

section
variable {w : World} {m : Nat} {r : Option Addr} {c : Nat} {ws : List (BitVec 64)} {b t e : Nat}
end
end Go.Proofs.Ytdpmidgeipibbaa
end
section
set_option linter.unusedVariables false
set_option linter.unusedSimpArgs false
set_option maxHeartbeats 4000000
namespace Go.Proofs.Ytdpmidgeipibbaa
open Go.Sh Go.RowKit

end Go.Proofs.Ytdpmidgeipibbaa
end
section
set_option linter.unusedVariables false
set_option linter.unusedSimpArgs false
set_option maxHeartbeats 4000000
namespace Go.Proofs.Ytdpmidgeipibbaa
open Go.Sh Go.RowKit

end Go.Proofs.Ytdpmidgeipibbaa
end
section
set_option linter.unusedVariables false
set_option linter.unusedSimpArgs false
set_option maxHeartbeats 4000000
namespace Go.Proofs.Ytdpmidgeipibbaa
open Go.Sh Go.RowKit Go.ChangeShapes Go.WideShapes Go.ChangeAt

end Go.Proofs.Ytdpmidgeipibbaa
end
