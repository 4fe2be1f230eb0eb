/- Rows of bytes of one's own (sq). Fields of words, in plain Lean: what is taken and put, as numbers. Headers of objects, in plain Lean: which may be, their words, and back. Signs, fields, turns, in plain Lean. Numbers in bytes, in plain Lean. What the functions on bits compute. What the functions on headers compute. What a word is as a header, walked. The small example of the statements on bits; and the statements on numbers alone, walked. What the reference's functions on bytes compute. Words and their bytes, in plain Lean. What the functions on words compute. Rows of words of one's own (sq). Objects one behind the other: what places are (sq). Graphs that come in (sq). A graph as the document's (sq). What the functions on spaces compute (sq). Walking over a space, emptying it, its twin (sq). The document's spaces, walked (sq). What the document says of a graph: whether it may be, how many words it takes (sq). A graph's words, counted; bytes as words; places (sq). -/
import Derived.Test.YtdpmidgeipibbaaRules
import Derived.Test.YtdpmidgeipibbaaEng14
import Derived.Test.YtdpmidgeipibbaaEng11
import Derived.Test.YtdpmidgeipibbaaEng16
section
set_option linter.unusedVariables false
set_option linter.unusedSimpArgs false
set_option maxHeartbeats 4000000
namespace Go.Proofs.Ytdpmidgeipibbaa
open Go.Sh Go.RowKit

end Go.Proofs.Ytdpmidgeipibbaa
end
section
set_option linter.unusedVariables false
set_option linter.unusedSimpArgs false
set_option maxHeartbeats 4000000
namespace Go.Proofs.Ytdpmidgeipibbaa
open Go.Sh Go.RowKit

abbrev i64 (n : Int) : Value := .int .i64 n
def ones (n : Nat) : BitVec 64 := BitVec.allOnes 64 >>> (64 - n)
theorem ones_nat {n : Nat} (hn : n ≤ 64) : (ones n).toNat = 2 ^ n - 1 := by
  unfold ones
  rw [BitVec.toNat_ushiftRight, BitVec.toNat_allOnes, Nat.shiftRight_eq_div_pow]
  have h : 2 ^ 64 = 2 ^ n * 2 ^ (64 - n) := by rw [← Nat.pow_add]; congr 1; omega
  have hp : 0 < 2 ^ (64 - n) := Nat.pow_pos (by decide)
  have hq : 0 < 2 ^ n := Nat.pow_pos (by decide)
  rw [h]
  have e : 2 ^ n * 2 ^ (64 - n) - 1 = (2 ^ n - 1) * 2 ^ (64 - n) + (2 ^ (64 - n) - 1) := by
    obtain ⟨k, hk⟩ := Nat.exists_eq_add_of_lt hq
    obtain ⟨j, hj⟩ := Nat.exists_eq_add_of_lt hp
    rw [hk, hj]; simp only [Nat.zero_add, Nat.add_sub_cancel, Nat.add_mul, Nat.one_mul]; omega
  rw [e, Nat.add_comm, Nat.add_mul_div_right _ _ hp, Nat.div_eq_of_lt (by omega)]
  simp
/-- n ones from a bit on -/
def maskB (a n : Int) : BitVec 64 := (BitVec.ofNat 64 18446744073709551615 >>> (64 - n).toNat) <<< a.toNat
def maskOk (a n : Int) : Prop := 0 ≤ a ∧ a < 64 ∧ 1 ≤ n ∧ n ≤ 64 - a
instance (a n : Int) : Decidable (maskOk a n) := by unfold maskOk; infer_instance
def fieldB (x : BitVec 64) (a n : Int) : BitVec 64 := if maskOk a n then (x &&& maskB a n) >>> a.toNat else 0
def withB (x : BitVec 64) (a n : Int) (v : BitVec 64) : BitVec 64 := if maskOk a n then (x &&& ~~~maskB a n) ||| (v <<< a.toNat &&& maskB a n) else x
theorem maskB_eq (a n : Int) : maskB a n = ones n.toNat <<< a.toNat := by
  unfold maskB ones
  rw [show BitVec.ofNat 64 18446744073709551615 = BitVec.allOnes 64 by decide]
  by_cases h : 0 ≤ n
  · congr 2; omega
  · have e1 : (BitVec.allOnes 64) >>> (64 - n).toNat = 0#64 := by
      rw [BitVec.ushiftRight_eq_zero (by omega)]
    have e2 : (BitVec.allOnes 64) >>> (64 - n.toNat) = 0#64 := by
      rw [BitVec.ushiftRight_eq_zero (by omega)]
    rw [e1, e2]
theorem field_form (x : BitVec 64) {a n : Nat} (h : a + n ≤ 64) : (x &&& (ones n <<< a)) >>> a = (x >>> a) &&& ones n := by
  apply BitVec.eq_of_getLsbD_eq
  intro i hi
  simp only [BitVec.getLsbD_ushiftRight, BitVec.getLsbD_and, BitVec.getLsbD_shiftLeft]
  by_cases h1 : a + i < 64
  · have h2 : ¬ a + i < a := by omega
    simp [h1, h2]
  · have : x.getLsbD (a + i) = false := BitVec.getLsbD_of_ge _ _ (by omega)
    simp [this]
theorem and_ones_nat (x : BitVec 64) {n : Nat} (h : n ≤ 64) : (x &&& ones n).toNat = x.toNat % 2 ^ n := by
  rw [BitVec.toNat_and, ones_nat h, Nat.and_two_pow_sub_one_eq_mod]
theorem field_nat (x : BitVec 64) {a n : Nat} (h0 : 1 ≤ n) (h : a + n ≤ 64) : (fieldB x a n).toNat = x.toNat / 2 ^ a % 2 ^ n := by
  have hm : maskOk a n := ⟨by omega, by omega, by omega, by omega⟩
  unfold fieldB
  rw [if_pos hm, maskB_eq, Int.toNat_natCast, Int.toNat_natCast, field_form x h, and_ones_nat _ (by omega), BitVec.toNat_ushiftRight, Nat.shiftRight_eq_div_pow]
theorem put_form (v : BitVec 64) {a n : Nat} (h : a + n ≤ 64) : (v <<< a) &&& (ones n <<< a) = (v &&& ones n) <<< a := by
  apply BitVec.eq_of_getLsbD_eq
  intro i hi
  simp only [BitVec.getLsbD_and, BitVec.getLsbD_shiftLeft]
  cases decide (i < 64) <;> cases decide (i < a) <;> simp
theorem shl_nat (v : BitVec 64) {a n : Nat} (h : a + n ≤ 64) : ((v &&& ones n) <<< a).toNat = v.toNat % 2 ^ n * 2 ^ a := by
  rw [BitVec.toNat_shiftLeft, and_ones_nat v (by omega), Nat.shiftLeft_eq, Nat.mod_eq_of_lt]
  have h1 : v.toNat % 2 ^ n < 2 ^ n := Nat.mod_lt _ (Nat.pow_pos (by decide))
  calc v.toNat % 2 ^ n * 2 ^ a < 2 ^ n * 2 ^ a := (Nat.mul_lt_mul_right (Nat.pow_pos (by decide))).2 h1
    _ = 2 ^ (a + n) := by rw [← Nat.pow_add, Nat.add_comm]
    _ ≤ 2 ^ 64 := Nat.pow_le_pow_right (by decide) h
theorem at_form (x : BitVec 64) {a n : Nat} (h : a + n ≤ 64) : x &&& (ones n <<< a) = ((x >>> a) &&& ones n) <<< a := by
  apply BitVec.eq_of_getLsbD_eq
  intro i hi
  simp only [BitVec.getLsbD_and, BitVec.getLsbD_shiftLeft, BitVec.getLsbD_ushiftRight]
  by_cases h1 : i < a
  · simp [h1]
  · rw [show a + (i - a) = i by omega]; simp [h1, hi]
theorem or_nat {x y : BitVec 64} (h : x &&& y = 0#64) : (x ||| y).toNat = x.toNat + y.toNat := by
  rw [← BitVec.add_eq_or_of_and_eq_zero x y h, BitVec.toNat_add_of_and_eq_zero h]
theorem split_nat (x m : BitVec 64) : (x &&& ~~~m).toNat + (x &&& m).toNat = x.toNat := by
  have hd : (x &&& ~~~m) &&& (x &&& m) = 0#64 := by
    apply BitVec.eq_of_getLsbD_eq
    intro i hi
    simp only [BitVec.getLsbD_and, BitVec.getLsbD_not, BitVec.getLsbD_zero]
    cases x.getLsbD i <;> cases m.getLsbD i <;> simp
  have ho : (x &&& ~~~m) ||| (x &&& m) = x := by
    apply BitVec.eq_of_getLsbD_eq
    intro i hi
    simp only [BitVec.getLsbD_and, BitVec.getLsbD_not, BitVec.getLsbD_or]
    cases x.getLsbD i <;> cases m.getLsbD i <;> simp [hi]
  have := or_nat hd
  rw [ho] at this
  exact this.symm
theorem with_nat (x v : BitVec 64) {a n : Nat} (h0 : 1 ≤ n) (h : a + n ≤ 64) : (withB x a n v).toNat + x.toNat / 2 ^ a % 2 ^ n * 2 ^ a = x.toNat + v.toNat % 2 ^ n * 2 ^ a := by
  have hm : maskOk a n := ⟨by omega, by omega, by omega, by omega⟩
  unfold withB
  rw [if_pos hm, maskB_eq, Int.toNat_natCast, Int.toNat_natCast]
  have hd : (x &&& ~~~(ones n <<< a)) &&& (v <<< a &&& ones n <<< a) = 0#64 := by
    apply BitVec.eq_of_getLsbD_eq
    intro i hi
    simp only [BitVec.getLsbD_and, BitVec.getLsbD_not, BitVec.getLsbD_zero]
    cases (ones n <<< a).getLsbD i <;> simp
  rw [or_nat hd, put_form v h, shl_nat v h]
  have h1 := split_nat x (ones n <<< a)
  rw [at_form x h, shl_nat _ h, BitVec.toNat_ushiftRight, Nat.shiftRight_eq_div_pow] at h1
  omega
end Go.Proofs.Ytdpmidgeipibbaa
end
section
set_option linter.unusedVariables false
set_option linter.unusedSimpArgs false
set_option maxHeartbeats 4000000
namespace Go.Proofs.Ytdpmidgeipibbaa
open Go.Sh Go.RowKit

abbrev hd (p b : Int) (m : Bool) (t : Int) : Value := .agg #[i64 p, i64 b, .bool m, i64 t]
def rightP (p b : Int) (m : Bool) (t : Int) : Prop := (m = true ∧ p = 0 ∧ b = 0 ∧ 0 ≤ t ∧ t < 8192) ∨ (m = false ∧ t = 0 ∧ 0 ≤ p ∧ p ≤ 64 ∧ 0 ≤ b ∧ b ≤ 1024)
instance (p b : Int) (m : Bool) (t : Int) : Decidable (rightP p b m t) := by unfold rightP; infer_instance
def rightV (p b : Int) (m : Bool) (t : Int) : Bool := decide (rightP p b m t)
theorem right_t {p b t : Int} : rightP p b true t ↔ p = 0 ∧ b = 0 ∧ 0 ≤ t ∧ t < 8192 := by simp [rightP]
theorem right_f {p b t : Int} : rightP p b false t ↔ t = 0 ∧ 0 ≤ p ∧ p ≤ 64 ∧ 0 ≤ b ∧ b ≤ 1024 := by simp [rightP]
def packI (p b : Int) (m : Bool) (t : Int) : Int := if m then 9223372036854775809 + t * 4294967296 else 9223372036854775808 + p * 2 + b * 65536
def packW (p b : Int) (m : Bool) (t : Int) : BitVec 64 := if rightP p b m t then BitVec.ofInt 64 (packI p b m t) else BitVec.ofNat 64 0
def packE (p b : Int) (m : Bool) (t : Int) : Int := if rightP p b m t then 0 else 1
theorem ofInt_nat {n : Int} (h0 : 0 ≤ n) (h1 : n < 18446744073709551616) : ((BitVec.ofInt 64 n).toNat : Int) = n := by
  rw [BitVec.toNat_ofInt]; omega
theorem pack_with_m {t : Int} (h : 0 ≤ t ∧ t < 8192) : withB (BitVec.ofNat 64 9223372036854775808 ||| BitVec.ofNat 64 1) 32 16 (BitVec.ofInt 64 t) = BitVec.ofInt 64 (9223372036854775809 + t * 4294967296) := by
  have h1 : (withB _ 32 16 (BitVec.ofInt 64 t)).toNat + _ = _ := with_nat (BitVec.ofNat 64 9223372036854775808 ||| BitVec.ofNat 64 1) (BitVec.ofInt 64 t) (a := 32) (n := 16) (by decide) (by decide)
  have h2 := ofInt_nat (n := t) (by omega) (by omega)
  have h3 := ofInt_nat (n := 9223372036854775809 + t * 4294967296) (by omega) (by omega)
  have h4 : (BitVec.ofNat 64 9223372036854775808 ||| BitVec.ofNat 64 1).toNat = 9223372036854775809 := by decide
  rw [h4] at h1
  apply BitVec.eq_of_toNat_eq
  omega
theorem pack_with_n {p b : Int} (h : 0 ≤ p ∧ p ≤ 64) (h' : 0 ≤ b ∧ b ≤ 1024) : withB (withB (BitVec.ofNat 64 9223372036854775808) 1 8 (BitVec.ofInt 64 p)) 16 12 (BitVec.ofInt 64 b) = BitVec.ofInt 64 (9223372036854775808 + p * 2 + b * 65536) := by
  have h1 : (withB _ 1 8 (BitVec.ofInt 64 p)).toNat + _ = _ := with_nat (BitVec.ofNat 64 9223372036854775808) (BitVec.ofInt 64 p) (a := 1) (n := 8) (by decide) (by decide)
  have h2 : (withB _ 16 12 (BitVec.ofInt 64 b)).toNat + _ = _ := with_nat (withB (BitVec.ofNat 64 9223372036854775808) 1 8 (BitVec.ofInt 64 p)) (BitVec.ofInt 64 b) (a := 16) (n := 12) (by decide) (by decide)
  have h3 := ofInt_nat (n := p) (by omega) (by omega)
  have h4 := ofInt_nat (n := b) (by omega) (by omega)
  have h5 := ofInt_nat (n := 9223372036854775808 + p * 2 + b * 65536) (by omega) (by omega)
  have h6 : (BitVec.ofNat 64 9223372036854775808).toNat = 9223372036854775808 := by decide
  rw [h6] at h1
  apply BitVec.eq_of_toNat_eq
  omega
theorem pack_add_m {t : Int} (h : 0 ≤ t ∧ t < 8192) : BitVec.ofNat 64 9223372036854775808 + BitVec.ofNat 64 1 + BitVec.ofInt 64 t <<< (BitVec.ofNat 64 32).toNat = BitVec.ofInt 64 (9223372036854775809 + t * 4294967296) := by
  have h2 := ofInt_nat (n := t) (by omega) (by omega)
  have h3 := ofInt_nat (n := 9223372036854775809 + t * 4294967296) (by omega) (by omega)
  have h6 : (BitVec.ofNat 64 9223372036854775808 + BitVec.ofNat 64 1).toNat = 9223372036854775809 := by decide
  have h7 : (BitVec.ofNat 64 32).toNat = 32 := by decide
  apply BitVec.eq_of_toNat_eq
  rw [BitVec.toNat_add, h6, BitVec.toNat_shiftLeft, h7, Nat.shiftLeft_eq]
  omega
theorem pack_add_n {p b : Int} (h : 0 ≤ p ∧ p ≤ 64) (h' : 0 ≤ b ∧ b ≤ 1024) : BitVec.ofNat 64 9223372036854775808 + BitVec.ofInt 64 p <<< (BitVec.ofNat 64 1).toNat + BitVec.ofInt 64 b <<< (BitVec.ofNat 64 16).toNat = BitVec.ofInt 64 (9223372036854775808 + p * 2 + b * 65536) := by
  have h3 := ofInt_nat (n := p) (by omega) (by omega)
  have h4 := ofInt_nat (n := b) (by omega) (by omega)
  have h5 := ofInt_nat (n := 9223372036854775808 + p * 2 + b * 65536) (by omega) (by omega)
  have h6 : (BitVec.ofNat 64 9223372036854775808).toNat = 9223372036854775808 := by decide
  have h7 : (BitVec.ofNat 64 1).toNat = 1 := by decide
  have h8 : (BitVec.ofNat 64 16).toNat = 16 := by decide
  apply BitVec.eq_of_toNat_eq
  rw [BitVec.toNat_add, BitVec.toNat_add, h6, BitVec.toNat_shiftLeft, BitVec.toNat_shiftLeft, h7, h8, Nat.shiftLeft_eq, Nat.shiftLeft_eq]
  omega

/-! a word as a header -/
def uM (x : BitVec 64) : Bool := decide (x.toNat % 2 = 1)
def uP (x : BitVec 64) : Int := if uM x then 0 else (x.toNat / 2 % 256 : Nat)
def uB (x : BitVec 64) : Int := if uM x then 0 else (x.toNat / 65536 % 4096 : Nat)
def uT (x : BitVec 64) : Int := if uM x then (x.toNat / 4294967296 % 65536 : Nat) else 0
def isHead (x : BitVec 64) : Prop := rightP (uP x) (uB x) (uM x) (uT x) ∧ packW (uP x) (uB x) (uM x) (uT x) = x
instance (x : BitVec 64) : Decidable (isHead x) := by unfold isHead; infer_instance
def vP (x : BitVec 64) : Int := if isHead x then uP x else 0
def vB (x : BitVec 64) : Int := if isHead x then uB x else 0
def vM (x : BitVec 64) : Bool := if isHead x then uM x else false
def vT (x : BitVec 64) : Int := if isHead x then uT x else 0
def unErr (x : BitVec 64) : Int := if isHead x then 0 else 2
theorem low_one (x : BitVec 64) : (x &&& BitVec.ofNat 64 1 = BitVec.ofNat 64 1) ↔ uM x = true := by
  unfold uM
  rw [← BitVec.toNat_inj, BitVec.toNat_and, show (BitVec.ofNat 64 1).toNat = 2 ^ 1 - 1 by decide, Nat.and_two_pow_sub_one_eq_mod]
  simp
theorem small_int {x : BitVec 64} (h : x.toNat < 1000000) : x.toInt = (x.toNat : Int) := BitVec.toInt_eq_toNat_of_lt (by omega)
theorem field_1 (x : BitVec 64) : (fieldB x 1 8).toInt = (x.toNat / 2 % 256 : Nat) := by
  have h : (fieldB x 1 8).toNat = _ := field_nat x (a := 1) (n := 8) (by decide) (by decide)
  rw [small_int (by omega), h]
theorem field_16 (x : BitVec 64) : (fieldB x 16 12).toInt = (x.toNat / 65536 % 4096 : Nat) := by
  have h : (fieldB x 16 12).toNat = _ := field_nat x (a := 16) (n := 12) (by decide) (by decide)
  rw [small_int (by omega), h]
theorem field_32 (x : BitVec 64) : (fieldB x 32 16).toInt = (x.toNat / 4294967296 % 65536 : Nat) := by
  have h : (fieldB x 32 16).toNat = _ := field_nat x (a := 32) (n := 16) (by decide) (by decide)
  rw [small_int (by omega), h]
theorem packI_in {p b t : Int} {m : Bool} (h : rightP p b m t) : 0 ≤ packI p b m t ∧ packI p b m t < 18446744073709551616 := by
  unfold packI
  cases m
  · rw [right_f] at h; simp; omega
  · rw [right_t] at h; simp; omega
theorem packW_nat {p b t : Int} {m : Bool} (h : rightP p b m t) : ((packW p b m t).toNat : Int) = packI p b m t := by
  unfold packW
  rw [if_pos h, ofInt_nat (packI_in h).1 (packI_in h).2]
theorem un_pack {p b t : Int} {m : Bool} (h : rightP p b m t) : uP (packW p b m t) = p ∧ uB (packW p b m t) = b ∧ uM (packW p b m t) = m ∧ uT (packW p b m t) = t := by
  have hn := packW_nat h
  unfold packI at hn
  cases m
  · rw [right_f] at h
    simp only [Bool.false_eq_true, if_false] at hn
    have hm : uM (packW p b false t) = false := by unfold uM; rw [decide_eq_false]; omega
    refine ⟨?_, ?_, hm, ?_⟩
    · unfold uP; rw [hm]; simp; omega
    · unfold uB; rw [hm]; simp; omega
    · unfold uT; rw [hm]; simp; omega
  · rw [right_t] at h
    simp only [if_true] at hn
    have hm : uM (packW p b true t) = true := by unfold uM; rw [decide_eq_true]; omega
    refine ⟨?_, ?_, hm, ?_⟩
    · unfold uP; rw [hm]; simp; omega
    · unfold uB; rw [hm]; simp; omega
    · unfold uT; rw [hm]; simp; omega
theorem un_pack_is {p b t : Int} {m : Bool} (h : rightP p b m t) : isHead (packW p b m t) := by
  obtain ⟨h1, h2, h3, h4⟩ := un_pack h
  unfold isHead
  rw [h1, h2, h3, h4]
  exact ⟨h, rfl⟩
end Go.Proofs.Ytdpmidgeipibbaa
end
section
set_option linter.unusedVariables false
set_option linter.unusedSimpArgs false
set_option maxHeartbeats 4000000
namespace Go.Proofs.Ytdpmidgeipibbaa
open Go.Sh Go.RowKit

/-! signs -/
/-! fields by their bits -/
/-! turns -/
end Go.Proofs.Ytdpmidgeipibbaa
end
section
set_option linter.unusedVariables false
set_option linter.unusedSimpArgs false
set_option maxHeartbeats 4000000
namespace Go.Proofs.Ytdpmidgeipibbaa
open Go.Sh Go.RowKit

def inside (at' n size : Int) : Prop := 1 ≤ n ∧ n ≤ 8 ∧ 0 ≤ at' ∧ n ≤ size ∧ at' ≤ size - n
instance (at' n size : Int) : Decidable (inside at' n size) := by unfold inside; infer_instance
end Go.Proofs.Ytdpmidgeipibbaa
end
section
set_option linter.unusedVariables false
set_option linter.unusedSimpArgs false
set_option maxHeartbeats 4000000
namespace Go.Proofs.Ytdpmidgeipibbaa
open Go.Sh Go.RowKit

abbrev rsBitsW_0 := (And.intro @xBox_r (And.intro @loadK_some (And.intro @loadsK_s (And.intro @loadsK_n (And.intro @loadsR_s (And.intro @loadsR_n (And.intro @storesK_s (And.intro @storesK_n (And.intro @xPick_t (And.intro @xPick_f (And.intro @xGuard_tt (And.intro @xGuard_ff (And.intro @xGuard_tf (And.intro @xGuard_ft (And.intro @xGuard_u 
  (And.intro @xNil_r (And.intro @xIf_t (And.intro @xBin_add' (And.intro @xBin_sub' (And.intro @xBin_mul' (And.intro @xBin_quo' (And.intro @xBin_rem' (And.intro @xIf_f (And.intro @xIf_tt (And.intro @xEx0 (And.intro @xEx1 (And.intro @xEx2 (And.intro @xEx3 (And.intro @xBin_eqs (And.intro @xBin_nes (And.intro @xUn_not (And.intro @xu8_sub (And.intro @xu8_shl 
  (And.intro @xu8_shr (And.intro @xu8_lss (And.intro @xu8_gtr (And.intro @xu8_geq (And.intro @xu16_sub (And.intro @xu16_shl (And.intro @xu16_shr (And.intro @xu16_lss (And.intro @xu16_gtr (And.intro @xu16_geq (And.intro @xu32_sub (And.intro @xu32_shl (And.intro @xu32_shr (And.intro @xu32_lss (And.intro @xu32_gtr (And.intro @xu32_geq (And.intro @xu64_sub 
  (And.intro @xu64_shl (And.intro @xu64_shr (And.intro @xu64_lss (And.intro @xu64_gtr (And.intro @xu64_geq (And.intro @xi64_lss (And.intro @xi64_gtr (And.intro @xi64_geq (And.intro @xi64_shl (And.intro @xi64_shr (And.intro @xMakeFunc_r (And.intro @xSq_r (And.intro @xPur_s (And.intro @xRd_s (And.intro @xRe_s (And.intro @xDet_s (And.intro @xDet_ld 
  (And.intro @xDet_ld2 (And.intro @xDet_ld3 (And.intro @xDet_ld4 @xGuard_tt))))))))))))))))))))))))))))))))))))))))))))))))))))))))))))))))))))))
abbrev rsBitsW_1 := (And.intro @setCells_c (And.intro @setCells_n (And.intro @World.setCell_alloc_at (And.intro @World.setCell_alloc_past (And.intro @World.cell?_alloc_at (And.intro @World.cell?_alloc_past (And.intro @World.frozen?_alloc_at (And.intro @World.frozen?_alloc_past 
  (And.intro @World.size_alloc (And.intro @dlt_t (And.intro @dlt_f (And.intro @dle_t (And.intro @dle_f (And.intro @deq_t (And.intro @deq_f (And.intro @dne_t (And.intro @dne_f (And.intro @not_true_eq_false (And.intro @Bool.false_and (And.intro @Bool.true_and (And.intro @Bool.and_true (And.intro @Bool.and_false (And.intro @wrap_in (And.intro @Int.toNat_natCast 
  (And.intro @Nat.mul_one (And.intro @cells_int (And.intro @cells_bool (And.intro @cells_string (And.intro @cells_slice (And.intro @cells_pointer (And.intro @cells_agg (And.intro @one_int (And.intro @one_bool (And.intro @one_string (And.intro @one_slice (And.intro @one_pointer (And.intro @beq_tt (And.intro @beq_ff (And.intro @beq_tf 
  (And.intro @beq_ft (And.intro @cell_sets_b (And.intro @frozen_sets (And.intro @size_sets (And.intro @World.size_drew (And.intro @Nat.zero_add (And.intro @Nat.add_zero (And.intro @cell_drew (And.intro @frozen_drew (And.intro @cell_set_eq (And.intro @cell_set_o (And.intro @cell_set_b (And.intro @World.frozen?_setCell 
  (And.intro @decide_true (And.intro @decide_false (And.intro @not_false_eq_true (And.intro @Bool.not_true @Bool.not_false))))))))))))))))))))))))))))))))))))))))))))))))))))))))
theorem mask_spec (a n : Int) (w : World) : Gives Try.prog n_bits_mask #[i64 a, i64 n] w (.tuple #[.int .u64 ((if maskOk a n then maskB a n else BitVec.ofNat 64 0).toNat : Int), .bool (decide (maskOk a n))]) := by
  refine bits_mask_of ?_
  unfold bits_mask
  simp (disch := (first | omega | decide | (simp only [World.size_alloc, World.size_setCell, World.size_drew, size_sets, List.mem_cons, List.not_mem_nil, or_false, not_false_eq_true] <;> omega) | fail)) only [↓rsBitsW_0, rsBitsW_1, Option.isNone_some, Option.isNone_none, tick_eq, tickV_eq, ne_eq, Int.reduceAdd, Int.reduceSub, Int.reduceMul, Int.reduceEq, Int.reduceLT, Int.reduceLE, Int.reduceToNat, Nat.reduceMul, Nat.reduceAdd, Nat.reduceSub, List.nil_append, List.cons_append, List.getElem?_toArray, List.getElem?_cons_zero, List.getElem?_cons_succ, List.setIfInBounds_toArray, List.set_cons_zero, List.set_cons_succ, Option.map_some, List.not_mem_nil, ←decide_not, eq_self]
  by_cases g1 : a < 0
  · have hv : ¬ maskOk a n := by unfold maskOk; omega
    simp (disch := (first | omega | decide | (simp only [World.size_alloc, World.size_setCell, World.size_drew, size_sets, List.mem_cons, List.not_mem_nil, or_false, not_false_eq_true] <;> omega) | fail)) only [↓rsBitsW_0, rsBitsW_1, Option.isNone_some, Option.isNone_none, tick_eq, tickV_eq, ne_eq, Int.reduceAdd, Int.reduceSub, Int.reduceMul, Int.reduceEq, Int.reduceLT, Int.reduceLE, Int.reduceToNat, Nat.reduceMul, Nat.reduceAdd, Nat.reduceSub, List.nil_append, List.cons_append, List.getElem?_toArray, List.getElem?_cons_zero, List.getElem?_cons_succ, List.setIfInBounds_toArray, List.set_cons_zero, List.set_cons_succ, Option.map_some, List.not_mem_nil, ←decide_not, eq_self, g1, hv]
    exact ⟨by trivial, by (repeat (first | with_reducible exact Ext.refl _ _ | with_reducible assumption | with_reducible refine Ext.alloc' ?_ _ | with_reducible refine Ext.drew' ?_ | with_reducible refine Ext.set' ?_ ?_ | exact .inr (by first | omega | (simp only [World.size_alloc, World.size_drew, World.size_setCell] <;> omega)) | refine Ext.trans ?_ (by with_reducible assumption)))⟩
  by_cases g2 : 64 ≤ a
  · have hv : ¬ maskOk a n := by unfold maskOk; omega
    simp (disch := (first | omega | decide | (simp only [World.size_alloc, World.size_setCell, World.size_drew, size_sets, List.mem_cons, List.not_mem_nil, or_false, not_false_eq_true] <;> omega) | fail)) only [↓rsBitsW_0, rsBitsW_1, Option.isNone_some, Option.isNone_none, tick_eq, tickV_eq, ne_eq, Int.reduceAdd, Int.reduceSub, Int.reduceMul, Int.reduceEq, Int.reduceLT, Int.reduceLE, Int.reduceToNat, Nat.reduceMul, Nat.reduceAdd, Nat.reduceSub, List.nil_append, List.cons_append, List.getElem?_toArray, List.getElem?_cons_zero, List.getElem?_cons_succ, List.setIfInBounds_toArray, List.set_cons_zero, List.set_cons_succ, Option.map_some, List.not_mem_nil, ←decide_not, g1, g2, hv]
    exact ⟨by trivial, by (repeat (first | with_reducible exact Ext.refl _ _ | with_reducible assumption | with_reducible refine Ext.alloc' ?_ _ | with_reducible refine Ext.drew' ?_ | with_reducible refine Ext.set' ?_ ?_ | exact .inr (by first | omega | (simp only [World.size_alloc, World.size_drew, World.size_setCell] <;> omega)) | refine Ext.trans ?_ (by with_reducible assumption)))⟩
  by_cases g3 : n < 1
  · have hv : ¬ maskOk a n := by unfold maskOk; omega
    simp (disch := (first | omega | decide | (simp only [World.size_alloc, World.size_setCell, World.size_drew, size_sets, List.mem_cons, List.not_mem_nil, or_false, not_false_eq_true] <;> omega) | fail)) only [↓rsBitsW_0, rsBitsW_1, Option.isNone_some, Option.isNone_none, tick_eq, tickV_eq, ne_eq, Int.reduceAdd, Int.reduceSub, Int.reduceMul, Int.reduceEq, Int.reduceLT, Int.reduceLE, Int.reduceToNat, Nat.reduceMul, Nat.reduceAdd, Nat.reduceSub, List.nil_append, List.cons_append, List.getElem?_toArray, List.getElem?_cons_zero, List.getElem?_cons_succ, List.setIfInBounds_toArray, List.set_cons_zero, List.set_cons_succ, Option.map_some, List.not_mem_nil, ←decide_not, g1, g2, g3, hv]
    exact ⟨by trivial, by (repeat (first | with_reducible exact Ext.refl _ _ | with_reducible assumption | with_reducible refine Ext.alloc' ?_ _ | with_reducible refine Ext.drew' ?_ | with_reducible refine Ext.set' ?_ ?_ | exact .inr (by first | omega | (simp only [World.size_alloc, World.size_drew, World.size_setCell] <;> omega)) | refine Ext.trans ?_ (by with_reducible assumption)))⟩
  by_cases g4 : 64 - a < n
  · have hv : ¬ maskOk a n := by unfold maskOk; omega
    simp (disch := (first | omega | decide | (simp only [World.size_alloc, World.size_setCell, World.size_drew, size_sets, List.mem_cons, List.not_mem_nil, or_false, not_false_eq_true] <;> omega) | fail)) only [↓rsBitsW_0, rsBitsW_1, Option.isNone_some, Option.isNone_none, tick_eq, tickV_eq, ne_eq, Int.reduceAdd, Int.reduceSub, Int.reduceMul, Int.reduceEq, Int.reduceLT, Int.reduceLE, Int.reduceToNat, Nat.reduceMul, Nat.reduceAdd, Nat.reduceSub, List.nil_append, List.cons_append, List.getElem?_toArray, List.getElem?_cons_zero, List.getElem?_cons_succ, List.setIfInBounds_toArray, List.set_cons_zero, List.set_cons_succ, Option.map_some, List.not_mem_nil, ←decide_not, g1, g2, g3, g4, hv]
    exact ⟨by trivial, by (repeat (first | with_reducible exact Ext.refl _ _ | with_reducible assumption | with_reducible refine Ext.alloc' ?_ _ | with_reducible refine Ext.drew' ?_ | with_reducible refine Ext.set' ?_ ?_ | exact .inr (by first | omega | (simp only [World.size_alloc, World.size_drew, World.size_setCell] <;> omega)) | refine Ext.trans ?_ (by with_reducible assumption)))⟩
  have hv : maskOk a n := by unfold maskOk; omega
  simp (disch := (first | omega | decide | (simp only [World.size_alloc, World.size_setCell, World.size_drew, size_sets, List.mem_cons, List.not_mem_nil, or_false, not_false_eq_true] <;> omega) | fail)) only [↓rsBitsW_0, rsBitsW_1, Option.isNone_some, Option.isNone_none, tick_eq, tickV_eq, ne_eq, Int.reduceAdd, Int.reduceSub, Int.reduceMul, Int.reduceEq, Int.reduceLT, Int.reduceLE, Int.reduceToNat, Nat.reduceMul, Nat.reduceAdd, Nat.reduceSub, List.nil_append, List.cons_append, List.getElem?_toArray, List.getElem?_cons_zero, List.getElem?_cons_succ, List.setIfInBounds_toArray, List.set_cons_zero, List.set_cons_succ, Option.map_some, List.not_mem_nil, ←decide_not, g1, g2, g3, g4, hv, if_pos hv]
  exact ⟨by rfl, by (repeat (first | with_reducible exact Ext.refl _ _ | with_reducible assumption | with_reducible refine Ext.alloc' ?_ _ | with_reducible refine Ext.drew' ?_ | with_reducible refine Ext.set' ?_ ?_ | exact .inr (by first | omega | (simp only [World.size_alloc, World.size_drew, World.size_setCell] <;> omega)) | refine Ext.trans ?_ (by with_reducible assumption)))⟩
abbrev rsBitsW_2 := (And.intro @xBox_r (And.intro @loadK_some (And.intro @loadsK_s (And.intro @loadsK_n (And.intro @loadsR_s (And.intro @loadsR_n (And.intro @storesK_s (And.intro @storesK_n (And.intro @xPick_t (And.intro @xPick_f (And.intro @xGuard_tt (And.intro @xGuard_ff (And.intro @xGuard_tf (And.intro @xGuard_ft (And.intro @xGuard_u 
  (And.intro @xNil_r (And.intro @xIf_t (And.intro @xBin_add' (And.intro @xBin_sub' (And.intro @xBin_mul' (And.intro @xBin_quo' (And.intro @xBin_rem' (And.intro @xIf_f (And.intro @xIf_tt (And.intro @xEx0 (And.intro @xEx1 (And.intro @xEx2 (And.intro @xEx3 (And.intro @xBin_eqs (And.intro @xBin_nes (And.intro @xUn_not (And.intro @xu8_and (And.intro @xu8_com 
  (And.intro @xu8_shr (And.intro @xu16_and (And.intro @xu16_com (And.intro @xu16_shr (And.intro @xu32_and (And.intro @xu32_com (And.intro @xu32_shr (And.intro @xu64_and (And.intro @xu64_com (And.intro @xu64_shr (And.intro @xi64_and (And.intro @xi64_shr (And.intro @xMakeFunc_r (And.intro @xSq_r (And.intro @xPur_s (And.intro @xRd_s (And.intro @xRe_s 
  (And.intro @xDet_s (And.intro @xDet_ld (And.intro @xDet_ld2 (And.intro @xDet_ld3 (And.intro @xDet_ld4 @xGuard_tt)))))))))))))))))))))))))))))))))))))))))))))))))))))))
theorem Field_spec (x : BitVec 64) (a n : Int) (w : World) : Gives Try.prog n_bits_Field #[u64 x, i64 a, i64 n] w (u64 (fieldB x a n)) := by
  refine bits_Field_of ?_
  unfold bits_Field
  refine bits_mask_call (Gives.to (mask_spec _ _ _) fun w1 E1 => ?_)
  have z1 := E1.size
  try simp only [World.size_alloc, World.size_setCell, World.size_drew] at z1
  by_cases h : maskOk a n
  · have h0 : 0 ≤ a := h.1
    simp (disch := (first | omega | decide | (simp only [World.size_alloc, World.size_setCell, World.size_drew, size_sets, List.mem_cons, List.not_mem_nil, or_false, not_false_eq_true] <;> omega) | fail)) only [↓rsBitsW_2, rsBitsW_1, Option.isNone_some, Option.isNone_none, tick_eq, tickV_eq, ne_eq, Int.reduceAdd, Int.reduceSub, Int.reduceMul, Int.reduceEq, Int.reduceLT, Int.reduceLE, Int.reduceToNat, Nat.reduceMul, Nat.reduceAdd, Nat.reduceSub, List.nil_append, List.cons_append, List.getElem?_toArray, List.getElem?_cons_zero, List.getElem?_cons_succ, List.setIfInBounds_toArray, List.set_cons_zero, List.set_cons_succ, Option.map_some, List.not_mem_nil, ←decide_not, if_pos h, decide_eq_true h]
    exact ⟨by simp only [fieldB, if_pos h], by (repeat (first | with_reducible exact Ext.refl _ _ | with_reducible assumption | with_reducible refine Ext.alloc' ?_ _ | with_reducible refine Ext.drew' ?_ | with_reducible refine Ext.set' ?_ ?_ | exact .inr (by first | omega | (simp only [World.size_alloc, World.size_drew, World.size_setCell] <;> omega)) | refine Ext.trans ?_ (by with_reducible assumption)))⟩
  · simp (disch := (first | omega | decide | (simp only [World.size_alloc, World.size_setCell, World.size_drew, size_sets, List.mem_cons, List.not_mem_nil, or_false, not_false_eq_true] <;> omega) | fail)) only [↓rsBitsW_2, rsBitsW_1, Option.isNone_some, Option.isNone_none, tick_eq, tickV_eq, ne_eq, Int.reduceAdd, Int.reduceSub, Int.reduceMul, Int.reduceEq, Int.reduceLT, Int.reduceLE, Int.reduceToNat, Nat.reduceMul, Nat.reduceAdd, Nat.reduceSub, List.nil_append, List.cons_append, List.getElem?_toArray, List.getElem?_cons_zero, List.getElem?_cons_succ, List.setIfInBounds_toArray, List.set_cons_zero, List.set_cons_succ, Option.map_some, List.not_mem_nil, ←decide_not, if_neg h, decide_eq_false h]
    exact ⟨by simp only [fieldB, if_neg h]; rfl, by (repeat (first | with_reducible exact Ext.refl _ _ | with_reducible assumption | with_reducible refine Ext.alloc' ?_ _ | with_reducible refine Ext.drew' ?_ | with_reducible refine Ext.set' ?_ ?_ | exact .inr (by first | omega | (simp only [World.size_alloc, World.size_drew, World.size_setCell] <;> omega)) | refine Ext.trans ?_ (by with_reducible assumption)))⟩
abbrev rsBitsW_3 := (And.intro @xBox_r (And.intro @loadK_some (And.intro @loadsK_s (And.intro @loadsK_n (And.intro @loadsR_s (And.intro @loadsR_n (And.intro @storesK_s (And.intro @storesK_n (And.intro @xPick_t (And.intro @xPick_f (And.intro @xGuard_tt (And.intro @xGuard_ff (And.intro @xGuard_tf (And.intro @xGuard_ft (And.intro @xGuard_u 
  (And.intro @xNil_r (And.intro @xIf_t (And.intro @xBin_add' (And.intro @xBin_sub' (And.intro @xBin_mul' (And.intro @xBin_quo' (And.intro @xBin_rem' (And.intro @xIf_f (And.intro @xIf_tt (And.intro @xEx0 (And.intro @xEx1 (And.intro @xEx2 (And.intro @xEx3 (And.intro @xBin_eqs (And.intro @xBin_nes (And.intro @xUn_not (And.intro @xu8_and (And.intro @xu8_or 
  (And.intro @xu8_andNot (And.intro @xu8_com (And.intro @xu8_shl (And.intro @xu16_and (And.intro @xu16_or (And.intro @xu16_andNot (And.intro @xu16_com (And.intro @xu16_shl (And.intro @xu32_and (And.intro @xu32_or (And.intro @xu32_andNot (And.intro @xu32_com (And.intro @xu32_shl (And.intro @xu64_and (And.intro @xu64_or (And.intro @xu64_andNot 
  (And.intro @xu64_com (And.intro @xu64_shl (And.intro @xi64_and (And.intro @xi64_or (And.intro @xi64_shl (And.intro @xMakeFunc_r (And.intro @xSq_r (And.intro @xPur_s (And.intro @xRd_s (And.intro @xRe_s (And.intro @xDet_s (And.intro @xDet_ld (And.intro @xDet_ld2 (And.intro @xDet_ld3 (And.intro @xDet_ld4 @xGuard_tt))))))))))))))))))))))))))))))))))))))))))))))))))))))))))))))))
theorem With_spec (x v : BitVec 64) (a n : Int) (w : World) : Gives Try.prog n_bits_With #[u64 x, i64 a, i64 n, u64 v] w (u64 (withB x a n v)) := by
  refine bits_With_of ?_
  unfold bits_With
  refine bits_mask_call (Gives.to (mask_spec _ _ _) fun w1 E1 => ?_)
  have z1 := E1.size
  try simp only [World.size_alloc, World.size_setCell, World.size_drew] at z1
  by_cases h : maskOk a n
  · have h0 : 0 ≤ a := h.1
    simp (disch := (first | omega | decide | (simp only [World.size_alloc, World.size_setCell, World.size_drew, size_sets, List.mem_cons, List.not_mem_nil, or_false, not_false_eq_true] <;> omega) | fail)) only [↓rsBitsW_3, rsBitsW_1, Option.isNone_some, Option.isNone_none, tick_eq, tickV_eq, ne_eq, Int.reduceAdd, Int.reduceSub, Int.reduceMul, Int.reduceEq, Int.reduceLT, Int.reduceLE, Int.reduceToNat, Nat.reduceMul, Nat.reduceAdd, Nat.reduceSub, List.nil_append, List.cons_append, List.getElem?_toArray, List.getElem?_cons_zero, List.getElem?_cons_succ, List.setIfInBounds_toArray, List.set_cons_zero, List.set_cons_succ, Option.map_some, List.not_mem_nil, ←decide_not, if_pos h, decide_eq_true h]
    exact ⟨by simp only [withB, if_pos h], by (repeat (first | with_reducible exact Ext.refl _ _ | with_reducible assumption | with_reducible refine Ext.alloc' ?_ _ | with_reducible refine Ext.drew' ?_ | with_reducible refine Ext.set' ?_ ?_ | exact .inr (by first | omega | (simp only [World.size_alloc, World.size_drew, World.size_setCell] <;> omega)) | refine Ext.trans ?_ (by with_reducible assumption)))⟩
  · simp (disch := (first | omega | decide | (simp only [World.size_alloc, World.size_setCell, World.size_drew, size_sets, List.mem_cons, List.not_mem_nil, or_false, not_false_eq_true] <;> omega) | fail)) only [↓rsBitsW_3, rsBitsW_1, Option.isNone_some, Option.isNone_none, tick_eq, tickV_eq, ne_eq, Int.reduceAdd, Int.reduceSub, Int.reduceMul, Int.reduceEq, Int.reduceLT, Int.reduceLE, Int.reduceToNat, Nat.reduceMul, Nat.reduceAdd, Nat.reduceSub, List.nil_append, List.cons_append, List.getElem?_toArray, List.getElem?_cons_zero, List.getElem?_cons_succ, List.setIfInBounds_toArray, List.set_cons_zero, List.set_cons_succ, Option.map_some, List.not_mem_nil, ←decide_not, if_neg h, decide_eq_false h]
    exact ⟨by simp only [withB, if_neg h], by (repeat (first | with_reducible exact Ext.refl _ _ | with_reducible assumption | with_reducible refine Ext.alloc' ?_ _ | with_reducible refine Ext.drew' ?_ | with_reducible refine Ext.set' ?_ ?_ | exact .inr (by first | omega | (simp only [World.size_alloc, World.size_drew, World.size_setCell] <;> omega)) | refine Ext.trans ?_ (by with_reducible assumption)))⟩
end Go.Proofs.Ytdpmidgeipibbaa
end
section
set_option linter.unusedVariables false
set_option linter.unusedSimpArgs false
set_option maxHeartbeats 4000000
namespace Go.Proofs.Ytdpmidgeipibbaa
open Go.Sh Go.RowKit

abbrev rsHead_0 := (And.intro @xBox_r (And.intro @loadK_some (And.intro @loadsK_s (And.intro @loadsK_n (And.intro @loadsR_s (And.intro @loadsR_n (And.intro @storesK_s (And.intro @storesK_n (And.intro @xPick_t (And.intro @xPick_f (And.intro @xGuard_tt (And.intro @xGuard_ff (And.intro @xGuard_tf (And.intro @xGuard_ft (And.intro @xGuard_u 
  (And.intro @xNil_r (And.intro @xIf_t (And.intro @xBin_add' (And.intro @xBin_sub' (And.intro @xBin_mul' (And.intro @xBin_quo' (And.intro @xBin_rem' (And.intro @xIf_f (And.intro @xIf_tt (And.intro @xEx0 (And.intro @xEx1 (And.intro @xEx2 (And.intro @xEx3 (And.intro @xBin_eqs (And.intro @xBin_nes (And.intro @xUn_not (And.intro @xu8_eql (And.intro @xu8_lss 
  (And.intro @xu8_leq (And.intro @xu8_geq (And.intro @xu16_eql (And.intro @xu16_lss (And.intro @xu16_leq (And.intro @xu16_geq (And.intro @xu32_eql (And.intro @xu32_lss (And.intro @xu32_leq (And.intro @xu32_geq (And.intro @xu64_eql (And.intro @xu64_lss (And.intro @xu64_leq (And.intro @xu64_geq (And.intro @xi64_lss (And.intro @xi64_leq (And.intro @xi64_geq 
  (And.intro @xi64_eql (And.intro @xMakeFunc_r (And.intro @xSq_r (And.intro @xPur_s (And.intro @xRd_s (And.intro @xRe_s (And.intro @xDet_s (And.intro @xDet_ld (And.intro @xDet_ld2 (And.intro @xDet_ld3 (And.intro @xDet_ld4 (And.intro @xGuard_tt (And.intro @ld_3 (And.intro @ld_4 (And.intro @fa_123_0 (And.intro @fa_123_1 (And.intro @fa_123_2 @fa_123_3)))))))))))))))))))))))))))))))))))))))))))))))))))))))))))))))))))
abbrev rsHead_1 := (And.intro @setCells_c (And.intro @setCells_n (And.intro @World.setCell_alloc_at (And.intro @World.setCell_alloc_past (And.intro @World.cell?_alloc_at (And.intro @World.cell?_alloc_past (And.intro @World.frozen?_alloc_at (And.intro @World.frozen?_alloc_past 
  (And.intro @World.size_alloc (And.intro @dlt_t (And.intro @dlt_f (And.intro @dle_t (And.intro @dle_f (And.intro @deq_t (And.intro @deq_f (And.intro @dne_t (And.intro @dne_f (And.intro @not_true_eq_false (And.intro @Bool.false_and (And.intro @Bool.true_and (And.intro @Bool.and_true (And.intro @Bool.and_false (And.intro @wrap_in (And.intro @Int.toNat_natCast 
  (And.intro @Nat.mul_one (And.intro @cells_int (And.intro @cells_bool (And.intro @cells_string (And.intro @cells_slice (And.intro @cells_pointer (And.intro @cells_agg (And.intro @one_int (And.intro @one_bool (And.intro @one_string (And.intro @one_slice (And.intro @one_pointer (And.intro @beq_tt (And.intro @beq_ff (And.intro @beq_tf 
  (And.intro @beq_ft (And.intro @cell_sets_b (And.intro @frozen_sets (And.intro @size_sets (And.intro @World.size_drew (And.intro @Nat.zero_add (And.intro @Nat.add_zero (And.intro @cell_drew (And.intro @frozen_drew (And.intro @cell_set_eq (And.intro @cell_set_o (And.intro @cell_set_b (And.intro @World.frozen?_setCell 
  (And.intro @decide_true (And.intro @decide_false (And.intro @not_false_eq_true (And.intro @Bool.not_true @Bool.not_false))))))))))))))))))))))))))))))))))))))))))))))))))))))))
theorem Right_spec (p b : Int) (m : Bool) (t : Int) (w : World) : Gives Try.prog n_head_Right #[hd p b m t] w (.bool (rightV p b m t)) := by
  refine head_Right_of ?_
  unfold head_Right
  simp (disch := (first | omega | decide | (simp only [World.size_alloc, World.size_setCell, World.size_drew, size_sets, List.mem_cons, List.not_mem_nil, or_false, not_false_eq_true] <;> omega) | fail)) only [↓rsHead_0, rsHead_1, Option.isNone_some, Option.isNone_none, tick_eq, tickV_eq, ne_eq, Int.reduceAdd, Int.reduceSub, Int.reduceMul, Int.reduceEq, Int.reduceLT, Int.reduceLE, Int.reduceToNat, Nat.reduceMul, Nat.reduceAdd, Nat.reduceSub, List.nil_append, List.cons_append, List.getElem?_toArray, List.getElem?_cons_zero, List.getElem?_cons_succ, List.setIfInBounds_toArray, List.set_cons_zero, List.set_cons_succ, Option.map_some, List.not_mem_nil, ←decide_not, eq_self]
  cases m
  · simp (disch := (first | omega | decide | (simp only [World.size_alloc, World.size_setCell, World.size_drew, size_sets, List.mem_cons, List.not_mem_nil, or_false, not_false_eq_true] <;> omega) | fail)) only [↓rsHead_0, rsHead_1, Option.isNone_some, Option.isNone_none, tick_eq, tickV_eq, ne_eq, Int.reduceAdd, Int.reduceSub, Int.reduceMul, Int.reduceEq, Int.reduceLT, Int.reduceLE, Int.reduceToNat, Nat.reduceMul, Nat.reduceAdd, Nat.reduceSub, List.nil_append, List.cons_append, List.getElem?_toArray, List.getElem?_cons_zero, List.getElem?_cons_succ, List.setIfInBounds_toArray, List.set_cons_zero, List.set_cons_succ, Option.map_some, List.not_mem_nil, ←decide_not, eq_self]
    by_cases g1 : ¬ t = 0
    · have hv : rightV p b false t = false := decide_eq_false (by rw [right_f]; omega)
      simp (disch := (first | omega | decide | (simp only [World.size_alloc, World.size_setCell, World.size_drew, size_sets, List.mem_cons, List.not_mem_nil, or_false, not_false_eq_true] <;> omega) | fail)) only [↓rsHead_0, rsHead_1, Option.isNone_some, Option.isNone_none, tick_eq, tickV_eq, ne_eq, Int.reduceAdd, Int.reduceSub, Int.reduceMul, Int.reduceEq, Int.reduceLT, Int.reduceLE, Int.reduceToNat, Nat.reduceMul, Nat.reduceAdd, Nat.reduceSub, List.nil_append, List.cons_append, List.getElem?_toArray, List.getElem?_cons_zero, List.getElem?_cons_succ, List.setIfInBounds_toArray, List.set_cons_zero, List.set_cons_succ, Option.map_some, List.not_mem_nil, ←decide_not, eq_self, g1, hv]
      exact ⟨by trivial, by (repeat (first | with_reducible exact Ext.refl _ _ | with_reducible assumption | with_reducible refine Ext.alloc' ?_ _ | with_reducible refine Ext.drew' ?_ | with_reducible refine Ext.set' ?_ ?_ | exact .inr (by first | omega | (simp only [World.size_alloc, World.size_drew, World.size_setCell] <;> omega)) | refine Ext.trans ?_ (by with_reducible assumption)))⟩
    replace g1 := Decidable.not_not.1 g1
    by_cases g2 : ¬ 0 ≤ p
    · have hv : rightV p b false t = false := decide_eq_false (by rw [right_f]; omega)
      simp (disch := (first | omega | decide | (simp only [World.size_alloc, World.size_setCell, World.size_drew, size_sets, List.mem_cons, List.not_mem_nil, or_false, not_false_eq_true] <;> omega) | fail)) only [↓rsHead_0, rsHead_1, Option.isNone_some, Option.isNone_none, tick_eq, tickV_eq, ne_eq, Int.reduceAdd, Int.reduceSub, Int.reduceMul, Int.reduceEq, Int.reduceLT, Int.reduceLE, Int.reduceToNat, Nat.reduceMul, Nat.reduceAdd, Nat.reduceSub, List.nil_append, List.cons_append, List.getElem?_toArray, List.getElem?_cons_zero, List.getElem?_cons_succ, List.setIfInBounds_toArray, List.set_cons_zero, List.set_cons_succ, Option.map_some, List.not_mem_nil, ←decide_not, eq_true g1, g2, hv]
      exact ⟨by trivial, by (repeat (first | with_reducible exact Ext.refl _ _ | with_reducible assumption | with_reducible refine Ext.alloc' ?_ _ | with_reducible refine Ext.drew' ?_ | with_reducible refine Ext.set' ?_ ?_ | exact .inr (by first | omega | (simp only [World.size_alloc, World.size_drew, World.size_setCell] <;> omega)) | refine Ext.trans ?_ (by with_reducible assumption)))⟩
    replace g2 := Decidable.not_not.1 g2
    by_cases g3 : ¬ p ≤ 64
    · have hv : rightV p b false t = false := decide_eq_false (by rw [right_f]; omega)
      simp (disch := (first | omega | decide | (simp only [World.size_alloc, World.size_setCell, World.size_drew, size_sets, List.mem_cons, List.not_mem_nil, or_false, not_false_eq_true] <;> omega) | fail)) only [↓rsHead_0, rsHead_1, Option.isNone_some, Option.isNone_none, tick_eq, tickV_eq, ne_eq, Int.reduceAdd, Int.reduceSub, Int.reduceMul, Int.reduceEq, Int.reduceLT, Int.reduceLE, Int.reduceToNat, Nat.reduceMul, Nat.reduceAdd, Nat.reduceSub, List.nil_append, List.cons_append, List.getElem?_toArray, List.getElem?_cons_zero, List.getElem?_cons_succ, List.setIfInBounds_toArray, List.set_cons_zero, List.set_cons_succ, Option.map_some, List.not_mem_nil, ←decide_not, eq_true g1, eq_true g2, g3, hv]
      exact ⟨by trivial, by (repeat (first | with_reducible exact Ext.refl _ _ | with_reducible assumption | with_reducible refine Ext.alloc' ?_ _ | with_reducible refine Ext.drew' ?_ | with_reducible refine Ext.set' ?_ ?_ | exact .inr (by first | omega | (simp only [World.size_alloc, World.size_drew, World.size_setCell] <;> omega)) | refine Ext.trans ?_ (by with_reducible assumption)))⟩
    replace g3 := Decidable.not_not.1 g3
    by_cases g4 : ¬ 0 ≤ b
    · have hv : rightV p b false t = false := decide_eq_false (by rw [right_f]; omega)
      simp (disch := (first | omega | decide | (simp only [World.size_alloc, World.size_setCell, World.size_drew, size_sets, List.mem_cons, List.not_mem_nil, or_false, not_false_eq_true] <;> omega) | fail)) only [↓rsHead_0, rsHead_1, Option.isNone_some, Option.isNone_none, tick_eq, tickV_eq, ne_eq, Int.reduceAdd, Int.reduceSub, Int.reduceMul, Int.reduceEq, Int.reduceLT, Int.reduceLE, Int.reduceToNat, Nat.reduceMul, Nat.reduceAdd, Nat.reduceSub, List.nil_append, List.cons_append, List.getElem?_toArray, List.getElem?_cons_zero, List.getElem?_cons_succ, List.setIfInBounds_toArray, List.set_cons_zero, List.set_cons_succ, Option.map_some, List.not_mem_nil, ←decide_not, eq_true g1, eq_true g2, eq_true g3, g4, hv]
      exact ⟨by trivial, by (repeat (first | with_reducible exact Ext.refl _ _ | with_reducible assumption | with_reducible refine Ext.alloc' ?_ _ | with_reducible refine Ext.drew' ?_ | with_reducible refine Ext.set' ?_ ?_ | exact .inr (by first | omega | (simp only [World.size_alloc, World.size_drew, World.size_setCell] <;> omega)) | refine Ext.trans ?_ (by with_reducible assumption)))⟩
    replace g4 := Decidable.not_not.1 g4
    by_cases g5 : ¬ b ≤ 1024
    · have hv : rightV p b false t = false := decide_eq_false (by rw [right_f]; omega)
      simp (disch := (first | omega | decide | (simp only [World.size_alloc, World.size_setCell, World.size_drew, size_sets, List.mem_cons, List.not_mem_nil, or_false, not_false_eq_true] <;> omega) | fail)) only [↓rsHead_0, rsHead_1, Option.isNone_some, Option.isNone_none, tick_eq, tickV_eq, ne_eq, Int.reduceAdd, Int.reduceSub, Int.reduceMul, Int.reduceEq, Int.reduceLT, Int.reduceLE, Int.reduceToNat, Nat.reduceMul, Nat.reduceAdd, Nat.reduceSub, List.nil_append, List.cons_append, List.getElem?_toArray, List.getElem?_cons_zero, List.getElem?_cons_succ, List.setIfInBounds_toArray, List.set_cons_zero, List.set_cons_succ, Option.map_some, List.not_mem_nil, ←decide_not, eq_true g1, eq_true g2, eq_true g3, eq_true g4, g5, hv]
      exact ⟨by trivial, by (repeat (first | with_reducible exact Ext.refl _ _ | with_reducible assumption | with_reducible refine Ext.alloc' ?_ _ | with_reducible refine Ext.drew' ?_ | with_reducible refine Ext.set' ?_ ?_ | exact .inr (by first | omega | (simp only [World.size_alloc, World.size_drew, World.size_setCell] <;> omega)) | refine Ext.trans ?_ (by with_reducible assumption)))⟩
    replace g5 := Decidable.not_not.1 g5
    have hv : rightV p b false t = true := decide_eq_true (by rw [right_f]; omega)
    simp (disch := (first | omega | decide | (simp only [World.size_alloc, World.size_setCell, World.size_drew, size_sets, List.mem_cons, List.not_mem_nil, or_false, not_false_eq_true] <;> omega) | fail)) only [↓rsHead_0, rsHead_1, Option.isNone_some, Option.isNone_none, tick_eq, tickV_eq, ne_eq, Int.reduceAdd, Int.reduceSub, Int.reduceMul, Int.reduceEq, Int.reduceLT, Int.reduceLE, Int.reduceToNat, Nat.reduceMul, Nat.reduceAdd, Nat.reduceSub, List.nil_append, List.cons_append, List.getElem?_toArray, List.getElem?_cons_zero, List.getElem?_cons_succ, List.setIfInBounds_toArray, List.set_cons_zero, List.set_cons_succ, Option.map_some, List.not_mem_nil, ←decide_not, eq_true g1, eq_true g2, eq_true g3, eq_true g4, eq_true g5, hv]
    exact ⟨by trivial, by (repeat (first | with_reducible exact Ext.refl _ _ | with_reducible assumption | with_reducible refine Ext.alloc' ?_ _ | with_reducible refine Ext.drew' ?_ | with_reducible refine Ext.set' ?_ ?_ | exact .inr (by first | omega | (simp only [World.size_alloc, World.size_drew, World.size_setCell] <;> omega)) | refine Ext.trans ?_ (by with_reducible assumption)))⟩
  · simp (disch := (first | omega | decide | (simp only [World.size_alloc, World.size_setCell, World.size_drew, size_sets, List.mem_cons, List.not_mem_nil, or_false, not_false_eq_true] <;> omega) | fail)) only [↓rsHead_0, rsHead_1, Option.isNone_some, Option.isNone_none, tick_eq, tickV_eq, ne_eq, Int.reduceAdd, Int.reduceSub, Int.reduceMul, Int.reduceEq, Int.reduceLT, Int.reduceLE, Int.reduceToNat, Nat.reduceMul, Nat.reduceAdd, Nat.reduceSub, List.nil_append, List.cons_append, List.getElem?_toArray, List.getElem?_cons_zero, List.getElem?_cons_succ, List.setIfInBounds_toArray, List.set_cons_zero, List.set_cons_succ, Option.map_some, List.not_mem_nil, ←decide_not, eq_self]
    by_cases g1 : ¬ p = 0
    · have hv : rightV p b true t = false := decide_eq_false (by rw [right_t]; omega)
      simp (disch := (first | omega | decide | (simp only [World.size_alloc, World.size_setCell, World.size_drew, size_sets, List.mem_cons, List.not_mem_nil, or_false, not_false_eq_true] <;> omega) | fail)) only [↓rsHead_0, rsHead_1, Option.isNone_some, Option.isNone_none, tick_eq, tickV_eq, ne_eq, Int.reduceAdd, Int.reduceSub, Int.reduceMul, Int.reduceEq, Int.reduceLT, Int.reduceLE, Int.reduceToNat, Nat.reduceMul, Nat.reduceAdd, Nat.reduceSub, List.nil_append, List.cons_append, List.getElem?_toArray, List.getElem?_cons_zero, List.getElem?_cons_succ, List.setIfInBounds_toArray, List.set_cons_zero, List.set_cons_succ, Option.map_some, List.not_mem_nil, ←decide_not, eq_self, g1, hv]
      exact ⟨by trivial, by (repeat (first | with_reducible exact Ext.refl _ _ | with_reducible assumption | with_reducible refine Ext.alloc' ?_ _ | with_reducible refine Ext.drew' ?_ | with_reducible refine Ext.set' ?_ ?_ | exact .inr (by first | omega | (simp only [World.size_alloc, World.size_drew, World.size_setCell] <;> omega)) | refine Ext.trans ?_ (by with_reducible assumption)))⟩
    replace g1 := Decidable.not_not.1 g1
    by_cases g2 : ¬ b = 0
    · have hv : rightV p b true t = false := decide_eq_false (by rw [right_t]; omega)
      simp (disch := (first | omega | decide | (simp only [World.size_alloc, World.size_setCell, World.size_drew, size_sets, List.mem_cons, List.not_mem_nil, or_false, not_false_eq_true] <;> omega) | fail)) only [↓rsHead_0, rsHead_1, Option.isNone_some, Option.isNone_none, tick_eq, tickV_eq, ne_eq, Int.reduceAdd, Int.reduceSub, Int.reduceMul, Int.reduceEq, Int.reduceLT, Int.reduceLE, Int.reduceToNat, Nat.reduceMul, Nat.reduceAdd, Nat.reduceSub, List.nil_append, List.cons_append, List.getElem?_toArray, List.getElem?_cons_zero, List.getElem?_cons_succ, List.setIfInBounds_toArray, List.set_cons_zero, List.set_cons_succ, Option.map_some, List.not_mem_nil, ←decide_not, eq_true g1, g2, hv]
      exact ⟨by trivial, by (repeat (first | with_reducible exact Ext.refl _ _ | with_reducible assumption | with_reducible refine Ext.alloc' ?_ _ | with_reducible refine Ext.drew' ?_ | with_reducible refine Ext.set' ?_ ?_ | exact .inr (by first | omega | (simp only [World.size_alloc, World.size_drew, World.size_setCell] <;> omega)) | refine Ext.trans ?_ (by with_reducible assumption)))⟩
    replace g2 := Decidable.not_not.1 g2
    by_cases g3 : ¬ 0 ≤ t
    · have hv : rightV p b true t = false := decide_eq_false (by rw [right_t]; omega)
      simp (disch := (first | omega | decide | (simp only [World.size_alloc, World.size_setCell, World.size_drew, size_sets, List.mem_cons, List.not_mem_nil, or_false, not_false_eq_true] <;> omega) | fail)) only [↓rsHead_0, rsHead_1, Option.isNone_some, Option.isNone_none, tick_eq, tickV_eq, ne_eq, Int.reduceAdd, Int.reduceSub, Int.reduceMul, Int.reduceEq, Int.reduceLT, Int.reduceLE, Int.reduceToNat, Nat.reduceMul, Nat.reduceAdd, Nat.reduceSub, List.nil_append, List.cons_append, List.getElem?_toArray, List.getElem?_cons_zero, List.getElem?_cons_succ, List.setIfInBounds_toArray, List.set_cons_zero, List.set_cons_succ, Option.map_some, List.not_mem_nil, ←decide_not, eq_true g1, eq_true g2, g3, hv]
      exact ⟨by trivial, by (repeat (first | with_reducible exact Ext.refl _ _ | with_reducible assumption | with_reducible refine Ext.alloc' ?_ _ | with_reducible refine Ext.drew' ?_ | with_reducible refine Ext.set' ?_ ?_ | exact .inr (by first | omega | (simp only [World.size_alloc, World.size_drew, World.size_setCell] <;> omega)) | refine Ext.trans ?_ (by with_reducible assumption)))⟩
    replace g3 := Decidable.not_not.1 g3
    by_cases g4 : ¬ t < 8192
    · have hv : rightV p b true t = false := decide_eq_false (by rw [right_t]; omega)
      simp (disch := (first | omega | decide | (simp only [World.size_alloc, World.size_setCell, World.size_drew, size_sets, List.mem_cons, List.not_mem_nil, or_false, not_false_eq_true] <;> omega) | fail)) only [↓rsHead_0, rsHead_1, Option.isNone_some, Option.isNone_none, tick_eq, tickV_eq, ne_eq, Int.reduceAdd, Int.reduceSub, Int.reduceMul, Int.reduceEq, Int.reduceLT, Int.reduceLE, Int.reduceToNat, Nat.reduceMul, Nat.reduceAdd, Nat.reduceSub, List.nil_append, List.cons_append, List.getElem?_toArray, List.getElem?_cons_zero, List.getElem?_cons_succ, List.setIfInBounds_toArray, List.set_cons_zero, List.set_cons_succ, Option.map_some, List.not_mem_nil, ←decide_not, eq_true g1, eq_true g2, eq_true g3, g4, hv]
      exact ⟨by trivial, by (repeat (first | with_reducible exact Ext.refl _ _ | with_reducible assumption | with_reducible refine Ext.alloc' ?_ _ | with_reducible refine Ext.drew' ?_ | with_reducible refine Ext.set' ?_ ?_ | exact .inr (by first | omega | (simp only [World.size_alloc, World.size_drew, World.size_setCell] <;> omega)) | refine Ext.trans ?_ (by with_reducible assumption)))⟩
    replace g4 := Decidable.not_not.1 g4
    have hv : rightV p b true t = true := decide_eq_true (by rw [right_t]; omega)
    simp (disch := (first | omega | decide | (simp only [World.size_alloc, World.size_setCell, World.size_drew, size_sets, List.mem_cons, List.not_mem_nil, or_false, not_false_eq_true] <;> omega) | fail)) only [↓rsHead_0, rsHead_1, Option.isNone_some, Option.isNone_none, tick_eq, tickV_eq, ne_eq, Int.reduceAdd, Int.reduceSub, Int.reduceMul, Int.reduceEq, Int.reduceLT, Int.reduceLE, Int.reduceToNat, Nat.reduceMul, Nat.reduceAdd, Nat.reduceSub, List.nil_append, List.cons_append, List.getElem?_toArray, List.getElem?_cons_zero, List.getElem?_cons_succ, List.setIfInBounds_toArray, List.set_cons_zero, List.set_cons_succ, Option.map_some, List.not_mem_nil, ←decide_not, eq_true g1, eq_true g2, eq_true g3, eq_true g4, hv]
    exact ⟨by trivial, by (repeat (first | with_reducible exact Ext.refl _ _ | with_reducible assumption | with_reducible refine Ext.alloc' ?_ _ | with_reducible refine Ext.drew' ?_ | with_reducible refine Ext.set' ?_ ?_ | exact .inr (by first | omega | (simp only [World.size_alloc, World.size_drew, World.size_setCell] <;> omega)) | refine Ext.trans ?_ (by with_reducible assumption)))⟩
abbrev rsHead_2 := (And.intro @xBox_r (And.intro @loadK_some (And.intro @loadsK_s (And.intro @loadsK_n (And.intro @loadsR_s (And.intro @loadsR_n (And.intro @storesK_s (And.intro @storesK_n (And.intro @xPick_t (And.intro @xPick_f (And.intro @xGuard_tt (And.intro @xGuard_ff (And.intro @xGuard_tf (And.intro @xGuard_ft (And.intro @xGuard_u 
  (And.intro @xNil_r (And.intro @xIf_t (And.intro @xBin_add' (And.intro @xBin_sub' (And.intro @xBin_mul' (And.intro @xBin_quo' (And.intro @xBin_rem' (And.intro @xIf_f (And.intro @xIf_tt (And.intro @xEx0 (And.intro @xEx1 (And.intro @xEx2 (And.intro @xEx3 (And.intro @xBin_eqs (And.intro @xBin_nes (And.intro @xUn_not (And.intro @xu8_eql (And.intro @xu8_lss 
  (And.intro @xu8_leq (And.intro @xu8_geq (And.intro @xu16_eql (And.intro @xu16_lss (And.intro @xu16_leq (And.intro @xu16_geq (And.intro @xu32_eql (And.intro @xu32_lss (And.intro @xu32_leq (And.intro @xu32_geq (And.intro @xu64_eql (And.intro @xu64_lss (And.intro @xu64_leq (And.intro @xu64_geq (And.intro @xi64_lss (And.intro @xi64_leq (And.intro @xi64_geq 
  (And.intro @xi64_eql (And.intro @xMakeFunc_r (And.intro @xSq_r (And.intro @xPur_s (And.intro @xRd_s (And.intro @xRe_s (And.intro @xDet_s (And.intro @xDet_ld (And.intro @xDet_ld2 (And.intro @xDet_ld3 (And.intro @xDet_ld4 (And.intro @xGuard_tt (And.intro @ld_3 (And.intro @ld_4 (And.intro @fa_84_0 (And.intro @fa_84_1 (And.intro @fa_84_2 @fa_84_3)))))))))))))))))))))))))))))))))))))))))))))))))))))))))))))))))))
theorem rRight_spec (p b : Int) (m : Bool) (t : Int) (w : World) : Gives Try.prog n_loamref14_Right #[hd p b m t] w (.bool (rightV p b m t)) := by
  refine loamref14_Right_of ?_
  unfold loamref14_Right
  simp (disch := (first | omega | decide | (simp only [World.size_alloc, World.size_setCell, World.size_drew, size_sets, List.mem_cons, List.not_mem_nil, or_false, not_false_eq_true] <;> omega) | fail)) only [↓rsHead_2, rsHead_1, Option.isNone_some, Option.isNone_none, tick_eq, tickV_eq, ne_eq, Int.reduceAdd, Int.reduceSub, Int.reduceMul, Int.reduceEq, Int.reduceLT, Int.reduceLE, Int.reduceToNat, Nat.reduceMul, Nat.reduceAdd, Nat.reduceSub, List.nil_append, List.cons_append, List.getElem?_toArray, List.getElem?_cons_zero, List.getElem?_cons_succ, List.setIfInBounds_toArray, List.set_cons_zero, List.set_cons_succ, Option.map_some, List.not_mem_nil, ←decide_not, eq_self]
  cases m
  · simp (disch := (first | omega | decide | (simp only [World.size_alloc, World.size_setCell, World.size_drew, size_sets, List.mem_cons, List.not_mem_nil, or_false, not_false_eq_true] <;> omega) | fail)) only [↓rsHead_2, rsHead_1, Option.isNone_some, Option.isNone_none, tick_eq, tickV_eq, ne_eq, Int.reduceAdd, Int.reduceSub, Int.reduceMul, Int.reduceEq, Int.reduceLT, Int.reduceLE, Int.reduceToNat, Nat.reduceMul, Nat.reduceAdd, Nat.reduceSub, List.nil_append, List.cons_append, List.getElem?_toArray, List.getElem?_cons_zero, List.getElem?_cons_succ, List.setIfInBounds_toArray, List.set_cons_zero, List.set_cons_succ, Option.map_some, List.not_mem_nil, ←decide_not, eq_self]
    by_cases g2 : ¬ 0 ≤ p
    · have hv : rightV p b false t = false := decide_eq_false (by rw [right_f]; omega)
      simp (disch := (first | omega | decide | (simp only [World.size_alloc, World.size_setCell, World.size_drew, size_sets, List.mem_cons, List.not_mem_nil, or_false, not_false_eq_true] <;> omega) | fail)) only [↓rsHead_2, rsHead_1, Option.isNone_some, Option.isNone_none, tick_eq, tickV_eq, ne_eq, Int.reduceAdd, Int.reduceSub, Int.reduceMul, Int.reduceEq, Int.reduceLT, Int.reduceLE, Int.reduceToNat, Nat.reduceMul, Nat.reduceAdd, Nat.reduceSub, List.nil_append, List.cons_append, List.getElem?_toArray, List.getElem?_cons_zero, List.getElem?_cons_succ, List.setIfInBounds_toArray, List.set_cons_zero, List.set_cons_succ, Option.map_some, List.not_mem_nil, ←decide_not, eq_self, g2, hv]
      exact ⟨by trivial, by (repeat (first | with_reducible exact Ext.refl _ _ | with_reducible assumption | with_reducible refine Ext.alloc' ?_ _ | with_reducible refine Ext.drew' ?_ | with_reducible refine Ext.set' ?_ ?_ | exact .inr (by first | omega | (simp only [World.size_alloc, World.size_drew, World.size_setCell] <;> omega)) | refine Ext.trans ?_ (by with_reducible assumption)))⟩
    replace g2 := Decidable.not_not.1 g2
    by_cases g3 : ¬ p ≤ 64
    · have hv : rightV p b false t = false := decide_eq_false (by rw [right_f]; omega)
      simp (disch := (first | omega | decide | (simp only [World.size_alloc, World.size_setCell, World.size_drew, size_sets, List.mem_cons, List.not_mem_nil, or_false, not_false_eq_true] <;> omega) | fail)) only [↓rsHead_2, rsHead_1, Option.isNone_some, Option.isNone_none, tick_eq, tickV_eq, ne_eq, Int.reduceAdd, Int.reduceSub, Int.reduceMul, Int.reduceEq, Int.reduceLT, Int.reduceLE, Int.reduceToNat, Nat.reduceMul, Nat.reduceAdd, Nat.reduceSub, List.nil_append, List.cons_append, List.getElem?_toArray, List.getElem?_cons_zero, List.getElem?_cons_succ, List.setIfInBounds_toArray, List.set_cons_zero, List.set_cons_succ, Option.map_some, List.not_mem_nil, ←decide_not, eq_true g2, g3, hv]
      exact ⟨by trivial, by (repeat (first | with_reducible exact Ext.refl _ _ | with_reducible assumption | with_reducible refine Ext.alloc' ?_ _ | with_reducible refine Ext.drew' ?_ | with_reducible refine Ext.set' ?_ ?_ | exact .inr (by first | omega | (simp only [World.size_alloc, World.size_drew, World.size_setCell] <;> omega)) | refine Ext.trans ?_ (by with_reducible assumption)))⟩
    replace g3 := Decidable.not_not.1 g3
    by_cases g4 : ¬ 0 ≤ b
    · have hv : rightV p b false t = false := decide_eq_false (by rw [right_f]; omega)
      simp (disch := (first | omega | decide | (simp only [World.size_alloc, World.size_setCell, World.size_drew, size_sets, List.mem_cons, List.not_mem_nil, or_false, not_false_eq_true] <;> omega) | fail)) only [↓rsHead_2, rsHead_1, Option.isNone_some, Option.isNone_none, tick_eq, tickV_eq, ne_eq, Int.reduceAdd, Int.reduceSub, Int.reduceMul, Int.reduceEq, Int.reduceLT, Int.reduceLE, Int.reduceToNat, Nat.reduceMul, Nat.reduceAdd, Nat.reduceSub, List.nil_append, List.cons_append, List.getElem?_toArray, List.getElem?_cons_zero, List.getElem?_cons_succ, List.setIfInBounds_toArray, List.set_cons_zero, List.set_cons_succ, Option.map_some, List.not_mem_nil, ←decide_not, eq_true g2, eq_true g3, g4, hv]
      exact ⟨by trivial, by (repeat (first | with_reducible exact Ext.refl _ _ | with_reducible assumption | with_reducible refine Ext.alloc' ?_ _ | with_reducible refine Ext.drew' ?_ | with_reducible refine Ext.set' ?_ ?_ | exact .inr (by first | omega | (simp only [World.size_alloc, World.size_drew, World.size_setCell] <;> omega)) | refine Ext.trans ?_ (by with_reducible assumption)))⟩
    replace g4 := Decidable.not_not.1 g4
    by_cases g5 : ¬ b ≤ 1024
    · have hv : rightV p b false t = false := decide_eq_false (by rw [right_f]; omega)
      simp (disch := (first | omega | decide | (simp only [World.size_alloc, World.size_setCell, World.size_drew, size_sets, List.mem_cons, List.not_mem_nil, or_false, not_false_eq_true] <;> omega) | fail)) only [↓rsHead_2, rsHead_1, Option.isNone_some, Option.isNone_none, tick_eq, tickV_eq, ne_eq, Int.reduceAdd, Int.reduceSub, Int.reduceMul, Int.reduceEq, Int.reduceLT, Int.reduceLE, Int.reduceToNat, Nat.reduceMul, Nat.reduceAdd, Nat.reduceSub, List.nil_append, List.cons_append, List.getElem?_toArray, List.getElem?_cons_zero, List.getElem?_cons_succ, List.setIfInBounds_toArray, List.set_cons_zero, List.set_cons_succ, Option.map_some, List.not_mem_nil, ←decide_not, eq_true g2, eq_true g3, eq_true g4, g5, hv]
      exact ⟨by trivial, by (repeat (first | with_reducible exact Ext.refl _ _ | with_reducible assumption | with_reducible refine Ext.alloc' ?_ _ | with_reducible refine Ext.drew' ?_ | with_reducible refine Ext.set' ?_ ?_ | exact .inr (by first | omega | (simp only [World.size_alloc, World.size_drew, World.size_setCell] <;> omega)) | refine Ext.trans ?_ (by with_reducible assumption)))⟩
    replace g5 := Decidable.not_not.1 g5
    by_cases g1 : ¬ t = 0
    · have hv : rightV p b false t = false := decide_eq_false (by rw [right_f]; omega)
      simp (disch := (first | omega | decide | (simp only [World.size_alloc, World.size_setCell, World.size_drew, size_sets, List.mem_cons, List.not_mem_nil, or_false, not_false_eq_true] <;> omega) | fail)) only [↓rsHead_2, rsHead_1, Option.isNone_some, Option.isNone_none, tick_eq, tickV_eq, ne_eq, Int.reduceAdd, Int.reduceSub, Int.reduceMul, Int.reduceEq, Int.reduceLT, Int.reduceLE, Int.reduceToNat, Nat.reduceMul, Nat.reduceAdd, Nat.reduceSub, List.nil_append, List.cons_append, List.getElem?_toArray, List.getElem?_cons_zero, List.getElem?_cons_succ, List.setIfInBounds_toArray, List.set_cons_zero, List.set_cons_succ, Option.map_some, List.not_mem_nil, ←decide_not, eq_true g2, eq_true g3, eq_true g4, eq_true g5, g1, hv]
      exact ⟨by trivial, by (repeat (first | with_reducible exact Ext.refl _ _ | with_reducible assumption | with_reducible refine Ext.alloc' ?_ _ | with_reducible refine Ext.drew' ?_ | with_reducible refine Ext.set' ?_ ?_ | exact .inr (by first | omega | (simp only [World.size_alloc, World.size_drew, World.size_setCell] <;> omega)) | refine Ext.trans ?_ (by with_reducible assumption)))⟩
    replace g1 := Decidable.not_not.1 g1
    have hv : rightV p b false t = true := decide_eq_true (by rw [right_f]; omega)
    simp (disch := (first | omega | decide | (simp only [World.size_alloc, World.size_setCell, World.size_drew, size_sets, List.mem_cons, List.not_mem_nil, or_false, not_false_eq_true] <;> omega) | fail)) only [↓rsHead_2, rsHead_1, Option.isNone_some, Option.isNone_none, tick_eq, tickV_eq, ne_eq, Int.reduceAdd, Int.reduceSub, Int.reduceMul, Int.reduceEq, Int.reduceLT, Int.reduceLE, Int.reduceToNat, Nat.reduceMul, Nat.reduceAdd, Nat.reduceSub, List.nil_append, List.cons_append, List.getElem?_toArray, List.getElem?_cons_zero, List.getElem?_cons_succ, List.setIfInBounds_toArray, List.set_cons_zero, List.set_cons_succ, Option.map_some, List.not_mem_nil, ←decide_not, eq_true g2, eq_true g3, eq_true g4, eq_true g5, eq_true g1, hv]
    exact ⟨by trivial, by (repeat (first | with_reducible exact Ext.refl _ _ | with_reducible assumption | with_reducible refine Ext.alloc' ?_ _ | with_reducible refine Ext.drew' ?_ | with_reducible refine Ext.set' ?_ ?_ | exact .inr (by first | omega | (simp only [World.size_alloc, World.size_drew, World.size_setCell] <;> omega)) | refine Ext.trans ?_ (by with_reducible assumption)))⟩
  · simp (disch := (first | omega | decide | (simp only [World.size_alloc, World.size_setCell, World.size_drew, size_sets, List.mem_cons, List.not_mem_nil, or_false, not_false_eq_true] <;> omega) | fail)) only [↓rsHead_2, rsHead_1, Option.isNone_some, Option.isNone_none, tick_eq, tickV_eq, ne_eq, Int.reduceAdd, Int.reduceSub, Int.reduceMul, Int.reduceEq, Int.reduceLT, Int.reduceLE, Int.reduceToNat, Nat.reduceMul, Nat.reduceAdd, Nat.reduceSub, List.nil_append, List.cons_append, List.getElem?_toArray, List.getElem?_cons_zero, List.getElem?_cons_succ, List.setIfInBounds_toArray, List.set_cons_zero, List.set_cons_succ, Option.map_some, List.not_mem_nil, ←decide_not, eq_self]
    by_cases g1 : ¬ p = 0
    · have hv : rightV p b true t = false := decide_eq_false (by rw [right_t]; omega)
      simp (disch := (first | omega | decide | (simp only [World.size_alloc, World.size_setCell, World.size_drew, size_sets, List.mem_cons, List.not_mem_nil, or_false, not_false_eq_true] <;> omega) | fail)) only [↓rsHead_2, rsHead_1, Option.isNone_some, Option.isNone_none, tick_eq, tickV_eq, ne_eq, Int.reduceAdd, Int.reduceSub, Int.reduceMul, Int.reduceEq, Int.reduceLT, Int.reduceLE, Int.reduceToNat, Nat.reduceMul, Nat.reduceAdd, Nat.reduceSub, List.nil_append, List.cons_append, List.getElem?_toArray, List.getElem?_cons_zero, List.getElem?_cons_succ, List.setIfInBounds_toArray, List.set_cons_zero, List.set_cons_succ, Option.map_some, List.not_mem_nil, ←decide_not, eq_self, g1, hv]
      exact ⟨by trivial, by (repeat (first | with_reducible exact Ext.refl _ _ | with_reducible assumption | with_reducible refine Ext.alloc' ?_ _ | with_reducible refine Ext.drew' ?_ | with_reducible refine Ext.set' ?_ ?_ | exact .inr (by first | omega | (simp only [World.size_alloc, World.size_drew, World.size_setCell] <;> omega)) | refine Ext.trans ?_ (by with_reducible assumption)))⟩
    replace g1 := Decidable.not_not.1 g1
    by_cases g2 : ¬ b = 0
    · have hv : rightV p b true t = false := decide_eq_false (by rw [right_t]; omega)
      simp (disch := (first | omega | decide | (simp only [World.size_alloc, World.size_setCell, World.size_drew, size_sets, List.mem_cons, List.not_mem_nil, or_false, not_false_eq_true] <;> omega) | fail)) only [↓rsHead_2, rsHead_1, Option.isNone_some, Option.isNone_none, tick_eq, tickV_eq, ne_eq, Int.reduceAdd, Int.reduceSub, Int.reduceMul, Int.reduceEq, Int.reduceLT, Int.reduceLE, Int.reduceToNat, Nat.reduceMul, Nat.reduceAdd, Nat.reduceSub, List.nil_append, List.cons_append, List.getElem?_toArray, List.getElem?_cons_zero, List.getElem?_cons_succ, List.setIfInBounds_toArray, List.set_cons_zero, List.set_cons_succ, Option.map_some, List.not_mem_nil, ←decide_not, eq_true g1, g2, hv]
      exact ⟨by trivial, by (repeat (first | with_reducible exact Ext.refl _ _ | with_reducible assumption | with_reducible refine Ext.alloc' ?_ _ | with_reducible refine Ext.drew' ?_ | with_reducible refine Ext.set' ?_ ?_ | exact .inr (by first | omega | (simp only [World.size_alloc, World.size_drew, World.size_setCell] <;> omega)) | refine Ext.trans ?_ (by with_reducible assumption)))⟩
    replace g2 := Decidable.not_not.1 g2
    by_cases g3 : ¬ 0 ≤ t
    · have hv : rightV p b true t = false := decide_eq_false (by rw [right_t]; omega)
      simp (disch := (first | omega | decide | (simp only [World.size_alloc, World.size_setCell, World.size_drew, size_sets, List.mem_cons, List.not_mem_nil, or_false, not_false_eq_true] <;> omega) | fail)) only [↓rsHead_2, rsHead_1, Option.isNone_some, Option.isNone_none, tick_eq, tickV_eq, ne_eq, Int.reduceAdd, Int.reduceSub, Int.reduceMul, Int.reduceEq, Int.reduceLT, Int.reduceLE, Int.reduceToNat, Nat.reduceMul, Nat.reduceAdd, Nat.reduceSub, List.nil_append, List.cons_append, List.getElem?_toArray, List.getElem?_cons_zero, List.getElem?_cons_succ, List.setIfInBounds_toArray, List.set_cons_zero, List.set_cons_succ, Option.map_some, List.not_mem_nil, ←decide_not, eq_true g1, eq_true g2, g3, hv]
      exact ⟨by trivial, by (repeat (first | with_reducible exact Ext.refl _ _ | with_reducible assumption | with_reducible refine Ext.alloc' ?_ _ | with_reducible refine Ext.drew' ?_ | with_reducible refine Ext.set' ?_ ?_ | exact .inr (by first | omega | (simp only [World.size_alloc, World.size_drew, World.size_setCell] <;> omega)) | refine Ext.trans ?_ (by with_reducible assumption)))⟩
    replace g3 := Decidable.not_not.1 g3
    by_cases g4 : ¬ t < 8192
    · have hv : rightV p b true t = false := decide_eq_false (by rw [right_t]; omega)
      simp (disch := (first | omega | decide | (simp only [World.size_alloc, World.size_setCell, World.size_drew, size_sets, List.mem_cons, List.not_mem_nil, or_false, not_false_eq_true] <;> omega) | fail)) only [↓rsHead_2, rsHead_1, Option.isNone_some, Option.isNone_none, tick_eq, tickV_eq, ne_eq, Int.reduceAdd, Int.reduceSub, Int.reduceMul, Int.reduceEq, Int.reduceLT, Int.reduceLE, Int.reduceToNat, Nat.reduceMul, Nat.reduceAdd, Nat.reduceSub, List.nil_append, List.cons_append, List.getElem?_toArray, List.getElem?_cons_zero, List.getElem?_cons_succ, List.setIfInBounds_toArray, List.set_cons_zero, List.set_cons_succ, Option.map_some, List.not_mem_nil, ←decide_not, eq_true g1, eq_true g2, eq_true g3, g4, hv]
      exact ⟨by trivial, by (repeat (first | with_reducible exact Ext.refl _ _ | with_reducible assumption | with_reducible refine Ext.alloc' ?_ _ | with_reducible refine Ext.drew' ?_ | with_reducible refine Ext.set' ?_ ?_ | exact .inr (by first | omega | (simp only [World.size_alloc, World.size_drew, World.size_setCell] <;> omega)) | refine Ext.trans ?_ (by with_reducible assumption)))⟩
    replace g4 := Decidable.not_not.1 g4
    have hv : rightV p b true t = true := decide_eq_true (by rw [right_t]; omega)
    simp (disch := (first | omega | decide | (simp only [World.size_alloc, World.size_setCell, World.size_drew, size_sets, List.mem_cons, List.not_mem_nil, or_false, not_false_eq_true] <;> omega) | fail)) only [↓rsHead_2, rsHead_1, Option.isNone_some, Option.isNone_none, tick_eq, tickV_eq, ne_eq, Int.reduceAdd, Int.reduceSub, Int.reduceMul, Int.reduceEq, Int.reduceLT, Int.reduceLE, Int.reduceToNat, Nat.reduceMul, Nat.reduceAdd, Nat.reduceSub, List.nil_append, List.cons_append, List.getElem?_toArray, List.getElem?_cons_zero, List.getElem?_cons_succ, List.setIfInBounds_toArray, List.set_cons_zero, List.set_cons_succ, Option.map_some, List.not_mem_nil, ←decide_not, eq_true g1, eq_true g2, eq_true g3, eq_true g4, hv]
    exact ⟨by trivial, by (repeat (first | with_reducible exact Ext.refl _ _ | with_reducible assumption | with_reducible refine Ext.alloc' ?_ _ | with_reducible refine Ext.drew' ?_ | with_reducible refine Ext.set' ?_ ?_ | exact .inr (by first | omega | (simp only [World.size_alloc, World.size_drew, World.size_setCell] <;> omega)) | refine Ext.trans ?_ (by with_reducible assumption)))⟩
abbrev rsHead_3 := (And.intro @xBox_r (And.intro @loadK_some (And.intro @loadsK_s (And.intro @loadsK_n (And.intro @loadsR_s (And.intro @loadsR_n (And.intro @storesK_s (And.intro @storesK_n (And.intro @xPick_t (And.intro @xPick_f (And.intro @xGuard_tt (And.intro @xGuard_ff (And.intro @xGuard_tf (And.intro @xGuard_ft (And.intro @xGuard_u 
  (And.intro @xNil_r (And.intro @xIf_t (And.intro @xBin_add' (And.intro @xBin_sub' (And.intro @xBin_mul' (And.intro @xBin_quo' (And.intro @xBin_rem' (And.intro @xIf_f (And.intro @xIf_tt (And.intro @xEx0 (And.intro @xEx1 (And.intro @xEx2 (And.intro @xEx3 (And.intro @xBin_eqs (And.intro @xBin_nes (And.intro @xUn_not (And.intro @xu8_or (And.intro @xu8_com 
  (And.intro @xu16_or (And.intro @xu16_com (And.intro @xu32_or (And.intro @xu32_com (And.intro @xu64_or (And.intro @xu64_com (And.intro @xi64_or (And.intro @xMakeFunc_r (And.intro @xSq_r (And.intro @xPur_s (And.intro @xRd_s (And.intro @xRe_s (And.intro @xDet_s (And.intro @xDet_ld (And.intro @xDet_ld2 (And.intro @xDet_ld3 (And.intro @xDet_ld4 (And.intro @xGuard_tt 
  (And.intro @ld_3 (And.intro @ld_4 (And.intro @ld_123 (And.intro @fa_123_0 (And.intro @fa_123_1 (And.intro @fa_123_2 (And.intro @fa_123_3 @cv_3_69))))))))))))))))))))))))))))))))))))))))))))))))))))))))))
theorem Pack_spec (p b : Int) (m : Bool) (t : Int) (w : World) : Gives Try.prog n_head_Pack #[hd p b m t] w (.tuple #[u64 (packW p b m t), i64 (packE p b m t)]) := by
  refine head_Pack_of ?_
  unfold head_Pack
  simp (disch := (first | omega | decide | (simp only [World.size_alloc, World.size_setCell, World.size_drew, size_sets, List.mem_cons, List.not_mem_nil, or_false, not_false_eq_true] <;> omega) | fail)) only [↓rsHead_3, rsHead_1, Option.isNone_some, Option.isNone_none, tick_eq, tickV_eq, ne_eq, Int.reduceAdd, Int.reduceSub, Int.reduceMul, Int.reduceEq, Int.reduceLT, Int.reduceLE, Int.reduceToNat, Nat.reduceMul, Nat.reduceAdd, Nat.reduceSub, List.nil_append, List.cons_append, List.getElem?_toArray, List.getElem?_cons_zero, List.getElem?_cons_succ, List.setIfInBounds_toArray, List.set_cons_zero, List.set_cons_succ, Option.map_some, List.not_mem_nil, ←decide_not, eq_self]
  refine head_Right_call (Gives.to (Right_spec _ _ _ _ _) fun w1 E1 => ?_)
  have z1 := E1.size
  try simp only [World.size_alloc, World.size_setCell, World.size_drew] at z1
  have e1_0 : ∀ o, w1.cell? ⟨w.heap.size, o, none⟩ = _ := fun o => E1.cell_o (by first | omega | (simp only [World.size_alloc, World.size_setCell, World.size_drew, size_sets] <;> omega))
  by_cases h : rightP p b m t
  rotate_left
  · have h1 : rightV p b m t = false := decide_eq_false h
    simp (disch := (first | omega | decide | (simp only [World.size_alloc, World.size_setCell, World.size_drew, size_sets, List.mem_cons, List.not_mem_nil, or_false, not_false_eq_true] <;> omega) | fail)) only [↓rsHead_3, rsHead_1, Option.isNone_some, Option.isNone_none, tick_eq, tickV_eq, ne_eq, Int.reduceAdd, Int.reduceSub, Int.reduceMul, Int.reduceEq, Int.reduceLT, Int.reduceLE, Int.reduceToNat, Nat.reduceMul, Nat.reduceAdd, Nat.reduceSub, List.nil_append, List.cons_append, List.getElem?_toArray, List.getElem?_cons_zero, List.getElem?_cons_succ, List.setIfInBounds_toArray, List.set_cons_zero, List.set_cons_succ, Option.map_some, List.not_mem_nil, ←decide_not, e1_0, h1]
    exact ⟨by simp only [packW, packE, if_neg h], by (repeat (first | with_reducible exact Ext.refl _ _ | with_reducible assumption | with_reducible refine Ext.alloc' ?_ _ | with_reducible refine Ext.drew' ?_ | with_reducible refine Ext.set' ?_ ?_ | exact .inr (by first | omega | (simp only [World.size_alloc, World.size_drew, World.size_setCell] <;> omega)) | refine Ext.trans ?_ (by with_reducible assumption)))⟩
  have h1 : rightV p b m t = true := decide_eq_true h
  cases m
  · simp (disch := (first | omega | decide | (simp only [World.size_alloc, World.size_setCell, World.size_drew, size_sets, List.mem_cons, List.not_mem_nil, or_false, not_false_eq_true] <;> omega) | fail)) only [↓rsHead_3, rsHead_1, Option.isNone_some, Option.isNone_none, tick_eq, tickV_eq, ne_eq, Int.reduceAdd, Int.reduceSub, Int.reduceMul, Int.reduceEq, Int.reduceLT, Int.reduceLE, Int.reduceToNat, Nat.reduceMul, Nat.reduceAdd, Nat.reduceSub, List.nil_append, List.cons_append, List.getElem?_toArray, List.getElem?_cons_zero, List.getElem?_cons_succ, List.setIfInBounds_toArray, List.set_cons_zero, List.set_cons_succ, Option.map_some, List.not_mem_nil, ←decide_not, e1_0, h1]
    refine xDraw_ext [] [] ?_
    simp (disch := (first | omega | decide | (simp only [World.size_alloc, World.size_setCell, World.size_drew, size_sets, List.mem_cons, List.not_mem_nil, or_false, not_false_eq_true] <;> omega) | fail)) only [↓rsHead_3, rsHead_1, Option.isNone_some, Option.isNone_none, tick_eq, tickV_eq, ne_eq, Int.reduceAdd, Int.reduceSub, Int.reduceMul, Int.reduceEq, Int.reduceLT, Int.reduceLE, Int.reduceToNat, Nat.reduceMul, Nat.reduceAdd, Nat.reduceSub, List.nil_append, List.cons_append, List.getElem?_toArray, List.getElem?_cons_zero, List.getElem?_cons_succ, List.setIfInBounds_toArray, List.set_cons_zero, List.set_cons_succ, Option.map_some, List.not_mem_nil, ←decide_not, e1_0, h1]
    apply xDet_x
    · exact fun w hw => bits_With_call (Gives.lq (With_spec _ _ _ _ _))
    simp (disch := (first | omega | decide | (simp only [World.size_alloc, World.size_setCell, World.size_drew, size_sets, List.mem_cons, List.not_mem_nil, or_false, not_false_eq_true] <;> omega) | fail)) only [↓rsHead_3, rsHead_1, Option.isNone_some, Option.isNone_none, tick_eq, tickV_eq, ne_eq, Int.reduceAdd, Int.reduceSub, Int.reduceMul, Int.reduceEq, Int.reduceLT, Int.reduceLE, Int.reduceToNat, Nat.reduceMul, Nat.reduceAdd, Nat.reduceSub, List.nil_append, List.cons_append, List.getElem?_toArray, List.getElem?_cons_zero, List.getElem?_cons_succ, List.setIfInBounds_toArray, List.set_cons_zero, List.set_cons_succ, Option.map_some, List.not_mem_nil, ←decide_not, e1_0, h1]
    apply xDet_x
    · exact fun w hw => bits_With_call (Gives.lq (With_spec _ _ _ _ _))
    simp (disch := (first | omega | decide | (simp only [World.size_alloc, World.size_setCell, World.size_drew, size_sets, List.mem_cons, List.not_mem_nil, or_false, not_false_eq_true] <;> omega) | fail)) only [↓rsHead_3, rsHead_1, Option.isNone_some, Option.isNone_none, tick_eq, tickV_eq, ne_eq, Int.reduceAdd, Int.reduceSub, Int.reduceMul, Int.reduceEq, Int.reduceLT, Int.reduceLE, Int.reduceToNat, Nat.reduceMul, Nat.reduceAdd, Nat.reduceSub, List.nil_append, List.cons_append, List.getElem?_toArray, List.getElem?_cons_zero, List.getElem?_cons_succ, List.setIfInBounds_toArray, List.set_cons_zero, List.set_cons_succ, Option.map_some, List.not_mem_nil, ←decide_not, e1_0, h1]
    refine xEnd_i fun w9 hw => ⟨?_, Ext.trans ?_ hw.ext⟩
    · have hr := right_f.1 h
      rw [pack_with_n (by omega) (by omega)]
      simp only [packW, packE, packI, if_pos h, Bool.false_eq_true, if_false]
    · (repeat (first | with_reducible exact Ext.refl _ _ | with_reducible assumption | with_reducible refine Ext.alloc' ?_ _ | with_reducible refine Ext.drew' ?_ | with_reducible refine Ext.set' ?_ ?_ | exact .inr (by first | omega | (simp only [World.size_alloc, World.size_drew, World.size_setCell] <;> omega)) | refine Ext.trans ?_ (by with_reducible assumption)))
  · simp (disch := (first | omega | decide | (simp only [World.size_alloc, World.size_setCell, World.size_drew, size_sets, List.mem_cons, List.not_mem_nil, or_false, not_false_eq_true] <;> omega) | fail)) only [↓rsHead_3, rsHead_1, Option.isNone_some, Option.isNone_none, tick_eq, tickV_eq, ne_eq, Int.reduceAdd, Int.reduceSub, Int.reduceMul, Int.reduceEq, Int.reduceLT, Int.reduceLE, Int.reduceToNat, Nat.reduceMul, Nat.reduceAdd, Nat.reduceSub, List.nil_append, List.cons_append, List.getElem?_toArray, List.getElem?_cons_zero, List.getElem?_cons_succ, List.setIfInBounds_toArray, List.set_cons_zero, List.set_cons_succ, Option.map_some, List.not_mem_nil, ←decide_not, e1_0, h1]
    refine bits_With_call (Gives.to (With_spec _ _ _ _ _) fun w2 E2 => ?_)
    have z2 := E2.size
    try simp only [World.size_alloc, World.size_setCell, World.size_drew] at z2
    simp (disch := (first | omega | decide | (simp only [World.size_alloc, World.size_setCell, World.size_drew, size_sets, List.mem_cons, List.not_mem_nil, or_false, not_false_eq_true] <;> omega) | fail)) only [↓rsHead_3, rsHead_1, Option.isNone_some, Option.isNone_none, tick_eq, tickV_eq, ne_eq, Int.reduceAdd, Int.reduceSub, Int.reduceMul, Int.reduceEq, Int.reduceLT, Int.reduceLE, Int.reduceToNat, Nat.reduceMul, Nat.reduceAdd, Nat.reduceSub, List.nil_append, List.cons_append, List.getElem?_toArray, List.getElem?_cons_zero, List.getElem?_cons_succ, List.setIfInBounds_toArray, List.set_cons_zero, List.set_cons_succ, Option.map_some, List.not_mem_nil, ←decide_not, e1_0, h1]
    refine ⟨?_, by (repeat (first | with_reducible exact Ext.refl _ _ | with_reducible assumption | with_reducible refine Ext.alloc' ?_ _ | with_reducible refine Ext.drew' ?_ | with_reducible refine Ext.set' ?_ ?_ | exact .inr (by first | omega | (simp only [World.size_alloc, World.size_drew, World.size_setCell] <;> omega)) | refine Ext.trans ?_ (by with_reducible assumption)))⟩
    have hr := right_t.1 h
    rw [pack_with_m (by omega)]
    simp only [packW, packE, packI, if_pos h, if_true]
abbrev rsHead_4 := (And.intro @xBox_r (And.intro @loadK_some (And.intro @loadsK_s (And.intro @loadsK_n (And.intro @loadsR_s (And.intro @loadsR_n (And.intro @storesK_s (And.intro @storesK_n (And.intro @xPick_t (And.intro @xPick_f (And.intro @xGuard_tt (And.intro @xGuard_ff (And.intro @xGuard_tf (And.intro @xGuard_ft (And.intro @xGuard_u 
  (And.intro @xNil_r (And.intro @xIf_t (And.intro @xBin_add' (And.intro @xBin_sub' (And.intro @xBin_mul' (And.intro @xBin_quo' (And.intro @xBin_rem' (And.intro @xIf_f (And.intro @xIf_tt (And.intro @xEx0 (And.intro @xEx1 (And.intro @xEx2 (And.intro @xEx3 (And.intro @xBin_eqs (And.intro @xBin_nes (And.intro @xUn_not (And.intro @xu8_add (And.intro @xu8_com 
  (And.intro @xu8_shl (And.intro @xu16_add (And.intro @xu16_com (And.intro @xu16_shl (And.intro @xu32_add (And.intro @xu32_com (And.intro @xu32_shl (And.intro @xu64_add (And.intro @xu64_com (And.intro @xu64_shl (And.intro @xi64_shl (And.intro @xMakeFunc_r (And.intro @xSq_r (And.intro @xPur_s (And.intro @xRd_s (And.intro @xRe_s (And.intro @xDet_s 
  (And.intro @xDet_ld (And.intro @xDet_ld2 (And.intro @xDet_ld3 (And.intro @xDet_ld4 (And.intro @xGuard_tt (And.intro @ld_3 (And.intro @ld_4 (And.intro @ld_84 (And.intro @fa_84_0 (And.intro @fa_84_1 (And.intro @fa_84_2 (And.intro @fa_84_3 @cv_3_69))))))))))))))))))))))))))))))))))))))))))))))))))))))))))))))
theorem rPack_spec (p b : Int) (m : Bool) (t : Int) (w : World) : Gives Try.prog n_loamref14_Pack #[hd p b m t] w (.tuple #[u64 (packW p b m t), i64 (packE p b m t)]) := by
  refine loamref14_Pack_of ?_
  unfold loamref14_Pack
  simp (disch := (first | omega | decide | (simp only [World.size_alloc, World.size_setCell, World.size_drew, size_sets, List.mem_cons, List.not_mem_nil, or_false, not_false_eq_true] <;> omega) | fail)) only [↓rsHead_4, rsHead_1, Option.isNone_some, Option.isNone_none, tick_eq, tickV_eq, ne_eq, Int.reduceAdd, Int.reduceSub, Int.reduceMul, Int.reduceEq, Int.reduceLT, Int.reduceLE, Int.reduceToNat, Nat.reduceMul, Nat.reduceAdd, Nat.reduceSub, List.nil_append, List.cons_append, List.getElem?_toArray, List.getElem?_cons_zero, List.getElem?_cons_succ, List.setIfInBounds_toArray, List.set_cons_zero, List.set_cons_succ, Option.map_some, List.not_mem_nil, ←decide_not, eq_self]
  refine loamref14_Right_call (Gives.to (rRight_spec _ _ _ _ _) fun w1 E1 => ?_)
  have z1 := E1.size
  try simp only [World.size_alloc, World.size_setCell, World.size_drew] at z1
  have e1_0 : ∀ o, w1.cell? ⟨w.heap.size, o, none⟩ = _ := fun o => E1.cell_o (by first | omega | (simp only [World.size_alloc, World.size_setCell, World.size_drew, size_sets] <;> omega))
  by_cases h : rightP p b m t
  rotate_left
  · have h1 : rightV p b m t = false := decide_eq_false h
    simp (disch := (first | omega | decide | (simp only [World.size_alloc, World.size_setCell, World.size_drew, size_sets, List.mem_cons, List.not_mem_nil, or_false, not_false_eq_true] <;> omega) | fail)) only [↓rsHead_4, rsHead_1, Option.isNone_some, Option.isNone_none, tick_eq, tickV_eq, ne_eq, Int.reduceAdd, Int.reduceSub, Int.reduceMul, Int.reduceEq, Int.reduceLT, Int.reduceLE, Int.reduceToNat, Nat.reduceMul, Nat.reduceAdd, Nat.reduceSub, List.nil_append, List.cons_append, List.getElem?_toArray, List.getElem?_cons_zero, List.getElem?_cons_succ, List.setIfInBounds_toArray, List.set_cons_zero, List.set_cons_succ, Option.map_some, List.not_mem_nil, ←decide_not, e1_0, h1]
    exact ⟨by simp only [packW, packE, if_neg h], by (repeat (first | with_reducible exact Ext.refl _ _ | with_reducible assumption | with_reducible refine Ext.alloc' ?_ _ | with_reducible refine Ext.drew' ?_ | with_reducible refine Ext.set' ?_ ?_ | exact .inr (by first | omega | (simp only [World.size_alloc, World.size_drew, World.size_setCell] <;> omega)) | refine Ext.trans ?_ (by with_reducible assumption)))⟩
  have h1 : rightV p b m t = true := decide_eq_true h
  cases m
  · simp (disch := (first | omega | decide | (simp only [World.size_alloc, World.size_setCell, World.size_drew, size_sets, List.mem_cons, List.not_mem_nil, or_false, not_false_eq_true] <;> omega) | fail)) only [↓rsHead_4, rsHead_1, Option.isNone_some, Option.isNone_none, tick_eq, tickV_eq, ne_eq, Int.reduceAdd, Int.reduceSub, Int.reduceMul, Int.reduceEq, Int.reduceLT, Int.reduceLE, Int.reduceToNat, Nat.reduceMul, Nat.reduceAdd, Nat.reduceSub, List.nil_append, List.cons_append, List.getElem?_toArray, List.getElem?_cons_zero, List.getElem?_cons_succ, List.setIfInBounds_toArray, List.set_cons_zero, List.set_cons_succ, Option.map_some, List.not_mem_nil, ←decide_not, e1_0, h1]
    refine ⟨?_, by (repeat (first | with_reducible exact Ext.refl _ _ | with_reducible assumption | with_reducible refine Ext.alloc' ?_ _ | with_reducible refine Ext.drew' ?_ | with_reducible refine Ext.set' ?_ ?_ | exact .inr (by first | omega | (simp only [World.size_alloc, World.size_drew, World.size_setCell] <;> omega)) | refine Ext.trans ?_ (by with_reducible assumption)))⟩
    have hr := right_f.1 h
    rw [pack_add_n (by omega) (by omega)]
    simp only [packW, packE, packI, if_pos h, Bool.false_eq_true, if_false]
  · simp (disch := (first | omega | decide | (simp only [World.size_alloc, World.size_setCell, World.size_drew, size_sets, List.mem_cons, List.not_mem_nil, or_false, not_false_eq_true] <;> omega) | fail)) only [↓rsHead_4, rsHead_1, Option.isNone_some, Option.isNone_none, tick_eq, tickV_eq, ne_eq, Int.reduceAdd, Int.reduceSub, Int.reduceMul, Int.reduceEq, Int.reduceLT, Int.reduceLE, Int.reduceToNat, Nat.reduceMul, Nat.reduceAdd, Nat.reduceSub, List.nil_append, List.cons_append, List.getElem?_toArray, List.getElem?_cons_zero, List.getElem?_cons_succ, List.setIfInBounds_toArray, List.set_cons_zero, List.set_cons_succ, Option.map_some, List.not_mem_nil, ←decide_not, e1_0, h1]
    refine ⟨?_, by (repeat (first | with_reducible exact Ext.refl _ _ | with_reducible assumption | with_reducible refine Ext.alloc' ?_ _ | with_reducible refine Ext.drew' ?_ | with_reducible refine Ext.set' ?_ ?_ | exact .inr (by first | omega | (simp only [World.size_alloc, World.size_drew, World.size_setCell] <;> omega)) | refine Ext.trans ?_ (by with_reducible assumption)))⟩
    have hr := right_t.1 h
    rw [pack_add_m (by omega)]
    simp only [packW, packE, packI, if_pos h, if_true]
def sizeV (p b : Int) (m : Bool) (t : Int) : Int := if rightP p b m t ∧ m = false then 1 + p + (b + 7) / 8 else 0
abbrev rsHead_5 := (And.intro @xBox_r (And.intro @loadK_some (And.intro @loadsK_s (And.intro @loadsK_n (And.intro @loadsR_s (And.intro @loadsR_n (And.intro @storesK_s (And.intro @storesK_n (And.intro @xPick_t (And.intro @xPick_f (And.intro @xGuard_tt (And.intro @xGuard_ff (And.intro @xGuard_tf (And.intro @xGuard_ft (And.intro @xGuard_u 
  (And.intro @xNil_r (And.intro @xIf_t (And.intro @xBin_add' (And.intro @xBin_sub' (And.intro @xBin_mul' (And.intro @xBin_quo' (And.intro @xBin_rem' (And.intro @xIf_f (And.intro @xIf_tt (And.intro @xEx0 (And.intro @xEx1 (And.intro @xEx2 (And.intro @xEx3 (And.intro @xBin_eqs (And.intro @xBin_nes (And.intro @xUn_not (And.intro @xu8_add (And.intro @xu8_sub 
  (And.intro @xu8_quo (And.intro @xu8_com (And.intro @xu16_add (And.intro @xu16_sub (And.intro @xu16_quo (And.intro @xu16_com (And.intro @xu32_add (And.intro @xu32_sub (And.intro @xu32_quo (And.intro @xu32_com (And.intro @xu64_add (And.intro @xu64_sub (And.intro @xu64_quo (And.intro @xu64_com (And.intro @xMakeFunc_r (And.intro @xSq_r (And.intro @xPur_s 
  (And.intro @xRd_s (And.intro @xRe_s (And.intro @xDet_s (And.intro @xDet_ld (And.intro @xDet_ld2 (And.intro @xDet_ld3 (And.intro @xDet_ld4 (And.intro @xGuard_tt (And.intro @ld_3 (And.intro @ld_4 (And.intro @ld_123 (And.intro @fa_123_0 (And.intro @fa_123_1 @fa_123_2)))))))))))))))))))))))))))))))))))))))))))))))))))))))))))))))
theorem Size_spec (p b : Int) (m : Bool) (t : Int) (w : World) : Gives Try.prog n_head_Size #[hd p b m t] w (i64 (sizeV p b m t)) := by
  refine head_Size_of ?_
  unfold head_Size
  simp (disch := (first | omega | decide | (simp only [World.size_alloc, World.size_setCell, World.size_drew, size_sets, List.mem_cons, List.not_mem_nil, or_false, not_false_eq_true] <;> omega) | fail)) only [↓rsHead_5, rsHead_1, Option.isNone_some, Option.isNone_none, tick_eq, tickV_eq, ne_eq, Int.reduceAdd, Int.reduceSub, Int.reduceMul, Int.reduceEq, Int.reduceLT, Int.reduceLE, Int.reduceToNat, Nat.reduceMul, Nat.reduceAdd, Nat.reduceSub, List.nil_append, List.cons_append, List.getElem?_toArray, List.getElem?_cons_zero, List.getElem?_cons_succ, List.setIfInBounds_toArray, List.set_cons_zero, List.set_cons_succ, Option.map_some, List.not_mem_nil, ←decide_not, eq_self]
  refine head_Right_call (Gives.to (Right_spec _ _ _ _ _) fun w1 E1 => ?_)
  have z1 := E1.size
  try simp only [World.size_alloc, World.size_setCell, World.size_drew] at z1
  have e1_0 : ∀ o, w1.cell? ⟨w.heap.size, o, none⟩ = _ := fun o => E1.cell_o (by first | omega | (simp only [World.size_alloc, World.size_setCell, World.size_drew, size_sets] <;> omega))
  by_cases h : rightP p b m t
  rotate_left
  · have h1 : rightV p b m t = false := decide_eq_false h
    simp (disch := (first | omega | decide | (simp only [World.size_alloc, World.size_setCell, World.size_drew, size_sets, List.mem_cons, List.not_mem_nil, or_false, not_false_eq_true] <;> omega) | fail)) only [↓rsHead_5, rsHead_1, Option.isNone_some, Option.isNone_none, tick_eq, tickV_eq, ne_eq, Int.reduceAdd, Int.reduceSub, Int.reduceMul, Int.reduceEq, Int.reduceLT, Int.reduceLE, Int.reduceToNat, Nat.reduceMul, Nat.reduceAdd, Nat.reduceSub, List.nil_append, List.cons_append, List.getElem?_toArray, List.getElem?_cons_zero, List.getElem?_cons_succ, List.setIfInBounds_toArray, List.set_cons_zero, List.set_cons_succ, Option.map_some, List.not_mem_nil, ←decide_not, e1_0, h1]
    exact ⟨by simp [sizeV, h], by (repeat (first | with_reducible exact Ext.refl _ _ | with_reducible assumption | with_reducible refine Ext.alloc' ?_ _ | with_reducible refine Ext.drew' ?_ | with_reducible refine Ext.set' ?_ ?_ | exact .inr (by first | omega | (simp only [World.size_alloc, World.size_drew, World.size_setCell] <;> omega)) | refine Ext.trans ?_ (by with_reducible assumption)))⟩
  have h1 : rightV p b m t = true := decide_eq_true h
  cases m
  · have hr := right_f.1 h
    simp (disch := (first | omega | decide | (simp only [World.size_alloc, World.size_setCell, World.size_drew, size_sets, List.mem_cons, List.not_mem_nil, or_false, not_false_eq_true] <;> omega) | fail)) only [↓rsHead_5, rsHead_1, Option.isNone_some, Option.isNone_none, tick_eq, tickV_eq, ne_eq, Int.reduceAdd, Int.reduceSub, Int.reduceMul, Int.reduceEq, Int.reduceLT, Int.reduceLE, Int.reduceToNat, Nat.reduceMul, Nat.reduceAdd, Nat.reduceSub, List.nil_append, List.cons_append, List.getElem?_toArray, List.getElem?_cons_zero, List.getElem?_cons_succ, List.setIfInBounds_toArray, List.set_cons_zero, List.set_cons_succ, Option.map_some, List.not_mem_nil, ←decide_not, e1_0, h1]
    exact ⟨by simp [sizeV, h]; omega, by (repeat (first | with_reducible exact Ext.refl _ _ | with_reducible assumption | with_reducible refine Ext.alloc' ?_ _ | with_reducible refine Ext.drew' ?_ | with_reducible refine Ext.set' ?_ ?_ | exact .inr (by first | omega | (simp only [World.size_alloc, World.size_drew, World.size_setCell] <;> omega)) | refine Ext.trans ?_ (by with_reducible assumption)))⟩
  · simp (disch := (first | omega | decide | (simp only [World.size_alloc, World.size_setCell, World.size_drew, size_sets, List.mem_cons, List.not_mem_nil, or_false, not_false_eq_true] <;> omega) | fail)) only [↓rsHead_5, rsHead_1, Option.isNone_some, Option.isNone_none, tick_eq, tickV_eq, ne_eq, Int.reduceAdd, Int.reduceSub, Int.reduceMul, Int.reduceEq, Int.reduceLT, Int.reduceLE, Int.reduceToNat, Nat.reduceMul, Nat.reduceAdd, Nat.reduceSub, List.nil_append, List.cons_append, List.getElem?_toArray, List.getElem?_cons_zero, List.getElem?_cons_succ, List.setIfInBounds_toArray, List.set_cons_zero, List.set_cons_succ, Option.map_some, List.not_mem_nil, ←decide_not, e1_0, h1]
    exact ⟨by simp [sizeV], by (repeat (first | with_reducible exact Ext.refl _ _ | with_reducible assumption | with_reducible refine Ext.alloc' ?_ _ | with_reducible refine Ext.drew' ?_ | with_reducible refine Ext.set' ?_ ?_ | exact .inr (by first | omega | (simp only [World.size_alloc, World.size_drew, World.size_setCell] <;> omega)) | refine Ext.trans ?_ (by with_reducible assumption)))⟩
abbrev rsHead_6 := (And.intro @xBox_r (And.intro @loadK_some (And.intro @loadsK_s (And.intro @loadsK_n (And.intro @loadsR_s (And.intro @loadsR_n (And.intro @storesK_s (And.intro @storesK_n (And.intro @xPick_t (And.intro @xPick_f (And.intro @xGuard_tt (And.intro @xGuard_ff (And.intro @xGuard_tf (And.intro @xGuard_ft (And.intro @xGuard_u 
  (And.intro @xNil_r (And.intro @xIf_t (And.intro @xBin_add' (And.intro @xBin_sub' (And.intro @xBin_mul' (And.intro @xBin_quo' (And.intro @xBin_rem' (And.intro @xIf_f (And.intro @xIf_tt (And.intro @xEx0 (And.intro @xEx1 (And.intro @xEx2 (And.intro @xEx3 (And.intro @xBin_eqs (And.intro @xBin_nes (And.intro @xUn_not (And.intro @xu8_add (And.intro @xu8_quo 
  (And.intro @xu8_com (And.intro @xu16_add (And.intro @xu16_quo (And.intro @xu16_com (And.intro @xu32_add (And.intro @xu32_quo (And.intro @xu32_com (And.intro @xu64_add (And.intro @xu64_quo (And.intro @xu64_com (And.intro @xMakeFunc_r (And.intro @xSq_r (And.intro @xPur_s (And.intro @xRd_s (And.intro @xRe_s (And.intro @xDet_s (And.intro @xDet_ld 
  (And.intro @xDet_ld2 (And.intro @xDet_ld3 (And.intro @xDet_ld4 (And.intro @xGuard_tt (And.intro @ld_3 (And.intro @ld_4 (And.intro @ld_84 (And.intro @fa_84_0 (And.intro @fa_84_1 @fa_84_2)))))))))))))))))))))))))))))))))))))))))))))))))))))))))))
theorem rSize_spec (p b : Int) (m : Bool) (t : Int) (w : World) : Gives Try.prog n_loamref14_Size #[hd p b m t] w (i64 (sizeV p b m t)) := by
  refine loamref14_Size_of ?_
  unfold loamref14_Size
  simp (disch := (first | omega | decide | (simp only [World.size_alloc, World.size_setCell, World.size_drew, size_sets, List.mem_cons, List.not_mem_nil, or_false, not_false_eq_true] <;> omega) | fail)) only [↓rsHead_6, rsHead_1, Option.isNone_some, Option.isNone_none, tick_eq, tickV_eq, ne_eq, Int.reduceAdd, Int.reduceSub, Int.reduceMul, Int.reduceEq, Int.reduceLT, Int.reduceLE, Int.reduceToNat, Nat.reduceMul, Nat.reduceAdd, Nat.reduceSub, List.nil_append, List.cons_append, List.getElem?_toArray, List.getElem?_cons_zero, List.getElem?_cons_succ, List.setIfInBounds_toArray, List.set_cons_zero, List.set_cons_succ, Option.map_some, List.not_mem_nil, ←decide_not, eq_self]
  refine loamref14_Right_call (Gives.to (rRight_spec _ _ _ _ _) fun w1 E1 => ?_)
  have z1 := E1.size
  try simp only [World.size_alloc, World.size_setCell, World.size_drew] at z1
  have e1_0 : ∀ o, w1.cell? ⟨w.heap.size, o, none⟩ = _ := fun o => E1.cell_o (by first | omega | (simp only [World.size_alloc, World.size_setCell, World.size_drew, size_sets] <;> omega))
  by_cases h : rightP p b m t
  rotate_left
  · have h1 : rightV p b m t = false := decide_eq_false h
    simp (disch := (first | omega | decide | (simp only [World.size_alloc, World.size_setCell, World.size_drew, size_sets, List.mem_cons, List.not_mem_nil, or_false, not_false_eq_true] <;> omega) | fail)) only [↓rsHead_6, rsHead_1, Option.isNone_some, Option.isNone_none, tick_eq, tickV_eq, ne_eq, Int.reduceAdd, Int.reduceSub, Int.reduceMul, Int.reduceEq, Int.reduceLT, Int.reduceLE, Int.reduceToNat, Nat.reduceMul, Nat.reduceAdd, Nat.reduceSub, List.nil_append, List.cons_append, List.getElem?_toArray, List.getElem?_cons_zero, List.getElem?_cons_succ, List.setIfInBounds_toArray, List.set_cons_zero, List.set_cons_succ, Option.map_some, List.not_mem_nil, ←decide_not, e1_0, h1]
    exact ⟨by simp [sizeV, h], by (repeat (first | with_reducible exact Ext.refl _ _ | with_reducible assumption | with_reducible refine Ext.alloc' ?_ _ | with_reducible refine Ext.drew' ?_ | with_reducible refine Ext.set' ?_ ?_ | exact .inr (by first | omega | (simp only [World.size_alloc, World.size_drew, World.size_setCell] <;> omega)) | refine Ext.trans ?_ (by with_reducible assumption)))⟩
  have h1 : rightV p b m t = true := decide_eq_true h
  cases m
  · have hr := right_f.1 h
    simp (disch := (first | omega | decide | (simp only [World.size_alloc, World.size_setCell, World.size_drew, size_sets, List.mem_cons, List.not_mem_nil, or_false, not_false_eq_true] <;> omega) | fail)) only [↓rsHead_6, rsHead_1, Option.isNone_some, Option.isNone_none, tick_eq, tickV_eq, ne_eq, Int.reduceAdd, Int.reduceSub, Int.reduceMul, Int.reduceEq, Int.reduceLT, Int.reduceLE, Int.reduceToNat, Nat.reduceMul, Nat.reduceAdd, Nat.reduceSub, List.nil_append, List.cons_append, List.getElem?_toArray, List.getElem?_cons_zero, List.getElem?_cons_succ, List.setIfInBounds_toArray, List.set_cons_zero, List.set_cons_succ, Option.map_some, List.not_mem_nil, ←decide_not, e1_0, h1]
    exact ⟨by simp [sizeV, h], by (repeat (first | with_reducible exact Ext.refl _ _ | with_reducible assumption | with_reducible refine Ext.alloc' ?_ _ | with_reducible refine Ext.drew' ?_ | with_reducible refine Ext.set' ?_ ?_ | exact .inr (by first | omega | (simp only [World.size_alloc, World.size_drew, World.size_setCell] <;> omega)) | refine Ext.trans ?_ (by with_reducible assumption)))⟩
  · simp (disch := (first | omega | decide | (simp only [World.size_alloc, World.size_setCell, World.size_drew, size_sets, List.mem_cons, List.not_mem_nil, or_false, not_false_eq_true] <;> omega) | fail)) only [↓rsHead_6, rsHead_1, Option.isNone_some, Option.isNone_none, tick_eq, tickV_eq, ne_eq, Int.reduceAdd, Int.reduceSub, Int.reduceMul, Int.reduceEq, Int.reduceLT, Int.reduceLE, Int.reduceToNat, Nat.reduceMul, Nat.reduceAdd, Nat.reduceSub, List.nil_append, List.cons_append, List.getElem?_toArray, List.getElem?_cons_zero, List.getElem?_cons_succ, List.setIfInBounds_toArray, List.set_cons_zero, List.set_cons_succ, Option.map_some, List.not_mem_nil, ←decide_not, e1_0, h1]
    exact ⟨by simp [sizeV], by (repeat (first | with_reducible exact Ext.refl _ _ | with_reducible assumption | with_reducible refine Ext.alloc' ?_ _ | with_reducible refine Ext.drew' ?_ | with_reducible refine Ext.set' ?_ ?_ | exact .inr (by first | omega | (simp only [World.size_alloc, World.size_drew, World.size_setCell] <;> omega)) | refine Ext.trans ?_ (by with_reducible assumption)))⟩
end Go.Proofs.Ytdpmidgeipibbaa
end
section
set_option linter.unusedVariables false
set_option linter.unusedSimpArgs false
set_option maxHeartbeats 4000000
namespace Go.Proofs.Ytdpmidgeipibbaa
open Go.Sh Go.RowKit

abbrev rsHeadU_0 := (And.intro @xBox_r (And.intro @loadK_some (And.intro @loadsK_s (And.intro @loadsK_n (And.intro @loadsR_s (And.intro @loadsR_n (And.intro @storesK_s (And.intro @storesK_n (And.intro @xPick_t (And.intro @xPick_f (And.intro @xGuard_tt (And.intro @xGuard_ff (And.intro @xGuard_tf (And.intro @xGuard_ft (And.intro @xGuard_u 
  (And.intro @xNil_r (And.intro @xIf_t (And.intro @xBin_add' (And.intro @xBin_sub' (And.intro @xBin_mul' (And.intro @xBin_quo' (And.intro @xBin_rem' (And.intro @xIf_f (And.intro @xIf_tt (And.intro @xEx0 (And.intro @xEx1 (And.intro @xEx2 (And.intro @xEx3 (And.intro @xBin_eqs (And.intro @xBin_nes (And.intro @xUn_not (And.intro @xu8_and (And.intro @xu8_eql 
  (And.intro @xu8_neq (And.intro @xu16_and (And.intro @xu16_eql (And.intro @xu16_neq (And.intro @xu32_and (And.intro @xu32_eql (And.intro @xu32_neq (And.intro @xu64_and (And.intro @xu64_eql (And.intro @xu64_neq (And.intro @xi64_eql (And.intro @xi64_neq (And.intro @xi64_and (And.intro @xi64_neg (And.intro @xMakeFunc_r (And.intro @xSq_r (And.intro @xPur_s 
  (And.intro @xRd_s (And.intro @xRe_s (And.intro @xDet_s (And.intro @xDet_ld (And.intro @xDet_ld2 (And.intro @xDet_ld3 (And.intro @xDet_ld4 (And.intro @xGuard_tt (And.intro @ld_123 (And.intro @lr_123 (And.intro @al_123 (And.intro @st_123 (And.intro @bd_123_0_1 (And.intro @bd_123_2_3 (And.intro @bd_123 @cv_69_3)))))))))))))))))))))))))))))))))))))))))))))))))))))))))))))))))
abbrev rsHeadU_1 := (And.intro @setCells_c (And.intro @setCells_n (And.intro @World.setCell_alloc_at (And.intro @World.setCell_alloc_past (And.intro @World.cell?_alloc_at (And.intro @World.cell?_alloc_past (And.intro @World.frozen?_alloc_at (And.intro @World.frozen?_alloc_past 
  (And.intro @World.size_alloc (And.intro @dlt_t (And.intro @dlt_f (And.intro @dle_t (And.intro @dle_f (And.intro @deq_t (And.intro @deq_f (And.intro @dne_t (And.intro @dne_f (And.intro @not_true_eq_false (And.intro @Bool.false_and (And.intro @Bool.true_and (And.intro @Bool.and_true (And.intro @Bool.and_false (And.intro @wrap_in (And.intro @Int.toNat_natCast 
  (And.intro @Nat.mul_one (And.intro @cells_int (And.intro @cells_bool (And.intro @cells_string (And.intro @cells_slice (And.intro @cells_pointer (And.intro @cells_agg (And.intro @one_int (And.intro @one_bool (And.intro @one_string (And.intro @one_slice (And.intro @one_pointer (And.intro @beq_tt (And.intro @beq_ff (And.intro @beq_tf 
  (And.intro @beq_ft (And.intro @cell_sets_b (And.intro @frozen_sets (And.intro @size_sets (And.intro @World.size_drew (And.intro @Nat.zero_add (And.intro @Nat.add_zero (And.intro @cell_drew (And.intro @frozen_drew (And.intro @cell_set_eq (And.intro @cell_set_o (And.intro @cell_set_b (And.intro @World.frozen?_setCell 
  (And.intro @decide_true (And.intro @decide_false (And.intro @not_false_eq_true (And.intro @Bool.not_true @Bool.not_false))))))))))))))))))))))))))))))))))))))))))))))))))))))))
theorem Unpack_spec (x : BitVec 64) (w : World) : Gives Try.prog n_head_Unpack #[u64 x] w (.tuple #[hd (vP x) (vB x) (vM x) (vT x), i64 (unErr x)]) := by
  refine head_Unpack_of ?_
  unfold head_Unpack head_Unpack_j1
  have f1 := field_1 x
  have f2 := field_16 x
  have f3 := field_32 x
  simp (disch := (first | omega | decide | (simp only [World.size_alloc, World.size_setCell, World.size_drew, size_sets, List.mem_cons, List.not_mem_nil, or_false, not_false_eq_true] <;> omega) | fail)) only [↓rsHeadU_0, rsHeadU_1, Option.isNone_some, Option.isNone_none, tick_eq, tickV_eq, ne_eq, Int.reduceAdd, Int.reduceSub, Int.reduceMul, Int.reduceEq, Int.reduceLT, Int.reduceLE, Int.reduceToNat, Nat.reduceMul, Nat.reduceAdd, Nat.reduceSub, List.nil_append, List.cons_append, List.getElem?_toArray, List.getElem?_cons_zero, List.getElem?_cons_succ, List.setIfInBounds_toArray, List.set_cons_zero, List.set_cons_succ, Option.map_some, List.not_mem_nil, ←decide_not, eq_self]
  refine bits_Field_call (Gives.to (Field_spec _ _ _ _) fun w1 E1 => ?_)
  have z1 := E1.size
  try simp only [World.size_alloc, World.size_setCell, World.size_drew] at z1
  have e1_0 : ∀ o, w1.cell? ⟨w.heap.size, o, none⟩ = _ := fun o => E1.cell_o (by first | omega | (simp only [World.size_alloc, World.size_setCell, World.size_drew, size_sets] <;> omega))
  have f1_0 : ∀ o, w1.frozen? ⟨w.heap.size, o, none⟩ = _ := fun o => E1.frozen_o (by first | omega | (simp only [World.size_alloc, World.size_setCell, World.size_drew, size_sets] <;> omega))
  simp (disch := (first | omega | decide | (simp only [World.size_alloc, World.size_setCell, World.size_drew, size_sets, List.mem_cons, List.not_mem_nil, or_false, not_false_eq_true] <;> omega) | fail)) only [↓rsHeadU_0, rsHeadU_1, Option.isNone_some, Option.isNone_none, tick_eq, tickV_eq, ne_eq, Int.reduceAdd, Int.reduceSub, Int.reduceMul, Int.reduceEq, Int.reduceLT, Int.reduceLE, Int.reduceToNat, Nat.reduceMul, Nat.reduceAdd, Nat.reduceSub, List.nil_append, List.cons_append, List.getElem?_toArray, List.getElem?_cons_zero, List.getElem?_cons_succ, List.setIfInBounds_toArray, List.set_cons_zero, List.set_cons_succ, Option.map_some, List.not_mem_nil, ←decide_not, e1_0, f1_0]
  refine bits_Field_call (Gives.to (Field_spec _ _ _ _) fun w2 E2 => ?_)
  have z2 := E2.size
  try simp only [World.size_alloc, World.size_setCell, World.size_drew] at z2
  have e2_0 : ∀ o, w2.cell? ⟨w.heap.size, o, none⟩ = _ := fun o => E2.cell_o (by first | omega | (simp only [World.size_alloc, World.size_setCell, World.size_drew, size_sets] <;> omega))
  have f2_0 : ∀ o, w2.frozen? ⟨w.heap.size, o, none⟩ = _ := fun o => E2.frozen_o (by first | omega | (simp only [World.size_alloc, World.size_setCell, World.size_drew, size_sets] <;> omega))
  simp (disch := (first | omega | decide | (simp only [World.size_alloc, World.size_setCell, World.size_drew, size_sets, List.mem_cons, List.not_mem_nil, or_false, not_false_eq_true] <;> omega) | fail)) only [↓rsHeadU_0, rsHeadU_1, Option.isNone_some, Option.isNone_none, tick_eq, tickV_eq, ne_eq, Int.reduceAdd, Int.reduceSub, Int.reduceMul, Int.reduceEq, Int.reduceLT, Int.reduceLE, Int.reduceToNat, Nat.reduceMul, Nat.reduceAdd, Nat.reduceSub, List.nil_append, List.cons_append, List.getElem?_toArray, List.getElem?_cons_zero, List.getElem?_cons_succ, List.setIfInBounds_toArray, List.set_cons_zero, List.set_cons_succ, Option.map_some, List.not_mem_nil, ←decide_not, e1_0, f1_0, e2_0, f2_0]
  by_cases hm : x &&& BitVec.ofNat 64 1 = BitVec.ofNat 64 1
  · have um := (low_one x).1 hm
    have up : uP x = 0 := by simp [uP, um]
    have ub : uB x = 0 := by simp [uB, um]
    have ut : uT x = (fieldB x 32 16).toInt := by rw [f3]; simp [uT, um]
    simp (disch := (first | omega | decide | (simp only [World.size_alloc, World.size_setCell, World.size_drew, size_sets, List.mem_cons, List.not_mem_nil, or_false, not_false_eq_true] <;> omega) | fail)) only [↓rsHeadU_0, rsHeadU_1, Option.isNone_some, Option.isNone_none, tick_eq, tickV_eq, ne_eq, Int.reduceAdd, Int.reduceSub, Int.reduceMul, Int.reduceEq, Int.reduceLT, Int.reduceLE, Int.reduceToNat, Nat.reduceMul, Nat.reduceAdd, Nat.reduceSub, List.nil_append, List.cons_append, List.getElem?_toArray, List.getElem?_cons_zero, List.getElem?_cons_succ, List.setIfInBounds_toArray, List.set_cons_zero, List.set_cons_succ, Option.map_some, List.not_mem_nil, ←decide_not, e1_0, f1_0, e2_0, f2_0, decide_eq_true hm]
    refine bits_Field_call (Gives.to (Field_spec _ _ _ _) fun w3 E3 => ?_)
    have z3 := E3.size
    try simp only [World.size_alloc, World.size_setCell, World.size_drew] at z3
    have e3_0 : ∀ o, w3.cell? ⟨w.heap.size, o, none⟩ = _ := fun o => E3.cell_o (by first | omega | (simp only [World.size_alloc, World.size_setCell, World.size_drew, size_sets] <;> omega))
    have f3_0 : ∀ o, w3.frozen? ⟨w.heap.size, o, none⟩ = _ := fun o => E3.frozen_o (by first | omega | (simp only [World.size_alloc, World.size_setCell, World.size_drew, size_sets] <;> omega))
    have e3_1 : ∀ o, w3.cell? ⟨w2.heap.size, o, none⟩ = _ := fun o => E3.cell_o (by first | omega | (simp only [World.size_alloc, World.size_setCell, World.size_drew, size_sets] <;> omega))
    have f3_1 : ∀ o, w3.frozen? ⟨w2.heap.size, o, none⟩ = _ := fun o => E3.frozen_o (by first | omega | (simp only [World.size_alloc, World.size_setCell, World.size_drew, size_sets] <;> omega))
    simp (disch := (first | omega | decide | (simp only [World.size_alloc, World.size_setCell, World.size_drew, size_sets, List.mem_cons, List.not_mem_nil, or_false, not_false_eq_true] <;> omega) | fail)) only [↓rsHeadU_0, rsHeadU_1, Option.isNone_some, Option.isNone_none, tick_eq, tickV_eq, ne_eq, Int.reduceAdd, Int.reduceSub, Int.reduceMul, Int.reduceEq, Int.reduceLT, Int.reduceLE, Int.reduceToNat, Nat.reduceMul, Nat.reduceAdd, Nat.reduceSub, List.nil_append, List.cons_append, List.getElem?_toArray, List.getElem?_cons_zero, List.getElem?_cons_succ, List.setIfInBounds_toArray, List.set_cons_zero, List.set_cons_succ, Option.map_some, List.not_mem_nil, ←decide_not, e1_0, f1_0, e2_0, f2_0, decide_eq_true hm, e3_0, f3_0, e3_1, f3_1]
    rw [← ut]
    simp (disch := (first | omega | decide | (simp only [World.size_alloc, World.size_setCell, World.size_drew, size_sets, List.mem_cons, List.not_mem_nil, or_false, not_false_eq_true] <;> omega) | fail)) only [↓rsHeadU_0, rsHeadU_1, Option.isNone_some, Option.isNone_none, tick_eq, tickV_eq, ne_eq, Int.reduceAdd, Int.reduceSub, Int.reduceMul, Int.reduceEq, Int.reduceLT, Int.reduceLE, Int.reduceToNat, Nat.reduceMul, Nat.reduceAdd, Nat.reduceSub, List.nil_append, List.cons_append, List.getElem?_toArray, List.getElem?_cons_zero, List.getElem?_cons_succ, List.setIfInBounds_toArray, List.set_cons_zero, List.set_cons_succ, Option.map_some, List.not_mem_nil, ←decide_not, e1_0, f1_0, e2_0, f2_0, decide_eq_true hm, e3_0, f3_0, e3_1, f3_1]
    refine head_Pack_call (Gives.to (Pack_spec _ _ _ _ _) fun w4 E4 => ?_)
    have z4 := E4.size
    try simp only [World.size_alloc, World.size_setCell, World.size_drew] at z4
    have e4_0 : ∀ o, w4.cell? ⟨w.heap.size, o, none⟩ = _ := fun o => E4.cell_o (by first | omega | (simp only [World.size_alloc, World.size_setCell, World.size_drew, size_sets] <;> omega))
    have f4_0 : ∀ o, w4.frozen? ⟨w.heap.size, o, none⟩ = _ := fun o => E4.frozen_o (by first | omega | (simp only [World.size_alloc, World.size_setCell, World.size_drew, size_sets] <;> omega))
    have e4_1 : ∀ o, w4.cell? ⟨w2.heap.size, o, none⟩ = _ := fun o => E4.cell_o (by first | omega | (simp only [World.size_alloc, World.size_setCell, World.size_drew, size_sets] <;> omega))
    have f4_1 : ∀ o, w4.frozen? ⟨w2.heap.size, o, none⟩ = _ := fun o => E4.frozen_o (by first | omega | (simp only [World.size_alloc, World.size_setCell, World.size_drew, size_sets] <;> omega))
    by_cases h1 : rightP 0 0 true (uT x)
    rotate_left
    · have hn : ¬ isHead x := by unfold isHead; rw [up, ub, um]; exact fun h => h1 h.1
      simp (disch := (first | omega | decide | (simp only [World.size_alloc, World.size_setCell, World.size_drew, size_sets, List.mem_cons, List.not_mem_nil, or_false, not_false_eq_true] <;> omega) | fail)) only [↓rsHeadU_0, rsHeadU_1, Option.isNone_some, Option.isNone_none, tick_eq, tickV_eq, ne_eq, Int.reduceAdd, Int.reduceSub, Int.reduceMul, Int.reduceEq, Int.reduceLT, Int.reduceLE, Int.reduceToNat, Nat.reduceMul, Nat.reduceAdd, Nat.reduceSub, List.nil_append, List.cons_append, List.getElem?_toArray, List.getElem?_cons_zero, List.getElem?_cons_succ, List.setIfInBounds_toArray, List.set_cons_zero, List.set_cons_succ, Option.map_some, List.not_mem_nil, ←decide_not, e1_0, f1_0, e2_0, f2_0, decide_eq_true hm, e3_0, f3_0, e3_1, f3_1, e4_0, f4_0, e4_1, f4_1, packE, if_neg h1]
      exact ⟨by simp only [vP, vB, vM, vT, unErr, if_neg hn], by (repeat (first | with_reducible exact Ext.refl _ _ | with_reducible assumption | with_reducible refine Ext.alloc' ?_ _ | with_reducible refine Ext.drew' ?_ | with_reducible refine Ext.set' ?_ ?_ | exact .inr (by first | omega | (simp only [World.size_alloc, World.size_drew, World.size_setCell] <;> omega)) | refine Ext.trans ?_ (by with_reducible assumption)))⟩
    by_cases h2 : packW 0 0 true (uT x) = x
    rotate_left
    · have hn : ¬ isHead x := by unfold isHead; rw [up, ub, um]; exact fun h => h2 h.2
      simp (disch := (first | omega | decide | (simp only [World.size_alloc, World.size_setCell, World.size_drew, size_sets, List.mem_cons, List.not_mem_nil, or_false, not_false_eq_true] <;> omega) | fail)) only [↓rsHeadU_0, rsHeadU_1, Option.isNone_some, Option.isNone_none, tick_eq, tickV_eq, ne_eq, Int.reduceAdd, Int.reduceSub, Int.reduceMul, Int.reduceEq, Int.reduceLT, Int.reduceLE, Int.reduceToNat, Nat.reduceMul, Nat.reduceAdd, Nat.reduceSub, List.nil_append, List.cons_append, List.getElem?_toArray, List.getElem?_cons_zero, List.getElem?_cons_succ, List.setIfInBounds_toArray, List.set_cons_zero, List.set_cons_succ, Option.map_some, List.not_mem_nil, ←decide_not, e1_0, f1_0, e2_0, f2_0, decide_eq_true hm, e3_0, f3_0, e3_1, f3_1, e4_0, f4_0, e4_1, f4_1, packE, if_pos h1, h2]
      exact ⟨by simp only [vP, vB, vM, vT, unErr, if_neg hn], by (repeat (first | with_reducible exact Ext.refl _ _ | with_reducible assumption | with_reducible refine Ext.alloc' ?_ _ | with_reducible refine Ext.drew' ?_ | with_reducible refine Ext.set' ?_ ?_ | exact .inr (by first | omega | (simp only [World.size_alloc, World.size_drew, World.size_setCell] <;> omega)) | refine Ext.trans ?_ (by with_reducible assumption)))⟩
    have hn : isHead x := by unfold isHead; rw [up, ub, um]; exact ⟨h1, h2⟩
    simp (disch := (first | omega | decide | (simp only [World.size_alloc, World.size_setCell, World.size_drew, size_sets, List.mem_cons, List.not_mem_nil, or_false, not_false_eq_true] <;> omega) | fail)) only [↓rsHeadU_0, rsHeadU_1, Option.isNone_some, Option.isNone_none, tick_eq, tickV_eq, ne_eq, Int.reduceAdd, Int.reduceSub, Int.reduceMul, Int.reduceEq, Int.reduceLT, Int.reduceLE, Int.reduceToNat, Nat.reduceMul, Nat.reduceAdd, Nat.reduceSub, List.nil_append, List.cons_append, List.getElem?_toArray, List.getElem?_cons_zero, List.getElem?_cons_succ, List.setIfInBounds_toArray, List.set_cons_zero, List.set_cons_succ, Option.map_some, List.not_mem_nil, ←decide_not, e1_0, f1_0, e2_0, f2_0, decide_eq_true hm, e3_0, f3_0, e3_1, f3_1, e4_0, f4_0, e4_1, f4_1, packE, if_pos h1, eq_true h2]
    exact ⟨by simp only [vP, vB, vM, vT, unErr, if_pos hn, up, ub, um], by (repeat (first | with_reducible exact Ext.refl _ _ | with_reducible assumption | with_reducible refine Ext.alloc' ?_ _ | with_reducible refine Ext.drew' ?_ | with_reducible refine Ext.set' ?_ ?_ | exact .inr (by first | omega | (simp only [World.size_alloc, World.size_drew, World.size_setCell] <;> omega)) | refine Ext.trans ?_ (by with_reducible assumption)))⟩
  · have um : uM x = false := by simpa using fun h => hm ((low_one x).2 h)
    have up : uP x = (fieldB x 1 8).toInt := by rw [f1]; simp [uP, um]
    have ub : uB x = (fieldB x 16 12).toInt := by rw [f2]; simp [uB, um]
    have ut : uT x = 0 := by simp [uT, um]
    simp (disch := (first | omega | decide | (simp only [World.size_alloc, World.size_setCell, World.size_drew, size_sets, List.mem_cons, List.not_mem_nil, or_false, not_false_eq_true] <;> omega) | fail)) only [↓rsHeadU_0, rsHeadU_1, Option.isNone_some, Option.isNone_none, tick_eq, tickV_eq, ne_eq, Int.reduceAdd, Int.reduceSub, Int.reduceMul, Int.reduceEq, Int.reduceLT, Int.reduceLE, Int.reduceToNat, Nat.reduceMul, Nat.reduceAdd, Nat.reduceSub, List.nil_append, List.cons_append, List.getElem?_toArray, List.getElem?_cons_zero, List.getElem?_cons_succ, List.setIfInBounds_toArray, List.set_cons_zero, List.set_cons_succ, Option.map_some, List.not_mem_nil, ←decide_not, e1_0, f1_0, e2_0, f2_0, decide_eq_false hm]
    rw [← up, ← ub]
    simp (disch := (first | omega | decide | (simp only [World.size_alloc, World.size_setCell, World.size_drew, size_sets, List.mem_cons, List.not_mem_nil, or_false, not_false_eq_true] <;> omega) | fail)) only [↓rsHeadU_0, rsHeadU_1, Option.isNone_some, Option.isNone_none, tick_eq, tickV_eq, ne_eq, Int.reduceAdd, Int.reduceSub, Int.reduceMul, Int.reduceEq, Int.reduceLT, Int.reduceLE, Int.reduceToNat, Nat.reduceMul, Nat.reduceAdd, Nat.reduceSub, List.nil_append, List.cons_append, List.getElem?_toArray, List.getElem?_cons_zero, List.getElem?_cons_succ, List.setIfInBounds_toArray, List.set_cons_zero, List.set_cons_succ, Option.map_some, List.not_mem_nil, ←decide_not, e1_0, f1_0, e2_0, f2_0, decide_eq_false hm]
    refine head_Pack_call (Gives.to (Pack_spec _ _ _ _ _) fun w5 E5 => ?_)
    have z5 := E5.size
    try simp only [World.size_alloc, World.size_setCell, World.size_drew] at z5
    have e5_0 : ∀ o, w5.cell? ⟨w.heap.size, o, none⟩ = _ := fun o => E5.cell_o (by first | omega | (simp only [World.size_alloc, World.size_setCell, World.size_drew, size_sets] <;> omega))
    have f5_0 : ∀ o, w5.frozen? ⟨w.heap.size, o, none⟩ = _ := fun o => E5.frozen_o (by first | omega | (simp only [World.size_alloc, World.size_setCell, World.size_drew, size_sets] <;> omega))
    have e5_1 : ∀ o, w5.cell? ⟨w2.heap.size, o, none⟩ = _ := fun o => E5.cell_o (by first | omega | (simp only [World.size_alloc, World.size_setCell, World.size_drew, size_sets] <;> omega))
    have f5_1 : ∀ o, w5.frozen? ⟨w2.heap.size, o, none⟩ = _ := fun o => E5.frozen_o (by first | omega | (simp only [World.size_alloc, World.size_setCell, World.size_drew, size_sets] <;> omega))
    by_cases h1 : rightP (uP x) (uB x) false 0
    rotate_left
    · have hn : ¬ isHead x := by unfold isHead; rw [um, ut]; exact fun h => h1 h.1
      simp (disch := (first | omega | decide | (simp only [World.size_alloc, World.size_setCell, World.size_drew, size_sets, List.mem_cons, List.not_mem_nil, or_false, not_false_eq_true] <;> omega) | fail)) only [↓rsHeadU_0, rsHeadU_1, Option.isNone_some, Option.isNone_none, tick_eq, tickV_eq, ne_eq, Int.reduceAdd, Int.reduceSub, Int.reduceMul, Int.reduceEq, Int.reduceLT, Int.reduceLE, Int.reduceToNat, Nat.reduceMul, Nat.reduceAdd, Nat.reduceSub, List.nil_append, List.cons_append, List.getElem?_toArray, List.getElem?_cons_zero, List.getElem?_cons_succ, List.setIfInBounds_toArray, List.set_cons_zero, List.set_cons_succ, Option.map_some, List.not_mem_nil, ←decide_not, e1_0, f1_0, e2_0, f2_0, decide_eq_false hm, e5_0, f5_0, e5_1, f5_1, packE, if_neg h1]
      exact ⟨by simp only [vP, vB, vM, vT, unErr, if_neg hn], by (repeat (first | with_reducible exact Ext.refl _ _ | with_reducible assumption | with_reducible refine Ext.alloc' ?_ _ | with_reducible refine Ext.drew' ?_ | with_reducible refine Ext.set' ?_ ?_ | exact .inr (by first | omega | (simp only [World.size_alloc, World.size_drew, World.size_setCell] <;> omega)) | refine Ext.trans ?_ (by with_reducible assumption)))⟩
    by_cases h2 : packW (uP x) (uB x) false 0 = x
    rotate_left
    · have hn : ¬ isHead x := by unfold isHead; rw [um, ut]; exact fun h => h2 h.2
      simp (disch := (first | omega | decide | (simp only [World.size_alloc, World.size_setCell, World.size_drew, size_sets, List.mem_cons, List.not_mem_nil, or_false, not_false_eq_true] <;> omega) | fail)) only [↓rsHeadU_0, rsHeadU_1, Option.isNone_some, Option.isNone_none, tick_eq, tickV_eq, ne_eq, Int.reduceAdd, Int.reduceSub, Int.reduceMul, Int.reduceEq, Int.reduceLT, Int.reduceLE, Int.reduceToNat, Nat.reduceMul, Nat.reduceAdd, Nat.reduceSub, List.nil_append, List.cons_append, List.getElem?_toArray, List.getElem?_cons_zero, List.getElem?_cons_succ, List.setIfInBounds_toArray, List.set_cons_zero, List.set_cons_succ, Option.map_some, List.not_mem_nil, ←decide_not, e1_0, f1_0, e2_0, f2_0, decide_eq_false hm, e5_0, f5_0, e5_1, f5_1, packE, if_pos h1, h2]
      exact ⟨by simp only [vP, vB, vM, vT, unErr, if_neg hn], by (repeat (first | with_reducible exact Ext.refl _ _ | with_reducible assumption | with_reducible refine Ext.alloc' ?_ _ | with_reducible refine Ext.drew' ?_ | with_reducible refine Ext.set' ?_ ?_ | exact .inr (by first | omega | (simp only [World.size_alloc, World.size_drew, World.size_setCell] <;> omega)) | refine Ext.trans ?_ (by with_reducible assumption)))⟩
    have hn : isHead x := by unfold isHead; rw [um, ut]; exact ⟨h1, h2⟩
    simp (disch := (first | omega | decide | (simp only [World.size_alloc, World.size_setCell, World.size_drew, size_sets, List.mem_cons, List.not_mem_nil, or_false, not_false_eq_true] <;> omega) | fail)) only [↓rsHeadU_0, rsHeadU_1, Option.isNone_some, Option.isNone_none, tick_eq, tickV_eq, ne_eq, Int.reduceAdd, Int.reduceSub, Int.reduceMul, Int.reduceEq, Int.reduceLT, Int.reduceLE, Int.reduceToNat, Nat.reduceMul, Nat.reduceAdd, Nat.reduceSub, List.nil_append, List.cons_append, List.getElem?_toArray, List.getElem?_cons_zero, List.getElem?_cons_succ, List.setIfInBounds_toArray, List.set_cons_zero, List.set_cons_succ, Option.map_some, List.not_mem_nil, ←decide_not, e1_0, f1_0, e2_0, f2_0, decide_eq_false hm, e5_0, f5_0, e5_1, f5_1, packE, if_pos h1, eq_true h2]
    exact ⟨by simp only [vP, vB, vM, vT, unErr, if_pos hn, ut, um], by (repeat (first | with_reducible exact Ext.refl _ _ | with_reducible assumption | with_reducible refine Ext.alloc' ?_ _ | with_reducible refine Ext.drew' ?_ | with_reducible refine Ext.set' ?_ ?_ | exact .inr (by first | omega | (simp only [World.size_alloc, World.size_drew, World.size_setCell] <;> omega)) | refine Ext.trans ?_ (by with_reducible assumption)))⟩

end Go.Proofs.Ytdpmidgeipibbaa
end
section
set_option linter.unusedVariables false
set_option linter.unusedSimpArgs false
set_option maxHeartbeats 4000000
namespace Go.Proofs.Ytdpmidgeipibbaa
open Go.Sh Go.RowKit

abbrev b8 (n : Nat) : BitVec 8 := BitVec.ofNat 8 n
end Go.Proofs.Ytdpmidgeipibbaa
end
section
set_option linter.unusedVariables false
set_option linter.unusedSimpArgs false
set_option maxHeartbeats 4000000
namespace Go.Proofs.Ytdpmidgeipibbaa
open Go.Sh Go.RowKit

end Go.Proofs.Ytdpmidgeipibbaa
end
section
set_option linter.unusedVariables false
set_option linter.unusedSimpArgs false
set_option maxHeartbeats 4000000
namespace Go.Proofs.Ytdpmidgeipibbaa
open Go.Sh Go.RowKit

abbrev c0 : BitVec 64 := BitVec.ofNat 64 0
def byteW (ws : List (BitVec 64)) (i : Nat) : BitVec 8 := ((ws.getD (i / 8) c0) >>> (8 * (i % 8))).setWidth 8
def bytesW (ws : List (BitVec 64)) (at' n : Nat) : List (BitVec 8) := (List.range n).map fun i => byteW ws (at' + i)
theorem bytesW_length {ws : List (BitVec 64)} {at' n : Nat} : (bytesW ws at' n).length = n := by simp [bytesW]
/-- n things from a place on -/
def among (at' n all : Int) : Prop := 0 ≤ at' ∧ 0 ≤ n ∧ n ≤ all ∧ at' ≤ all - n
instance (at' n all : Int) : Decidable (among at' n all) := by unfold among; infer_instance
end Go.Proofs.Ytdpmidgeipibbaa
end
section
set_option linter.unusedVariables false
set_option linter.unusedSimpArgs false
set_option maxHeartbeats 4000000
namespace Go.Proofs.Ytdpmidgeipibbaa
open Go.Sh Go.RowKit

abbrev ptr (g : Nat) : Value := .pointer (some ⟨g, 0, none⟩)
def blkOf : Option Addr → List Nat
  | some a => [a.block]
  | none => []
/-- words of one's own -/
def OwnW (w : World) (base : Nat) (a : Option Addr) (c : Nat) (ws : List (BitVec 64)) : Prop :=
  ws = [] ∨ ∃ gs rest, a = some ⟨gs, 0, none⟩ ∧ base ≤ gs ∧ Blk w gs 69 (wrds ws ++ rest) ∧ c ≤ (wrds ws ++ rest).length
structure MemIs (w : World) (base g : Nat) (a : Option Addr) (c : Nat) (ws : List (BitVec 64)) : Prop where
  lo : base ≤ g
  hd : w.cell? ⟨g, 0, none⟩ = some (.slice a ws.length c)
  len : ws.length ≤ 8192
  cap : ws.length ≤ c
  nil : a = none → c = 0
  own : OwnW w base a c ws
  apart : ws ≠ [] → g ∉ blkOf a
  up : ∀ x ∈ blkOf a, base ≤ x
theorem MemIs.lt {w : World} {base g : Nat} {a : Option Addr} {c : Nat} {ws : List (BitVec 64)} (h : MemIs w base g a c ws) : g < w.heap.size := World.block_lt_of_cell? w ⟨g, 0, none⟩ h.hd
theorem OwnW.row {w : World} {base : Nat} {a : Option Addr} {c : Nat} {ws : List (BitVec 64)} (h : OwnW w base a c ws) : RowAt w a (wrds ws) := by
  rcases h with rfl | ⟨gs, rest, rfl, _, hB, _⟩
  · exact RowAt.nil
  · have := hB.row.take (wrds ws).length
    rwa [List.take_left' rfl] at this
theorem OwnW.ext {w w' : World} {base : Nat} {a : Option Addr} {c : Nat} {ws : List (BitVec 64)} {M : List Nat} (h : OwnW w base a c ws) (hx : Ext M w w') (hm : ws ≠ [] → ∀ g ∈ blkOf a, g ∉ M) : OwnW w' base a c ws := by
  rcases h with rfl | ⟨gs, rest, rfl, hb, hB, hc⟩
  · exact .inl rfl
  · by_cases hw : ws = []
    · exact .inl hw
    · exact .inr ⟨gs, rest, rfl, hb, hB.ext hx (hm hw gs (by simp [blkOf])), hc⟩
theorem MemIs.ext {w w' : World} {base g : Nat} {a : Option Addr} {c : Nat} {ws : List (BitVec 64)} {M : List Nat} (h : MemIs w base g a c ws) (hx : Ext M w w') (hg : g ∉ M) (hm : ws ≠ [] → ∀ g ∈ blkOf a, g ∉ M) : MemIs w' base g a c ws :=
  ⟨h.lo, by rw [hx.cell (a := ⟨g, 0, none⟩) h.lt hg]; exact h.hd, h.len, h.cap, h.nil, h.own.ext hx hm, h.apart, h.up⟩
theorem MemIs.ext0 {w w' : World} {base g : Nat} {a : Option Addr} {c : Nat} {ws : List (BitVec 64)} (h : MemIs w base g a c ws) (hx : Ext [] w w') : MemIs w' base g a c ws := h.ext hx (by simp) (by simp)

section
variable {w : World} {base g : Nat} {a : Option Addr} {c : Nat} {ws : List (BitVec 64)}
end
end Go.Proofs.Ytdpmidgeipibbaa
end
section
set_option linter.unusedVariables false
set_option linter.unusedSimpArgs false
set_option maxHeartbeats 4000000
namespace Go.Proofs.Ytdpmidgeipibbaa
open Go.Sh Go.RowKit

abbrev OwnU (w : World) (v : Value) (l : List (BitVec 64)) : Prop := Own w 69 1 v l.length (wrds l)
abbrev NewU (w w' : World) (v : Value) (l : List (BitVec 64)) : Prop := NewR 69 1 w w' v l.length (wrds l)
/-- one word of an own row: what a load and a store need -/
theorem OwnU.at {w : World} {v : Value} {l : List (BitVec 64)} {i : Nat} (h : OwnU w v l) (hi : i < l.length) (x : BitVec 64) :
    ∃ g cap, v = .slice (some ⟨g, 0, none⟩) l.length cap ∧ w.cell? ⟨g, i, none⟩ = some (u64 l[i]) ∧ w.frozen? ⟨g, i, none⟩ = false ∧ OwnU (w.setCell ⟨g, i, none⟩ (u64 x)) v (l.set i x) ∧ Ext (blk v) w (w.setCell ⟨g, i, none⟩ (u64 x)) ∧ g < w.heap.size := by
  obtain ⟨g, cap, rest, rfl, hB, hnc, hm, hl⟩ := h.open (by omega)
  have c1 : w.cell? ⟨g, i, none⟩ = some (u64 l[i]) := by rw [hB.cell, List.getElem?_append_left (by simpa using hi)]; simp [hi]
  have B2 := hB.set (i := i) (v := u64 x)
  rw [List.set_append_left _ _ (by simpa using hi)] at B2
  have e2 : (wrds l).set i (u64 x) = wrds (l.set i x) := by simp [wrds, List.map_set]
  rw [e2] at B2
  refine ⟨g, cap, rfl, c1, hB.frozen, ?_, (Ext.set (w := w) (b := g)).more (by simp [blk, Value.ownBlock]), hB.lt⟩
  have := Own.close (n := l.length) (s := 1) B2 hnc hm (by simpa using hl) (by simp)
  show Own _ _ _ _ (l.set i x).length _
  rw [List.length_set]
  exact this
end Go.Proofs.Ytdpmidgeipibbaa
end
section
set_option linter.unusedVariables false
set_option linter.unusedSimpArgs false
set_option maxHeartbeats 4000000
namespace Go.Proofs.Ytdpmidgeipibbaa
open Go.Sh Go.RowKit

def szW (x : BitVec 64) : Nat := 1 + (uP x).toNat + ((uB x).toNat + 7) / 8
def okW (x : BitVec 64) : Prop := isHead x ∧ uM x = false
instance (x : BitVec 64) : Decidable (okW x) := by unfold okW isHead rightP; infer_instance
theorem okW_size {x : BitVec 64} (h : okW x) : sizeV (vP x) (vB x) (vM x) (vT x) = szW x ∧ unErr x = 0 ∧ vM x = false ∧ 1 ≤ szW x ∧ szW x ≤ 193 := by
  obtain ⟨h1, h2⟩ := h
  have h3 := h1.1
  have h4 := h3
  rw [h2, right_f] at h4
  refine ⟨?_, if_pos h1, by simp [vM, h1, h2], by unfold szW; omega, by unfold szW; omega⟩
  simp only [sizeV, vP, vB, vM, vT, if_pos h1, h2, and_true]
  rw [h2] at h3
  rw [if_pos h3]
  unfold szW
  omega
theorem okW_not {x : BitVec 64} (h : ¬ okW x) (he : unErr x = 0) : vM x = true := by
  have h1 : isHead x := by
    by_cases h1 : isHead x
    · exact h1
    · simp [unErr, h1] at he
  have : uM x = true := by
    cases hm : uM x
    · exact absurd ⟨h1, hm⟩ h
    · rfl
  simp [vM, h1, this]
theorem okW_pack {p b : Int} (h : rightP p b false 0) : okW (packW p b false 0) ∧ szW (packW p b false 0) = 1 + p.toNat + (b.toNat + 7) / 8 := by
  obtain ⟨h1, h2, h3, h4⟩ := un_pack h
  exact ⟨⟨un_pack_is h, h3⟩, by unfold szW; rw [h1, h2]⟩
def wat (ws : List (BitVec 64)) (i : Nat) : BitVec 64 := ws.getD i c0
def walk (ws : List (BitVec 64)) (t : Nat) : Nat → Nat → Option (List Nat)
  | 0, _ => some []
  | f + 1, o => if o < t then (if okW (wat ws o) ∧ o + szW (wat ws o) ≤ t then (walk ws t f (o + szW (wat ws o))).map (o :: ·) else none) else some []
def objs (ws : List (BitVec 64)) (b t : Nat) : Option (List Nat) := walk ws t t b
inductive Objs (ws : List (BitVec 64)) (t : Nat) : Nat → List Nat → Prop
  | nil : Objs ws t t []
  | cons {o : Nat} {l : List Nat} : okW (wat ws o) → o + szW (wat ws o) ≤ t → Objs ws t (o + szW (wat ws o)) l → Objs ws t o (o :: l)
theorem szW_pos {x : BitVec 64} : 1 ≤ szW x := by unfold szW; omega
theorem Objs.le {ws : List (BitVec 64)} {t o : Nat} {l : List Nat} (h : Objs ws t o l) : o ≤ t := by
  induction h with
  | nil => exact Nat.le_refl _
  | cons _ h2 _ _ => omega
theorem Objs.walk {ws : List (BitVec 64)} {t o : Nat} {l : List Nat} (h : Objs ws t o l) : ∀ f, t ≤ o + f → Go.Proofs.Ytdpmidgeipibbaa.walk ws t f o = some l := by
  induction h with
  | nil =>
    intro f hf
    cases f with
    | zero => rfl
    | succ f => unfold Go.Proofs.Ytdpmidgeipibbaa.walk; rw [if_neg (Nat.lt_irrefl _)]
  | @cons o l h1 h2 h3 ih =>
    intro f hf
    have hp := szW_pos (x := wat ws o)
    have hle := h3.le
    cases f with
    | zero => omega
    | succ f => unfold Go.Proofs.Ytdpmidgeipibbaa.walk; rw [if_pos (by omega), if_pos ⟨h1, h2⟩, ih f (by omega)]; rfl
theorem Objs.more {ws ws' : List (BitVec 64)} {t n o : Nat} {l : List Nat} (h : Objs ws t o l) (hs : ∀ i, i < t → wat ws' i = wat ws i) (hk : okW (wat ws' t)) (hn : n = szW (wat ws' t)) : Objs ws' (t + n) o (l ++ [t]) := by
  induction h with
  | nil => subst hn; exact .cons hk (Nat.le_refl _) .nil
  | @cons o l h1 h2 h3 ih =>
    have hp := szW_pos (x := wat ws o)
    have hle := h3.le
    have e := hs o (by omega)
    rw [← e] at h1 h2 ih
    exact .cons h1 (by omega) ih
/-- nought from a place on -/
def zr (ws : List (BitVec 64)) (o n : Nat) : List (BitVec 64) := ws.mapIdx fun i x => if o ≤ i ∧ i < o + n then c0 else x
@[simp] theorem zr_length {ws : List (BitVec 64)} {o n : Nat} : (zr ws o n).length = ws.length := by simp [zr]
def alW (ws : List (BitVec 64)) (t : Nat) (x : BitVec 64) (n : Nat) : List (BitVec 64) := zr (ws.set t x) (t + 1) (n - 1)
@[simp] theorem alW_length {ws : List (BitVec 64)} {t n : Nat} {x : BitVec 64} : (alW ws t x n).length = ws.length := by simp [alW]
theorem wat_zr {ws : List (BitVec 64)} {o n i : Nat} : wat (zr ws o n) i = if o ≤ i ∧ i < o + n then c0 else wat ws i := by
  unfold wat zr
  simp only [List.getD_eq_getElem?_getD, List.getElem?_mapIdx]
  cases ws[i]? with
  | none => simp
  | some x => simp
theorem wat_set {ws : List (BitVec 64)} {t i : Nat} {x : BitVec 64} (ht : t < ws.length) : wat (ws.set t x) i = if i = t then x else wat ws i := by
  unfold wat
  simp only [List.getD_eq_getElem?_getD, List.getElem?_set]
  by_cases h : t = i
  · subst h; simp [ht]
  · rw [if_neg h, if_neg (fun e => h e.symm)]
theorem wat_alW {ws : List (BitVec 64)} {t n i : Nat} {x : BitVec 64} (ht : t < ws.length) : wat (alW ws t x n) i = if i = t then x else if t + 1 ≤ i ∧ i < t + 1 + (n - 1) then c0 else wat ws i := by
  unfold alW
  rw [wat_zr, wat_set ht]
  by_cases h : i = t
  · subst h; rw [if_neg (by omega)]; simp
  · simp [h]
theorem Objs.alloc {ws : List (BitVec 64)} {b t n : Nat} {l : List Nat} {p bb : Int} (h : Objs ws t b l) (ht : t < ws.length) (hr : rightP p bb false 0) (hn : n = szW (packW p bb false 0)) : Objs (alW ws t (packW p bb false 0) n) (t + n) b (l ++ [t]) := by
  have e : wat (alW ws t (packW p bb false 0) n) t = packW p bb false 0 := by rw [wat_alW ht, if_pos rfl]
  refine h.more (fun i hi => ?_) (by rw [e]; exact (okW_pack hr).1) (by rw [e]; exact hn)
  rw [wat_alW ht, if_neg (by omega), if_neg (by omega)]
/-! rows of numbers and of words -/
abbrev nums (l : List Nat) : List Value := l.map fun (i : Nat) => i64 (i : Int)
abbrev OwnI (w : World) (v : Value) (l : List Nat) : Prop := Own w 3 1 v l.length (nums l)
theorem appIl {w : World} {K : K1} {v : Value} {l : List Nat} {o g : Nat} {cs : List Value} (hO : OwnI w v l) (hcs : cs = [i64 (o : Int)]) (hl : l.length ≤ 100000)
    (hK : ∀ v' w', OwnI w' v' (l ++ [o]) → Stp (blk v) (blk v') w w' → K v' w') (hg : g = w.heap.size := by first | rfl | (simp only [World.size_alloc, World.size_drew, World.size_setCell] <;> omega)) : xBuiltin Try.prog .append #[66, 66] 66 [false, false] [v, .slice (some ⟨g, 0, none⟩) 1 1] (w.alloc (.cells cs.toArray 3)) K := by
  subst hcs hg
  refine xAppL (bytes := 8) (z := .int .i64 0) (by kernel_rfl) (by kernel_rfl) (by rfl) (by decide) hO (by simp) (by simp [Value.oneCell']) (by omega) (by omega) fun v' w' h1 h2 => hK v' w' ?_ h2
  show Own w' 3 1 v' (l ++ [o]).length (nums (l ++ [o]))
  rw [List.length_append, nums, List.map_append]
  exact h1
end Go.Proofs.Ytdpmidgeipibbaa
end
section
set_option linter.unusedVariables false
set_option linter.unusedSimpArgs false
set_option maxHeartbeats 4000000
namespace Go.Proofs.Ytdpmidgeipibbaa
open Go.Sh Go.RowKit Go.ChangeShapes Go.WideShapes Go.ChangeAt

structure GN where
  p : List Int
  pa : Option Addr
  pc : Nat
  d : List (BitVec 8)
  da : Option Addr
  dc : Nat
structure GR where
  s : List (BitVec 8)
  to : Int
abbrev gnC (x : GN) : List Value := [.slice x.pa x.p.length x.pc, .slice x.da x.d.length x.dc]
abbrev grC (r : GR) : List Value := [.string (strOf r.s), i64 r.to]
abbrev its (l : List Int) : List Value := l.map fun i => i64 i
structure NOk (w : World) (x : GN) : Prop where
  pr : RowAt w x.pa (its x.p)
  pl : x.p.length ≤ x.pc
  pn : x.pa = none → x.pc = 0
  dr : RowAt w x.da (bys x.d)
  dl : x.d.length ≤ x.dc
  dn : x.da = none → x.dc = 0
theorem NOk.ext0 {w w' : World} {x : GN} (h : NOk w x) (hx : Ext [] w w') : NOk w' x := ⟨h.pr.ext0 hx, h.pl, h.pn, h.dr.ext0 hx, h.dl, h.dn⟩
/-- a graph's two rows -/
structure GIs (w : World) (na : Option Addr) (nc : Nat) (ra : Option Addr) (rc : Nat) (ns : List GN) (rs : List GR) : Prop where
  nr : RowAt w na (ns.flatMap gnC)
  nl : ns.length ≤ nc
  nn : na = none → nc = 0
  rr : RowAt w ra (rs.flatMap grC)
  rl : rs.length ≤ rc
  rn : ra = none → rc = 0
  ok : ∀ x ∈ ns, NOk w x
theorem GIs.ext0 {w w' : World} {na ra : Option Addr} {nc rc : Nat} {ns : List GN} {rs : List GR} (h : GIs w na nc ra rc ns rs) (hx : Ext [] w w') : GIs w' na nc ra rc ns rs :=
  ⟨h.nr.ext0 hx, h.nl, h.nn, h.rr.ext0 hx, h.rl, h.rn, fun x hm => (h.ok x hm).ext0 hx⟩
abbrev gV (na : Option Addr) (nc : Nat) (ra : Option Addr) (rc : Nat) (ns : List GN) (rs : List GR) : Value := .agg #[.slice na ns.length nc, .slice ra rs.length rc]
theorem pair_len {α : Type} {f : α → List Value} (hf : ∀ x, (f x).length = 2) (l : List α) : (l.flatMap f).length = l.length * 2 := by
  induction l with
  | nil => rfl
  | cons x l ih => rw [List.flatMap_cons, List.length_append, ih, List.length_cons, hf]; omega
theorem pair_cell {α : Type} {f : α → List Value} (hf : ∀ x, (f x).length = 2) : ∀ (l : List α) (k : Nat) (h : k < l.length) (j : Nat), j < 2 → (l.flatMap f)[k * 2 + j]? = (f l[k])[j]? := by
  intro l
  induction l with
  | nil => intro k h; simp at h
  | cons x l ih =>
    intro k h j hj
    rw [List.flatMap_cons]
    cases k with
    | zero => rw [List.getElem?_append_left (by rw [hf]; omega)]; simp
    | succ k =>
      rw [List.getElem?_append_right (by rw [hf]; omega), show (k + 1) * 2 + j - (f x).length = k * 2 + j by rw [hf]; omega]
      simpa using ih k (by simpa using h) j hj
theorem pair_at {α : Type} {f : α → List Value} (hf : ∀ x, (f x).length = 2) {w : World} {l : List α} {a : Option Addr} {k : Nat} (h : RowAt w a (l.flatMap f)) (hk : k < l.length) :
    ∃ b o, a = some ⟨b, o, none⟩ ∧ b < w.heap.size ∧ (∀ x, (f l[k])[0]? = some x → w.cell? ⟨b, o + k * 2, none⟩ = some x) ∧ ∀ x, (f l[k])[1]? = some x → w.cell? ⟨b, o + k * 2 + 1, none⟩ = some x := by
  obtain ⟨b, o, rfl, hb, hc⟩ := h.get (by intro e; have := congrArg List.length e; rw [pair_len hf] at this; simp only [List.length_nil] at this; omega)
  refine ⟨b, o, rfl, hb, fun x hx => ?_, fun x hx => ?_⟩
  · have := hc (k * 2 + 0) x ((pair_cell hf l k hk 0 (by omega)).trans hx); simpa using this
  · have := hc (k * 2 + 1) x ((pair_cell hf l k hk 1 (by omega)).trans hx); rw [Nat.add_assoc]; exact this
theorem gn_at {w : World} {l : List GN} {a : Option Addr} {k : Nat} (h : RowAt w a (l.flatMap gnC)) (hk : k < l.length) :
    ∃ b o, a = some ⟨b, o, none⟩ ∧ b < w.heap.size ∧ w.cell? ⟨b, o + k * 2, none⟩ = some (.slice l[k].pa l[k].p.length l[k].pc) ∧ w.cell? ⟨b, o + k * 2 + 1, none⟩ = some (.slice l[k].da l[k].d.length l[k].dc) := by
  obtain ⟨b, o, h1, h2, h3, h4⟩ := pair_at (fun _ => rfl) h hk
  exact ⟨b, o, h1, h2, h3 _ rfl, h4 _ rfl⟩
theorem gr_at {w : World} {l : List GR} {a : Option Addr} {k : Nat} (h : RowAt w a (l.flatMap grC)) (hk : k < l.length) :
    ∃ b o, a = some ⟨b, o, none⟩ ∧ b < w.heap.size ∧ w.cell? ⟨b, o + k * 2, none⟩ = some (.string (strOf l[k].s)) ∧ w.cell? ⟨b, o + k * 2 + 1, none⟩ = some (i64 l[k].to) := by
  obtain ⟨b, o, h1, h2, h3, h4⟩ := pair_at (fun _ => rfl) h hk
  exact ⟨b, o, h1, h2, h3 _ rfl, h4 _ rfl⟩
theorem list2 {α : Type} {l : List α} (h : l.length = 2) : ∃ a b, l = [a, b] := by
  match l, h with
  | [a, b], _ => exact ⟨a, b, rfl⟩
theorem gn_cells {W : World} {cs : List Value} (hl : cs.length = 2) (hc : ∀ (i : Nat) (d : Leaf) (c : Value), [Leaf.row .i64, .row .u8][i]? = some d → cs[i]? = some c → leafOk W d c) : ∃ x : GN, cs = gnC x ∧ NOk W x := by
  obtain ⟨c0, c1, rfl⟩ := list2 hl
  obtain ⟨a, n, c, zs, rfl, q1, q2, q3, q4, q5, q6⟩ := hc 0 _ _ rfl rfl
  obtain ⟨a', n', c', zs', rfl, r1, r2, r3, r4, r5, r6⟩ := hc 1 _ _ rfl rfl
  have B := bytesArg r1 r2 r3 r4 r5 r6
  refine ⟨⟨zs, a, c, zs'.map (BitVec.ofInt 8), a', c'⟩, ?_, ⟨q5, by simpa using (q1 ▸ q2), q4, B.row, by rw [← B.len]; exact r2, r4⟩⟩
  simp only [gnC]
  rw [← B.len, q1]
theorem gr_cells {W : World} {cs : List Value} (hl : cs.length = 2) (hc : ∀ (i : Nat) (d : Leaf) (c : Value), [Leaf.str, .int .i64][i]? = some d → cs[i]? = some c → leafOk W d c) : ∃ x : GR, cs = grC x := by
  obtain ⟨c0, c1, rfl⟩ := list2 hl
  obtain ⟨s, rfl⟩ := hc 0 _ _ rfl rfl
  obtain ⟨z, rfl, _⟩ := hc 1 _ _ rfl rfl
  have e : Go.Sh.strOf (s.data.toList.map UInt8.toBitVec) = s := by
    cases s with | mk d =>
    unfold Go.Sh.strOf
    congr 1
    rw [List.map_map]
    have : ∀ l : List UInt8, l.map (UInt8.ofBitVec ∘ UInt8.toBitVec) = l := fun l => (List.map_congr_left (g := id) fun x _ => rfl).trans (List.map_id _)
    rw [this]
  exact ⟨⟨s.data.toList.map UInt8.toBitVec, z⟩, by simp only [grC]; rw [e]⟩
set_option maxRecDepth 100000 in
theorem graph_open {H : Type} {enc : TypeId × Value → H} {W : World} {base : Nat} {v : Value} {d : DataW H} {p : List MemPlace} (hv : Value.okWide Try.prog W .any base 25 v) (h : DataW.Trod enc Try.prog W 0 (fun _ => true) true 25 v d p) :
    ∃ na nc ra rc ns rs, v = gV na nc ra rc ns rs ∧ GIs W na nc ra rc ns rs := by
  obtain ⟨a, n, c, b, m, k, C, D, rfl, ⟨h1, h2, h3⟩, ⟨g1, g2, g3⟩, hC, hR, hD, hR2⟩ := open_two (ea := 72) (eb := 74) (Fa := 2) (Fb := 2) (la := [.row .i64, .row .u8]) (lb := [.str, .int .i64]) (P := Try.prog) Try.underlying25 rfl rfl (by kernel_rfl) (by kernel_rfl) (by kernel_rfl) (by kernel_rfl) (by kernel_rfl) (by decide) (by kernel_rfl) (by kernel_rfl) (by kernel_rfl) (by decide) (by kernel_rfl) hv h
  have each : ∀ i, ∃ x : GN, i < n → C i = gnC x ∧ NOk W x := fun i => by
    by_cases hi : i < n
    · obtain ⟨x, h1, h2⟩ := gn_cells (hC i hi).1 (hC i hi).2
      exact ⟨x, fun _ => ⟨h1, h2⟩⟩
    · exact ⟨⟨[], none, 0, [], none, 0⟩, fun h => absurd h hi⟩
  have each2 : ∀ i, ∃ x : GR, i < m → D i = grC x := fun i => by
    by_cases hi : i < m
    · obtain ⟨x, h1⟩ := gr_cells (hD i hi).1 (hD i hi).2
      exact ⟨x, fun _ => h1⟩
    · exact ⟨⟨[], 0⟩, fun h => absurd h hi⟩
  obtain ⟨X, hX⟩ : ∃ X : Nat → GN, ∀ i, i < n → C i = gnC (X i) ∧ NOk W (X i) := ⟨fun i => Classical.choose (each i), fun i => Classical.choose_spec (each i)⟩
  obtain ⟨Y, hY⟩ : ∃ Y : Nat → GR, ∀ i, i < m → D i = grC (Y i) := ⟨fun i => Classical.choose (each2 i), fun i => Classical.choose_spec (each2 i)⟩
  refine ⟨a, c, b, k, (List.range n).map X, (List.range m).map Y, by simp [gV], ⟨?_, by simpa using h1, h3, ?_, by simpa using g1, g3, fun x hx => ?_⟩⟩
  · rw [flat_map (f := gnC) (X := X) fun i hi => (hX i hi).1] at hR
    exact hR
  · rw [flat_map (f := grC) (X := Y) fun i hi => hY i hi] at hR2
    exact hR2
  · obtain ⟨i, hi, rfl⟩ := List.mem_map.1 hx
    exact (hX i (List.mem_range.1 hi)).2
structure GP where
  na : Option Addr
  nc : Nat
  ra : Option Addr
  rc : Nat
  ns : List GN
  rs : List GR
abbrev gPV (a : GP) : Value := gV a.na a.nc a.ra a.rc a.ns a.rs
set_option maxRecDepth 100000 in
theorem graph_open1 {H : Type} {enc : TypeId × Value → H} {W : World} {base : Nat} {v : Value} {d : DataW H} {p : List MemPlace} (hv : Value.okWide Try.prog W .any base 25 v) (h : DataW.Trod enc Try.prog W 0 (fun _ => true) true 25 v d p) :
    ∃ a : GP, v = gPV a ∧ GIs W a.na a.nc a.ra a.rc a.ns a.rs := by
  obtain ⟨na, nc, ra, rc, ns, rs, h1, h2⟩ := graph_open hv h
  exact ⟨⟨na, nc, ra, rc, ns, rs⟩, h1, h2⟩
/-- a graph of which a play is worth its while -/
structure FewG (ns : List GN) (rs : List GR) : Prop where
  n : ns.length ≤ 60
  r : rs.length ≤ 80
  x : ∀ x ∈ ns, x.p.length ≤ 70 ∧ x.d.length ≤ 1100
  s : ∀ r ∈ rs, r.s.length ≤ 40
abbrev rsGrp_0 := (And.intro @xBox_r (And.intro @loadK_some (And.intro @loadsK_s (And.intro @loadsK_n (And.intro @loadsR_s (And.intro @loadsR_n (And.intro @storesK_s (And.intro @storesK_n (And.intro @xPick_t (And.intro @xPick_f (And.intro @xGuard_tt (And.intro @xGuard_ff (And.intro @xGuard_tf (And.intro @xGuard_ft (And.intro @xGuard_u 
  (And.intro @xNil_r (And.intro @xIf_t (And.intro @xBin_add' (And.intro @xBin_sub' (And.intro @xBin_mul' (And.intro @xBin_quo' (And.intro @xBin_rem' (And.intro @xIf_f (And.intro @xIf_tt (And.intro @xEx0 (And.intro @xEx1 (And.intro @xEx2 (And.intro @xEx3 (And.intro @xBin_eqs (And.intro @xBin_nes (And.intro @xUn_not (And.intro @xu8_add (And.intro @xu8_lss 
  (And.intro @xu8_gtr (And.intro @xu16_add (And.intro @xu16_lss (And.intro @xu16_gtr (And.intro @xu32_add (And.intro @xu32_lss (And.intro @xu32_gtr (And.intro @xu64_add (And.intro @xu64_lss (And.intro @xu64_gtr (And.intro @xi64_lss (And.intro @xi64_gtr (And.intro @xMakeFunc_r (And.intro @xSq_r (And.intro @xPur_s (And.intro @xRd_s (And.intro @xRe_s 
  (And.intro @xDet_s (And.intro @xDet_ld (And.intro @xDet_ld2 (And.intro @xDet_ld3 (And.intro @xDet_ld4 (And.intro @xGuard_tt (And.intro @ld_9 (And.intro @ld_22 (And.intro @ld_23 (And.intro @ld_66 (And.intro @ld_70 (And.intro @fa_25_0 (And.intro @fa_25_1 (And.intro @fa_72_0 (And.intro @fa_72_1 (And.intro @fa_74_0 (And.intro @ia_22 (And.intro @ia_23 (And.intro @ln_22 
  (And.intro @ln_23 (And.intro @ln_66 (And.intro @ln_70 @ln_9))))))))))))))))))))))))))))))))))))))))))))))))))))))))))))))))))))))))
abbrev rsGrp_1 := (And.intro @setCells_c (And.intro @setCells_n (And.intro @World.setCell_alloc_at (And.intro @World.setCell_alloc_past (And.intro @World.cell?_alloc_at (And.intro @World.cell?_alloc_past (And.intro @World.frozen?_alloc_at (And.intro @World.frozen?_alloc_past 
  (And.intro @World.size_alloc (And.intro @dlt_t (And.intro @dlt_f (And.intro @dle_t (And.intro @dle_f (And.intro @deq_t (And.intro @deq_f (And.intro @dne_t (And.intro @dne_f (And.intro @not_true_eq_false (And.intro @Bool.false_and (And.intro @Bool.true_and (And.intro @Bool.and_true (And.intro @Bool.and_false (And.intro @wrap_in (And.intro @Int.toNat_natCast 
  (And.intro @Nat.mul_one (And.intro @cells_int (And.intro @cells_bool (And.intro @cells_string (And.intro @cells_slice (And.intro @cells_pointer (And.intro @cells_agg (And.intro @one_int (And.intro @one_bool (And.intro @one_string (And.intro @one_slice (And.intro @one_pointer (And.intro @beq_tt (And.intro @beq_ff (And.intro @beq_tf 
  (And.intro @beq_ft (And.intro @cell_sets_b (And.intro @frozen_sets (And.intro @size_sets (And.intro @World.size_drew (And.intro @Nat.zero_add (And.intro @Nat.add_zero (And.intro @cell_drew (And.intro @frozen_drew (And.intro @cell_set_eq (And.intro @cell_set_o (And.intro @cell_set_b (And.intro @World.frozen?_setCell 
  (And.intro @decide_true (And.intro @decide_false (And.intro @not_false_eq_true (And.intro @Bool.not_true @Bool.not_false))))))))))))))))))))))))))))))))))))))))))))))))))))))))
theorem Few_spec {w : World} {na ra : Option Addr} {nc rc : Nat} {ns : List GN} {rs : List GR} (h : GIs w na nc ra rc ns rs) : Yld Try.prog n_loamlaw17_Few #[gV na nc ra rc ns rs] w fun u w' => (∃ b : Bool, u = .bool b ∧ (b = true → FewG ns rs)) ∧ Ext [] w w' := by
  refine loamlaw17_Few_of ?_
  unfold loamlaw17_Few
  simp (disch := (first | omega | decide | (simp only [World.size_alloc, World.size_setCell, World.size_drew, size_sets, List.mem_cons, List.not_mem_nil, or_false, not_false_eq_true] <;> omega) | fail)) only [↓rsGrp_0, rsGrp_1, Option.isNone_some, Option.isNone_none, tick_eq, tickV_eq, ne_eq, Int.reduceAdd, Int.reduceSub, Int.reduceMul, Int.reduceEq, Int.reduceLT, Int.reduceLE, Int.reduceToNat, Nat.reduceMul, Nat.reduceAdd, Nat.reduceSub, List.nil_append, List.cons_append, List.getElem?_toArray, List.getElem?_cons_zero, List.getElem?_cons_succ, List.setIfInBounds_toArray, List.set_cons_zero, List.set_cons_succ, Option.map_some, List.not_mem_nil, ←decide_not, eq_self]
  have B : Blk (w.alloc (.cells #[.slice na ns.length nc, .slice ra rs.length rc] 25)) w.heap.size 25 [.slice na ns.length nc, .slice ra rs.length rc] := Blk.at rfl
  have X : Ext [] w (w.alloc (.cells #[.slice na ns.length nc, .slice ra rs.length rc] 25)) := Ext.alloc _ _ _
  have hy := h.ext0 X
  by_cases h1 : 60 < ns.length
  · simp (disch := (first | omega | decide | (simp only [World.size_alloc, World.size_setCell, World.size_drew, size_sets, List.mem_cons, List.not_mem_nil, or_false, not_false_eq_true] <;> omega) | fail)) only [↓rsGrp_0, rsGrp_1, Option.isNone_some, Option.isNone_none, tick_eq, tickV_eq, ne_eq, Int.reduceAdd, Int.reduceSub, Int.reduceMul, Int.reduceEq, Int.reduceLT, Int.reduceLE, Int.reduceToNat, Nat.reduceMul, Nat.reduceAdd, Nat.reduceSub, List.nil_append, List.cons_append, List.getElem?_toArray, List.getElem?_cons_zero, List.getElem?_cons_succ, List.setIfInBounds_toArray, List.set_cons_zero, List.set_cons_succ, Option.map_some, List.not_mem_nil, ←decide_not, eq_self]
    exact ⟨⟨false, by trivial, fun h => by cases h⟩, X⟩
  by_cases h2 : 80 < rs.length
  · simp (disch := (first | omega | decide | (simp only [World.size_alloc, World.size_setCell, World.size_drew, size_sets, List.mem_cons, List.not_mem_nil, or_false, not_false_eq_true] <;> omega) | fail)) only [↓rsGrp_0, rsGrp_1, Option.isNone_some, Option.isNone_none, tick_eq, tickV_eq, ne_eq, Int.reduceAdd, Int.reduceSub, Int.reduceMul, Int.reduceEq, Int.reduceLT, Int.reduceLE, Int.reduceToNat, Nat.reduceMul, Nat.reduceAdd, Nat.reduceSub, List.nil_append, List.cons_append, List.getElem?_toArray, List.getElem?_cons_zero, List.getElem?_cons_succ, List.setIfInBounds_toArray, List.set_cons_zero, List.set_cons_succ, Option.map_some, List.not_mem_nil, ←decide_not, eq_self]
    exact ⟨⟨false, by trivial, fun h => by cases h⟩, X⟩
  simp (disch := (first | omega | decide | (simp only [World.size_alloc, World.size_setCell, World.size_drew, size_sets, List.mem_cons, List.not_mem_nil, or_false, not_false_eq_true] <;> omega) | fail)) only [↓rsGrp_0, rsGrp_1, Option.isNone_some, Option.isNone_none, tick_eq, tickV_eq, ne_eq, Int.reduceAdd, Int.reduceSub, Int.reduceMul, Int.reduceEq, Int.reduceLT, Int.reduceLE, Int.reduceToNat, Nat.reduceMul, Nat.reduceAdd, Nat.reduceSub, List.nil_append, List.cons_append, List.getElem?_toArray, List.getElem?_cons_zero, List.getElem?_cons_succ, List.setIfInBounds_toArray, List.set_cons_zero, List.set_cons_succ, Option.map_some, List.not_mem_nil, ←decide_not, eq_self]
  generalize w.heap.size = hb at *
  generalize w.alloc (.cells #[.slice na ns.length nc, .slice ra rs.length rc] 25) = y at *
  refine xLoop_n ns.length (fun j => [i64 (j : Int)]) (fun j w' => Ext [] y w' ∧ ∀ i (hi : i < ns.length), i < j → ns[i].p.length ≤ 70 ∧ ns[i].d.length ≤ 1100) rfl ⟨Ext.refl _ _, by intro i _ hi; omega⟩ ?_ ?_
  · intro j hj u v1 hu ⟨F, hq⟩ nxt hnx
    simp only [List.map_cons, List.map_nil, List.cons.injEq, and_true] at hu
    rw [hu]
    have k1 := fun i => (B.ext F (by simp)).cell (i := i)
    obtain ⟨b1, o1, rfl, z1, c1, c2⟩ := gn_at (hy.ext0 F).nr hj
    unfold loamlaw17_Few_l1
    by_cases g1 : 70 < ns[j].p.length
    · simp (disch := (first | omega | decide | (simp only [World.size_alloc, World.size_setCell, World.size_drew, size_sets, List.mem_cons, List.not_mem_nil, or_false, not_false_eq_true] <;> omega) | fail)) only [↓rsGrp_0, rsGrp_1, Option.isNone_some, Option.isNone_none, tick_eq, tickV_eq, ne_eq, Int.reduceAdd, Int.reduceSub, Int.reduceMul, Int.reduceEq, Int.reduceLT, Int.reduceLE, Int.reduceToNat, Nat.reduceMul, Nat.reduceAdd, Nat.reduceSub, List.nil_append, List.cons_append, List.getElem?_toArray, List.getElem?_cons_zero, List.getElem?_cons_succ, List.setIfInBounds_toArray, List.set_cons_zero, List.set_cons_succ, Option.map_some, List.not_mem_nil, ←decide_not, k1, c1, c2]
      exact ⟨⟨false, by trivial, fun h => by cases h⟩, X.trans F⟩
    by_cases g2 : 1100 < ns[j].d.length
    · simp (disch := (first | omega | decide | (simp only [World.size_alloc, World.size_setCell, World.size_drew, size_sets, List.mem_cons, List.not_mem_nil, or_false, not_false_eq_true] <;> omega) | fail)) only [↓rsGrp_0, rsGrp_1, Option.isNone_some, Option.isNone_none, tick_eq, tickV_eq, ne_eq, Int.reduceAdd, Int.reduceSub, Int.reduceMul, Int.reduceEq, Int.reduceLT, Int.reduceLE, Int.reduceToNat, Nat.reduceMul, Nat.reduceAdd, Nat.reduceSub, List.nil_append, List.cons_append, List.getElem?_toArray, List.getElem?_cons_zero, List.getElem?_cons_succ, List.setIfInBounds_toArray, List.set_cons_zero, List.set_cons_succ, Option.map_some, List.not_mem_nil, ←decide_not, k1, c1, c2]
      exact ⟨⟨false, by trivial, fun h => by cases h⟩, X.trans F⟩
    simp (disch := (first | omega | decide | (simp only [World.size_alloc, World.size_setCell, World.size_drew, size_sets, List.mem_cons, List.not_mem_nil, or_false, not_false_eq_true] <;> omega) | fail)) only [↓rsGrp_0, rsGrp_1, Option.isNone_some, Option.isNone_none, tick_eq, tickV_eq, ne_eq, Int.reduceAdd, Int.reduceSub, Int.reduceMul, Int.reduceEq, Int.reduceLT, Int.reduceLE, Int.reduceToNat, Nat.reduceMul, Nat.reduceAdd, Nat.reduceSub, List.nil_append, List.cons_append, List.getElem?_toArray, List.getElem?_cons_zero, List.getElem?_cons_succ, List.setIfInBounds_toArray, List.set_cons_zero, List.set_cons_succ, Option.map_some, List.not_mem_nil, ←decide_not, k1, c1, c2]
    refine hnx _ ⟨F, fun i hi hij => ?_⟩
    by_cases e : i = j
    · subst e; exact ⟨by omega, by omega⟩
    · exact hq i hi (by omega)
  · intro u v1 hu ⟨F, hq⟩ nxt
    simp only [List.map_cons, List.map_nil, List.cons.injEq, and_true] at hu
    rw [hu]
    have k1 := fun i => (B.ext F (by simp)).cell (i := i)
    unfold loamlaw17_Few_l1
    simp (disch := (first | omega | decide | (simp only [World.size_alloc, World.size_setCell, World.size_drew, size_sets, List.mem_cons, List.not_mem_nil, or_false, not_false_eq_true] <;> omega) | fail)) only [↓rsGrp_0, rsGrp_1, Option.isNone_some, Option.isNone_none, tick_eq, tickV_eq, ne_eq, Int.reduceAdd, Int.reduceSub, Int.reduceMul, Int.reduceEq, Int.reduceLT, Int.reduceLE, Int.reduceToNat, Nat.reduceMul, Nat.reduceAdd, Nat.reduceSub, List.nil_append, List.cons_append, List.getElem?_toArray, List.getElem?_cons_zero, List.getElem?_cons_succ, List.setIfInBounds_toArray, List.set_cons_zero, List.set_cons_succ, Option.map_some, List.not_mem_nil, ←decide_not, k1]
    refine xLoop_n rs.length (fun j => [i64 (j : Int)]) (fun j w' => Ext [] y w' ∧ ∀ i (hi : i < rs.length), i < j → rs[i].s.length ≤ 40) rfl ⟨F, by intro i _ hi; omega⟩ ?_ ?_
    · intro j hj u v2 hu ⟨F2, hq2⟩ nxt hnx
      simp only [List.map_cons, List.map_nil, List.cons.injEq, and_true] at hu
      rw [hu]
      have k2 := fun i => (B.ext F2 (by simp)).cell (i := i)
      obtain ⟨b1, o1, rfl, z1, c1, c2⟩ := gr_at (hy.ext0 F2).rr hj
      unfold loamlaw17_Few_l2
      have hsz := strOf_size (l := rs[j].s)
      by_cases g1 : 40 < (strOf rs[j].s).size
      · simp (disch := (first | omega | decide | (simp only [World.size_alloc, World.size_setCell, World.size_drew, size_sets, List.mem_cons, List.not_mem_nil, or_false, not_false_eq_true] <;> omega) | fail)) only [↓rsGrp_0, rsGrp_1, Option.isNone_some, Option.isNone_none, tick_eq, tickV_eq, ne_eq, Int.reduceAdd, Int.reduceSub, Int.reduceMul, Int.reduceEq, Int.reduceLT, Int.reduceLE, Int.reduceToNat, Nat.reduceMul, Nat.reduceAdd, Nat.reduceSub, List.nil_append, List.cons_append, List.getElem?_toArray, List.getElem?_cons_zero, List.getElem?_cons_succ, List.setIfInBounds_toArray, List.set_cons_zero, List.set_cons_succ, Option.map_some, List.not_mem_nil, ←decide_not, k1, k2, c1, c2]
        exact ⟨⟨false, by trivial, fun h => by cases h⟩, X.trans F2⟩
      simp (disch := (first | omega | decide | (simp only [World.size_alloc, World.size_setCell, World.size_drew, size_sets, List.mem_cons, List.not_mem_nil, or_false, not_false_eq_true] <;> omega) | fail)) only [↓rsGrp_0, rsGrp_1, Option.isNone_some, Option.isNone_none, tick_eq, tickV_eq, ne_eq, Int.reduceAdd, Int.reduceSub, Int.reduceMul, Int.reduceEq, Int.reduceLT, Int.reduceLE, Int.reduceToNat, Nat.reduceMul, Nat.reduceAdd, Nat.reduceSub, List.nil_append, List.cons_append, List.getElem?_toArray, List.getElem?_cons_zero, List.getElem?_cons_succ, List.setIfInBounds_toArray, List.set_cons_zero, List.set_cons_succ, Option.map_some, List.not_mem_nil, ←decide_not, k1, k2, c1, c2]
      refine hnx _ ⟨F2, fun i hi hij => ?_⟩
      by_cases e : i = j
      · subst e; omega
      · exact hq2 i hi (by omega)
    · intro u v2 hu ⟨F2, hq2⟩ nxt
      simp only [List.map_cons, List.map_nil, List.cons.injEq, and_true] at hu
      rw [hu]
      have k2 := fun i => (B.ext F2 (by simp)).cell (i := i)
      unfold loamlaw17_Few_l2
      simp (disch := (first | omega | decide | (simp only [World.size_alloc, World.size_setCell, World.size_drew, size_sets, List.mem_cons, List.not_mem_nil, or_false, not_false_eq_true] <;> omega) | fail)) only [↓rsGrp_0, rsGrp_1, Option.isNone_some, Option.isNone_none, tick_eq, tickV_eq, ne_eq, Int.reduceAdd, Int.reduceSub, Int.reduceMul, Int.reduceEq, Int.reduceLT, Int.reduceLE, Int.reduceToNat, Nat.reduceMul, Nat.reduceAdd, Nat.reduceSub, List.nil_append, List.cons_append, List.getElem?_toArray, List.getElem?_cons_zero, List.getElem?_cons_succ, List.setIfInBounds_toArray, List.set_cons_zero, List.set_cons_succ, Option.map_some, List.not_mem_nil, ←decide_not, k1, k2]
      refine ⟨⟨true, by trivial, fun _ => ⟨by omega, by omega, fun x hx => ?_, fun r hr => ?_⟩⟩, X.trans F2⟩
      · obtain ⟨i, hi, rfl⟩ := List.getElem_of_mem hx
        exact hq i hi hi
      · obtain ⟨i, hi, rfl⟩ := List.getElem_of_mem hr
        exact hq2 i hi hi
end Go.Proofs.Ytdpmidgeipibbaa
end
section
set_option linter.unusedVariables false
set_option linter.unusedSimpArgs false
set_option maxHeartbeats 4000000
namespace Go.Proofs.Ytdpmidgeipibbaa
open Go.Sh Go.RowKit

abbrev OwnN (w : World) (v : Value) (l : List GN) : Prop := Own w 76 2 v l.length (l.flatMap gnC)
abbrev OwnRt (w : World) (v : Value) (l : List GR) : Prop := Own w 78 2 v l.length (l.flatMap grC)
theorem appN {w : World} {K : K1} {v : Value} {l : List GN} {x : GN} {g : Nat} {cs : List Value} (hO : OwnN w v l) (hcs : cs = gnC x) (hl : l.length ≤ 1000000)
    (hK : ∀ v' w', OwnN w' v' (l ++ [x]) → Stp (blk v) (blk v') w w' → K v' w') (hg : g = w.heap.size := by first | rfl | (simp only [World.size_alloc, World.size_drew, World.size_setCell] <;> omega)) : xBuiltin Try.prog .append #[31, 31] 31 [false, false] [v, .slice (some ⟨g, 0, none⟩) 1 1] (w.alloc (.cells cs.toArray 76)) K := by
  subst hcs hg
  refine xAppL (s := 2) (n := l.length) (m := 1) (xs := l.flatMap gnC) (news := gnC x) (bytes := 48) (z := .agg #[.slice none 0 0, .slice none 0 0]) (by kernel_rfl) (by kernel_rfl) (by rfl) (by decide) hO (by rfl) (by simp [gnC, Value.oneCell']) (by omega) (by omega) fun v' w' h1 h2 => hK v' w' ?_ h2
  show Own w' 76 2 v' (l ++ [x]).length ((l ++ [x]).flatMap gnC)
  rw [List.length_append, List.flatMap_append]
  simpa using h1
theorem appR {w : World} {K : K1} {v : Value} {l : List GR} {x : GR} {g : Nat} {cs : List Value} (hO : OwnRt w v l) (hcs : cs = grC x) (hl : l.length ≤ 1000000)
    (hK : ∀ v' w', OwnRt w' v' (l ++ [x]) → Stp (blk v) (blk v') w w' → K v' w') (hg : g = w.heap.size := by first | rfl | (simp only [World.size_alloc, World.size_drew, World.size_setCell] <;> omega)) : xBuiltin Try.prog .append #[32, 32] 32 [false, false] [v, .slice (some ⟨g, 0, none⟩) 1 1] (w.alloc (.cells cs.toArray 78)) K := by
  subst hcs hg
  refine xAppL (s := 2) (n := l.length) (m := 1) (xs := l.flatMap grC) (news := grC x) (bytes := 24) (z := .agg #[.string ⟨#[]⟩, .int .i64 0]) (by kernel_rfl) (by kernel_rfl) (by rfl) (by decide) hO (by rfl) (by simp [grC, Value.oneCell']) (by omega) (by omega) fun v' w' h1 h2 => hK v' w' ?_ h2
  show Own w' 78 2 v' (l ++ [x]).length ((l ++ [x]).flatMap grC)
  rw [List.length_append, List.flatMap_append]
  simpa using h1
abbrev rsGrp2_0 := (And.intro @xBox_r (And.intro @loadK_some (And.intro @loadsK_s (And.intro @loadsK_n (And.intro @loadsR_s (And.intro @loadsR_n (And.intro @storesK_s (And.intro @storesK_n (And.intro @xPick_t (And.intro @xPick_f (And.intro @xGuard_tt (And.intro @xGuard_ff (And.intro @xGuard_tf (And.intro @xGuard_ft (And.intro @xGuard_u 
  (And.intro @xNil_r (And.intro @xIf_t (And.intro @xBin_add' (And.intro @xBin_sub' (And.intro @xBin_mul' (And.intro @xBin_quo' (And.intro @xBin_rem' (And.intro @xIf_f (And.intro @xIf_tt (And.intro @xEx0 (And.intro @xEx1 (And.intro @xEx2 (And.intro @xEx3 (And.intro @xBin_eqs (And.intro @xBin_nes (And.intro @xUn_not (And.intro @xu8_add (And.intro @xu8_lss 
  (And.intro @xu16_add (And.intro @xu16_lss (And.intro @xu32_add (And.intro @xu32_lss (And.intro @xu64_add (And.intro @xu64_lss (And.intro @xi64_lss (And.intro @xMakeFunc_r (And.intro @xSq_r (And.intro @xPur_s (And.intro @xRd_s (And.intro @xRe_s (And.intro @xDet_s (And.intro @xDet_ld (And.intro @xDet_ld2 (And.intro @xDet_ld3 (And.intro @xDet_ld4 
  (And.intro @xGuard_tt (And.intro @ld_3 (And.intro @ld_9 (And.intro @ld_22 (And.intro @ld_23 (And.intro @ld_31 (And.intro @ld_32 (And.intro @ld_34 (And.intro @ld_66 (And.intro @ld_70 (And.intro @lr_34 (And.intro @fa_25_0 (And.intro @fa_25_1 (And.intro @fa_34_0 (And.intro @fa_34_1 (And.intro @fa_72_0 (And.intro @fa_72_1 (And.intro @fa_74_0 (And.intro @fa_74_1 (And.intro @al_34 
  (And.intro @st_31 (And.intro @st_32 (And.intro @st_34 (And.intro @bd_34 (And.intro @bd_76_0_1 (And.intro @bd_76_1 (And.intro @bd_78_0_1 (And.intro @ia_22 (And.intro @ia_23 (And.intro @ln_22 (And.intro @ln_23 (And.intro @bs_31_1 @bs_32_1))))))))))))))))))))))))))))))))))))))))))))))))))))))))))))))))))))))))))))))))))
abbrev rsGrp2_1 := (And.intro @setCells_c (And.intro @setCells_n (And.intro @World.setCell_alloc_at (And.intro @World.setCell_alloc_past (And.intro @World.cell?_alloc_at (And.intro @World.cell?_alloc_past (And.intro @World.frozen?_alloc_at (And.intro @World.frozen?_alloc_past 
  (And.intro @World.size_alloc (And.intro @dlt_t (And.intro @dlt_f (And.intro @dle_t (And.intro @dle_f (And.intro @deq_t (And.intro @deq_f (And.intro @dne_t (And.intro @dne_f (And.intro @not_true_eq_false (And.intro @Bool.false_and (And.intro @Bool.true_and (And.intro @Bool.and_true (And.intro @Bool.and_false (And.intro @wrap_in (And.intro @Int.toNat_natCast 
  (And.intro @Nat.mul_one (And.intro @cells_int (And.intro @cells_bool (And.intro @cells_string (And.intro @cells_slice (And.intro @cells_pointer (And.intro @cells_agg (And.intro @one_int (And.intro @one_bool (And.intro @one_string (And.intro @one_slice (And.intro @one_pointer (And.intro @beq_tt (And.intro @beq_ff (And.intro @beq_tf 
  (And.intro @beq_ft (And.intro @cell_sets_b (And.intro @frozen_sets (And.intro @size_sets (And.intro @World.size_drew (And.intro @Nat.zero_add (And.intro @Nat.add_zero (And.intro @cell_drew (And.intro @frozen_drew (And.intro @cell_set_eq (And.intro @cell_set_o (And.intro @cell_set_b (And.intro @World.frozen?_setCell 
  (And.intro @decide_true (And.intro @decide_false (And.intro @not_false_eq_true (And.intro @Bool.not_true @Bool.not_false))))))))))))))))))))))))))))))))))))))))))))))))))))))))
theorem Of_spec17 {w : World} {na ra : Option Addr} {nc rc : Nat} {ns : List GN} {rs : List GR} (h : GIs w na nc ra rc ns rs) (hn : ns.length ≤ 100000) (hr : rs.length ≤ 100000) :
    Yld Try.prog n_loamlaw17_Of #[gV na nc ra rc ns rs] w fun u w' => Ext [] w w' ∧ ∃ na' nc' ra' rc', u = gV na' nc' ra' rc' ns rs ∧ GIs w' na' nc' ra' rc' ns rs := by
  refine loamlaw17_Of_of ?_
  unfold loamlaw17_Of
  simp (disch := (first | omega | decide | (simp only [World.size_alloc, World.size_setCell, World.size_drew, size_sets, List.mem_cons, List.not_mem_nil, or_false, not_false_eq_true] <;> omega) | fail)) only [↓rsGrp2_0, rsGrp2_1, Option.isNone_some, Option.isNone_none, tick_eq, tickV_eq, ne_eq, Int.reduceAdd, Int.reduceSub, Int.reduceMul, Int.reduceEq, Int.reduceLT, Int.reduceLE, Int.reduceToNat, Nat.reduceMul, Nat.reduceAdd, Nat.reduceSub, List.nil_append, List.cons_append, List.getElem?_toArray, List.getElem?_cons_zero, List.getElem?_cons_succ, List.setIfInBounds_toArray, List.set_cons_zero, List.set_cons_succ, Option.map_some, List.not_mem_nil, ←decide_not, eq_self]
  simp only [World.size_alloc]
  have Bg0 : Blk (w.alloc (.cells #[.slice na ns.length nc, .slice ra rs.length rc] 25)) w.heap.size 25 [.slice na ns.length nc, .slice ra rs.length rc] := Blk.at rfl
  have X0 : Ext [] w (w.alloc (.cells #[.slice na ns.length nc, .slice ra rs.length rc] 25)) := Ext.alloc _ _ _
  have zs1 : (w.alloc (.cells #[.slice na ns.length nc, .slice ra rs.length rc] 25)).heap.size = w.heap.size + 1 := World.size_alloc _ _
  generalize w.alloc (.cells #[.slice na ns.length nc, .slice ra rs.length rc] 25) = y1 at *
  have Bt0 : Blk (y1.alloc (.cells #[.slice none 0 0, .slice none 0 0] 34)) (w.heap.size + 1) 34 [.slice none 0 0, .slice none 0 0] := by
    have := Blk.at (w := y1) (e := 34) (cs := [.slice none 0 0, .slice none 0 0]) rfl
    rw [zs1] at this
    exact this
  have X1 : Ext [] y1 (y1.alloc (.cells #[.slice none 0 0, .slice none 0 0] 34)) := Ext.alloc _ _ _
  have zs2 : (y1.alloc (.cells #[.slice none 0 0, .slice none 0 0] 34)).heap.size = w.heap.size + 1 + 1 := by rw [World.size_alloc, zs1]
  generalize y1.alloc (.cells #[.slice none 0 0, .slice none 0 0] 34) = y2 at *
  have Bx0 : Blk (y2.alloc (.cells #[.slice none 0 0, .slice none 0 0] 34)) (w.heap.size + 1 + 1) 34 [.slice none 0 0, .slice none 0 0] := by
    have := Blk.at (w := y2) (e := 34) (cs := [.slice none 0 0, .slice none 0 0]) rfl
    rw [zs2] at this
    exact this
  have X2 : Ext [] y2 (y2.alloc (.cells #[.slice none 0 0, .slice none 0 0] 34)) := Ext.alloc _ _ _
  have zs3 : (y2.alloc (.cells #[.slice none 0 0, .slice none 0 0] 34)).heap.size = w.heap.size + 1 + 1 + 1 := by rw [World.size_alloc, zs2]
  generalize y2.alloc (.cells #[.slice none 0 0, .slice none 0 0] 34) = y at *
  have Xy : Ext [] w y := X0.trans (X1.trans X2)
  have Bg := (Bg0.ext X1 (by simp)).ext X2 (by simp)
  have Bt := Bt0.ext X2 (by simp)
  generalize hhx : w.heap.size + 1 + 1 = hx at *
  generalize hht : w.heap.size + 1 = ht at *
  have hg := h.ext0 Xy
  have fresh : ∀ {w' : World}, Ext [hx] y w' → Ext [] w w' := fun F => Xy.new F (fun z hz => by simp only [List.mem_singleton] at hz; omega)
  have nilb : ∀ z, z ∉ blk (.slice none 0 0) := by simp [blk, Value.ownBlock]
  refine xLoop_n ns.length (fun j => [i64 (j : Int)]) (fun j w' => Ext [hx] y w' ∧ ∃ v, OwnN w' v (ns.take j) ∧ Blk w' hx 34 [v, .slice none 0 0] ∧ ∀ z ∈ blk v, y.heap.size ≤ z) rfl ⟨Ext.refl _ _, _, Own.nil, Bx0, fun z hz => absurd hz (nilb z)⟩ ?_ ?_
  · rintro j hj u v1 hu ⟨F, v, O, B, U⟩ nxt hnx
    simp only [List.map_cons, List.map_nil, List.cons.injEq, and_true] at hu
    rw [hu]
    have kg := fun i => (Bg.ext F (by simp; omega)).cell (i := i)
    have kgd := fun i => ((Bg.ext F (by simp; omega)).ext (Ext.drew [] v1) (by simp)).cell (i := i)
    have kbd := fun i => (B.ext (Ext.drew [] v1) (by simp)).cell (i := i)
    have hgn := (h.ext0 ((fresh F).trans (Ext.drew [] v1))).nr
    obtain ⟨b1, o1, rfl, z1, c1, c2⟩ := gn_at hgn hj
    have hlen : (ns.take j).length = j := by rw [List.length_take]; omega
    have hsu : ns.take (j + 1) = ns.take j ++ [ns[j]] := by rw [List.take_add_one, List.getElem?_eq_getElem hj]; rfl
    obtain ⟨a0, c0, hv0, _⟩ := O.slice
    unfold loamlaw17_Of_l1
    subst hv0
    have Oa := O.ext0 (Ext.drew [] v1)
    have Ba := B.ext (Ext.drew [] v1) (by simp)
    have kba := fun i => (Ba.ext (Ext.alloc [] _ (.cells (gnC ns[j]).toArray 76)) (by simp)).cell (i := i)
    simp (disch := (first | omega | decide | (simp only [World.size_alloc, World.size_setCell, World.size_drew, size_sets, List.mem_cons, List.not_mem_nil, or_false, not_false_eq_true] <;> omega) | fail)) only [↓rsGrp2_0, rsGrp2_1, Option.isNone_some, Option.isNone_none, tick_eq, tickV_eq, ne_eq, Int.reduceAdd, Int.reduceSub, Int.reduceMul, Int.reduceEq, Int.reduceLT, Int.reduceLE, Int.reduceToNat, Nat.reduceMul, Nat.reduceAdd, Nat.reduceSub, List.nil_append, List.cons_append, List.getElem?_toArray, List.getElem?_cons_zero, List.getElem?_cons_succ, List.setIfInBounds_toArray, List.set_cons_zero, List.set_cons_succ, Option.map_some, List.not_mem_nil, ←decide_not, kg, kgd, kbd, c1, c2, kba]
    refine appN Oa rfl (by omega) fun v' w2 O2 T2 => ?_
    have hv := fun hm => U hx hm
    have B2 := Ba.ext T2.ext (fun hm => by have := hv hm; omega)
    obtain ⟨a3, c3, hv3, _⟩ := O2.slice
    have k2 := fun i => B2.cell (i := i)
    have f2 := fun i => B2.frozen (i := i)
    have hxv : hx ∉ blk v' := fun hm => by
      rcases T2.at' hx hm with h1 | h1
      · have := hv h1; omega
      · have := F.size
        simp only [World.size_alloc, World.size_drew] at h1
        omega
    have up2 : ∀ z ∈ blk v', y.heap.size ≤ z := fun z hz => by
      rcases T2.at' z hz with h1 | h1
      · exact U z h1
      · have := F.size
        simp only [World.size_alloc, World.size_drew] at h1
        omega
    have F2 : Ext [hx] y w2 := ((F.trans (Ext.drew _ v1))).cut T2.ext (fun z hz => .inr (U z hz))
    subst hv3
    simp (disch := (first | omega | decide | (simp only [World.size_alloc, World.size_setCell, World.size_drew, size_sets, List.mem_cons, List.not_mem_nil, or_false, not_false_eq_true] <;> omega) | fail)) only [↓rsGrp2_0, rsGrp2_1, Option.isNone_some, Option.isNone_none, tick_eq, tickV_eq, ne_eq, Int.reduceAdd, Int.reduceSub, Int.reduceMul, Int.reduceEq, Int.reduceLT, Int.reduceLE, Int.reduceToNat, Nat.reduceMul, Nat.reduceAdd, Nat.reduceSub, List.nil_append, List.cons_append, List.getElem?_toArray, List.getElem?_cons_zero, List.getElem?_cons_succ, List.setIfInBounds_toArray, List.set_cons_zero, List.set_cons_succ, Option.map_some, List.not_mem_nil, ←decide_not, kg, kgd, kbd, c1, c2, kba, k2, f2]
    have B3 := B2.set (i := 0) (v := .slice a3 (ns.take j ++ [ns[j]]).length c3)
    have O3 := O2.ext (Ext.set (w := w2) (b := hx) (o := 0) (v := .slice a3 (ns.take j ++ [ns[j]]).length c3)) (fun z hz hm => by simp only [List.mem_singleton] at hm; subst hm; exact hxv hz)
    rw [← hsu] at O3 B3 up2 ⊢
    exact hnx _ ⟨F2.set' (.inl (by simp)), _, O3, B3, up2⟩
  rintro u v1 hu ⟨F, v, O, B, U⟩ nxt
  simp only [List.map_cons, List.map_nil, List.cons.injEq, and_true] at hu
  rw [hu]
  rw [List.take_length] at O
  have kg := fun i => (Bg.ext F (by simp; omega)).cell (i := i)
  unfold loamlaw17_Of_l1
  simp (disch := (first | omega | decide | (simp only [World.size_alloc, World.size_setCell, World.size_drew, size_sets, List.mem_cons, List.not_mem_nil, or_false, not_false_eq_true] <;> omega) | fail)) only [↓rsGrp2_0, rsGrp2_1, Option.isNone_some, Option.isNone_none, tick_eq, tickV_eq, ne_eq, Int.reduceAdd, Int.reduceSub, Int.reduceMul, Int.reduceEq, Int.reduceLT, Int.reduceLE, Int.reduceToNat, Nat.reduceMul, Nat.reduceAdd, Nat.reduceSub, List.nil_append, List.cons_append, List.getElem?_toArray, List.getElem?_cons_zero, List.getElem?_cons_succ, List.setIfInBounds_toArray, List.set_cons_zero, List.set_cons_succ, Option.map_some, List.not_mem_nil, ←decide_not, kg]
  refine xLoop_n rs.length (fun j => [i64 (j : Int)]) (fun j w' => Ext [hx] y w' ∧ OwnN w' v ns ∧ ∃ v2, OwnRt w' v2 (rs.take j) ∧ Blk w' hx 34 [v, v2] ∧ (∀ z ∈ blk v2, y.heap.size ≤ z) ∧ ∀ z ∈ blk v2, z ∉ blk v) rfl ⟨F, O, _, Own.nil, B, fun z hz => absurd hz (nilb z), fun z hz => absurd hz (nilb z)⟩ ?_ ?_
  · rintro j hj u v3 hu ⟨F3, O3, v2, R3, B3, U3, D3⟩ nxt hnx
    simp only [List.map_cons, List.map_nil, List.cons.injEq, and_true] at hu
    rw [hu]
    have kg3 := fun i => (Bg.ext F3 (by simp; omega)).cell (i := i)
    have kgd := fun i => ((Bg.ext F3 (by simp; omega)).ext (Ext.drew [] v3) (by simp)).cell (i := i)
    have hgr := (h.ext0 ((fresh F3).trans (Ext.drew [] v3))).rr
    obtain ⟨b1, o1, rfl, z1, c1, c2⟩ := gr_at hgr hj
    have hlen : (rs.take j).length = j := by rw [List.length_take]; omega
    have hsu : rs.take (j + 1) = rs.take j ++ [rs[j]] := by rw [List.take_add_one, List.getElem?_eq_getElem hj]; rfl
    obtain ⟨a0, c0, hv0, _⟩ := R3.slice
    unfold loamlaw17_Of_l2
    subst hv0
    have Ra := R3.ext0 (Ext.drew [] v3)
    have Ba := B3.ext (Ext.drew [] v3) (by simp)
    have kbd := fun i => Ba.cell (i := i)
    have kba := fun i => (Ba.ext (Ext.alloc [] _ (.cells (grC rs[j]).toArray 78)) (by simp)).cell (i := i)
    simp (disch := (first | omega | decide | (simp only [World.size_alloc, World.size_setCell, World.size_drew, size_sets, List.mem_cons, List.not_mem_nil, or_false, not_false_eq_true] <;> omega) | fail)) only [↓rsGrp2_0, rsGrp2_1, Option.isNone_some, Option.isNone_none, tick_eq, tickV_eq, ne_eq, Int.reduceAdd, Int.reduceSub, Int.reduceMul, Int.reduceEq, Int.reduceLT, Int.reduceLE, Int.reduceToNat, Nat.reduceMul, Nat.reduceAdd, Nat.reduceSub, List.nil_append, List.cons_append, List.getElem?_toArray, List.getElem?_cons_zero, List.getElem?_cons_succ, List.setIfInBounds_toArray, List.set_cons_zero, List.set_cons_succ, Option.map_some, List.not_mem_nil, ←decide_not, kg, kg3, kgd, kbd, c1, c2, kba]
    refine appR Ra rfl (by omega) fun v' w2 O2 T2 => ?_
    have hv := fun hm => U3 hx hm
    have B2 := Ba.ext T2.ext (fun hm => by have := hv hm; omega)
    have N2 := (O3.ext0 (Ext.drew [] v3)).ext T2.ext (fun z hz hm => D3 z hm hz)
    obtain ⟨a3, c3, hv3, _⟩ := O2.slice
    have k2 := fun i => B2.cell (i := i)
    have f2 := fun i => B2.frozen (i := i)
    have zF := F3.size
    have hxv : hx ∉ blk v' := fun hm => by
      rcases T2.at' hx hm with h1 | h1
      · have := hv h1; omega
      · simp only [World.size_alloc, World.size_drew] at h1
        omega
    have up2 : ∀ z ∈ blk v', y.heap.size ≤ z := fun z hz => by
      rcases T2.at' z hz with h1 | h1
      · exact U3 z h1
      · simp only [World.size_alloc, World.size_drew] at h1
        omega
    have dd : ∀ z ∈ blk v', z ∉ blk v := fun z hz hm => by
      rcases T2.at' z hz with h1 | h1
      · exact D3 z h1 hm
      · have := O3.lt z hm
        simp only [World.size_alloc, World.size_drew] at h1
        omega
    have hxn : hx ∉ blk v := fun hm => by have := U hx hm; omega
    have F2 : Ext [hx] y w2 := ((F3.trans (Ext.drew _ v3))).cut T2.ext (fun z hz => .inr (U3 z hz))
    subst hv3
    simp (disch := (first | omega | decide | (simp only [World.size_alloc, World.size_setCell, World.size_drew, size_sets, List.mem_cons, List.not_mem_nil, or_false, not_false_eq_true] <;> omega) | fail)) only [↓rsGrp2_0, rsGrp2_1, Option.isNone_some, Option.isNone_none, tick_eq, tickV_eq, ne_eq, Int.reduceAdd, Int.reduceSub, Int.reduceMul, Int.reduceEq, Int.reduceLT, Int.reduceLE, Int.reduceToNat, Nat.reduceMul, Nat.reduceAdd, Nat.reduceSub, List.nil_append, List.cons_append, List.getElem?_toArray, List.getElem?_cons_zero, List.getElem?_cons_succ, List.setIfInBounds_toArray, List.set_cons_zero, List.set_cons_succ, Option.map_some, List.not_mem_nil, ←decide_not, kg, kg3, kgd, kbd, c1, c2, kba, k2, f2]
    have B4 := B2.set (i := 1) (v := .slice a3 (rs.take j ++ [rs[j]]).length c3)
    have Xs : Ext [hx] w2 (w2.setCell ⟨hx, 1, none⟩ (.slice a3 (rs.take j ++ [rs[j]]).length c3)) := Ext.set (w := w2) (b := hx)
    have O4 := O2.ext Xs (fun z hz hm => by simp only [List.mem_singleton] at hm; subst hm; exact hxv hz)
    have N4 := N2.ext Xs (fun z hz hm => by simp only [List.mem_singleton] at hm; subst hm; exact hxn hz)
    rw [← hsu] at O4 B4 N4 up2 dd ⊢
    exact hnx _ ⟨F2.set' (.inl (by simp)), N4, _, O4, B4, up2, dd⟩
  · rintro u v3 hu ⟨F3, O3, v2, R3, B3, U3, D3⟩ nxt
    simp only [List.map_cons, List.map_nil, List.cons.injEq, and_true] at hu
    rw [hu]
    rw [List.take_length] at R3
    have kg3 := fun i => (Bg.ext F3 (by simp; omega)).cell (i := i)
    have kb3 := fun i => B3.cell (i := i)
    have Bt3 := Bt.ext F3 (by simp; omega)
    have kt3 := fun i => Bt3.cell (i := i)
    have ft3 := fun i => Bt3.frozen (i := i)
    obtain ⟨a4, c4, rfl, hc4, _, hn4, hr4, _⟩ := O3.slice
    obtain ⟨a5, c5, rfl, hc5, _, hn5, hr5, _⟩ := R3.slice
    have X4 := fresh F3
    have hok := fun x hx => (h.ok x hx).ext0 X4
    have blt := fun (z : Nat) (hz : z ∈ blk (.slice a4 ns.length c4)) => U z hz
    have blt2 := fun (z : Nat) (hz : z ∈ blk (.slice a5 rs.length c5)) => U3 z hz
    unfold loamlaw17_Of_l2
    simp (disch := (first | omega | decide | (simp only [World.size_alloc, World.size_setCell, World.size_drew, size_sets, List.mem_cons, List.not_mem_nil, or_false, not_false_eq_true] <;> omega) | fail)) only [↓rsGrp2_0, rsGrp2_1, Option.isNone_some, Option.isNone_none, tick_eq, tickV_eq, ne_eq, Int.reduceAdd, Int.reduceSub, Int.reduceMul, Int.reduceEq, Int.reduceLT, Int.reduceLE, Int.reduceToNat, Nat.reduceMul, Nat.reduceAdd, Nat.reduceSub, List.nil_append, List.cons_append, List.getElem?_toArray, List.getElem?_cons_zero, List.getElem?_cons_succ, List.setIfInBounds_toArray, List.set_cons_zero, List.set_cons_succ, Option.map_some, List.not_mem_nil, ←decide_not, kg, kg3, kb3, kt3, ft3]
    have Xs : Ext [ht] v3 ((v3.setCell ⟨ht, 0, none⟩ (.slice a4 ns.length c4)).setCell ⟨ht, 1, none⟩ (.slice a5 rs.length c5)) := (Ext.set (w := v3) (b := ht)).trans Ext.set
    have hX : Ext [] w ((v3.setCell ⟨ht, 0, none⟩ (.slice a4 ns.length c4)).setCell ⟨ht, 1, none⟩ (.slice a5 rs.length c5)) := X4.new Xs (fun z hz => by simp only [List.mem_singleton] at hz; omega)
    refine ⟨hX, a4, c4, a5, c5, by trivial, ⟨hr4.ext Xs (fun z o hz hm => ?_), hc4, hn4, hr5.ext Xs (fun z o hz hm => ?_), hc5, hn5, fun x hx => (h.ok x hx).ext0 hX⟩⟩
    · have := blt z (by subst hz; simp [blk, Value.ownBlock])
      simp only [List.mem_singleton] at hm
      omega
    · have := blt2 z (by subst hz; simp [blk, Value.ownBlock])
      simp only [List.mem_singleton] at hm
      omega
end Go.Proofs.Ytdpmidgeipibbaa
end
section
set_option linter.unusedVariables false
set_option linter.unusedSimpArgs false
set_option maxHeartbeats 4000000
namespace Go.Proofs.Ytdpmidgeipibbaa
open Go.Sh Go.RowKit

theorem MemIs.blt {w : World} {base g : Nat} {a : Option Addr} {c : Nat} {ws : List (BitVec 64)} (h : MemIs w base g a c ws) (hw : ws ≠ []) : ∀ x ∈ blkOf a, x < w.heap.size := by
  rcases h.own with e | ⟨gs, rest, rfl, _, hB, _⟩
  · exact absurd e hw
  · simp [blkOf, hB.lt]
abbrev spC (g b t e : Nat) : List Value := [ptr g, i64 (b : Int), i64 (t : Int), i64 (e : Int)]
structure SpIs (w : World) (base s g : Nat) (a : Option Addr) (c : Nat) (ws : List (BitVec 64)) (b t e : Nat) : Prop where
  mem : MemIs w base g a c ws
  blk : Blk w s 102 (spC g b t e)
  sg : s ≠ g
  sa : ws ≠ [] → s ∉ blkOf a
  bt : b ≤ t
  te : t ≤ e
  el : e ≤ ws.length
section
variable {w : World} {base s g : Nat} {a : Option Addr} {c : Nat} {ws : List (BitVec 64)} {b t e : Nat}
theorem SpIs.ext {w' : World} {M : List Nat} (h : SpIs w base s g a c ws b t e) (hx : Ext M w w') (hs : s ∉ M) (hg : g ∉ M) (ha : ws ≠ [] → ∀ x ∈ blkOf a, x ∉ M) : SpIs w' base s g a c ws b t e :=
  ⟨h.mem.ext hx hg ha, h.blk.ext hx hs, h.sg, h.sa, h.bt, h.te, h.el⟩
theorem SpIs.ext0 {w' : World} (h : SpIs w base s g a c ws b t e) (hx : Ext [] w w') : SpIs w' base s g a c ws b t e := h.ext hx (by simp) (by simp) (by simp)
def mayP (b t e n : Int) : Prop := 0 ≤ b ∧ b ≤ t ∧ t ≤ e ∧ e ≤ n
instance (b t e n : Int) : Decidable (mayP b t e n) := by unfold mayP; infer_instance
/-! a place's header -/
/-! a new object -/
end
end Go.Proofs.Ytdpmidgeipibbaa
end
section
set_option linter.unusedVariables false
set_option linter.unusedSimpArgs false
set_option maxHeartbeats 4000000
namespace Go.Proofs.Ytdpmidgeipibbaa
open Go.Sh Go.RowKit

theorem SizeW_spec {x : BitVec 64} (h : okW x) (w : World) : Gives Try.prog n_head_Size #[hd (vP x) (vB x) false (vT x)] w (i64 (szW x : Int)) := by
  have e := (okW_size h).1
  rw [(okW_size h).2.2.1] at e
  rw [← e]
  exact Size_spec _ _ _ _ w
abbrev NewI (w w' : World) (v : Value) (l : List Nat) : Prop := NewR 3 1 w w' v l.length (nums l)
section
variable {w : World} {base s g : Nat} {a : Option Addr} {c : Nat} {ws : List (BitVec 64)} {b t e : Nat}
end
end Go.Proofs.Ytdpmidgeipibbaa
end
section
set_option linter.unusedVariables false
set_option linter.unusedSimpArgs false
set_option maxHeartbeats 4000000
namespace Go.Proofs.Ytdpmidgeipibbaa
open Go.Sh Go.RowKit

abbrev rfC (r : Option Addr) (n c b t e : Nat) : List Value := [.slice r n c, i64 (b : Int), i64 (t : Int), i64 (e : Int)]
structure RfIs (w : World) (m : Nat) (r : Option Addr) (c : Nat) (ws : List (BitVec 64)) (b t e : Nat) : Prop where
  blk : Blk w m 46 (rfC r ws.length c b t e)
  row : RowAt w r (wrds ws)
  cap : ws.length ≤ c
  nil : r = none → c = 0
  mr : ws ≠ [] → m ∉ blkOf r
  len : ws.length ≤ 8192
  bt : b ≤ t
  te : t ≤ e
  el : e ≤ ws.length
theorem row_not {w : World} {r : Option Addr} {cs : List Value} {M : List Nat} (h : ∀ x ∈ blkOf r, x ∉ M) : ∀ b o, r = some ⟨b, o, none⟩ → b ∉ M := fun b o e => h b (by subst e; simp [blkOf])
section
variable {w : World} {m : Nat} {r : Option Addr} {c : Nat} {ws : List (BitVec 64)} {b t e : Nat}
theorem RfIs.ext {w' : World} {M : List Nat} (h : RfIs w m r c ws b t e) (hx : Ext M w w') (hm : m ∉ M) (hr : ws ≠ [] → ∀ x ∈ blkOf r, x ∉ M) : RfIs w' m r c ws b t e := by
  refine ⟨h.blk.ext hx hm, ?_, h.cap, h.nil, h.mr, h.len, h.bt, h.te, h.el⟩
  by_cases hw : ws = []
  · subst hw; exact RowAt.nil
  · exact h.row.ext hx (row_not (cs := []) (w := w) (hr hw))
theorem RfIs.ext0 {w' : World} (h : RfIs w m r c ws b t e) (hx : Ext [] w w') : RfIs w' m r c ws b t e := h.ext hx (by simp) (by simp)
end
end Go.Proofs.Ytdpmidgeipibbaa
end
section
set_option linter.unusedVariables false
set_option linter.unusedSimpArgs false
set_option maxHeartbeats 4000000
namespace Go.Proofs.Ytdpmidgeipibbaa
open Go.Sh Go.RowKit

theorem geS {cx cy : Bool} (a b : ByteArray) (w : World) (K : K1) : xBin Try.prog .geq 9 cx (.string a) cy (.string b) w K = K (.bool (!Op.bytesLess a.toList b.toList)) w := xBin_ok (by simp [eqGuard, binOp, Op.stringOp])
theorem ixS (l : List (BitVec 8)) {j : Nat} (hj : j < l.length) (w : World) (K : K1) : xIndex Try.prog 9 (.string (strOf l)) (i64 (j : Int)) w K = K (u8 l[j]) w := by
  refine xIndex_ok ?_
  have h := run_index_string (P := Try.prog) (w := w) 9 (strOf l) .i64 (j : Int) (by kernel_rfl)
  have hs := strOf_size (l := l)
  rw [h, dif_pos ⟨by omega, by omega⟩]
  have e : (strOf l)[((j : Int)).toNat]'(by omega) = UInt8.ofBitVec l[j] := by
    simp [strOf, ByteArray.getElem_eq_getElem_data]
  exact congrArg (fun z : UInt8 => Result.ok (Value.int .u8 (z.toNat : Int)) w) e
abbrev rsGrp3_0 := (And.intro @xBox_r (And.intro @loadK_some (And.intro @loadsK_s (And.intro @loadsK_n (And.intro @loadsR_s (And.intro @loadsR_n (And.intro @storesK_s (And.intro @storesK_n (And.intro @xPick_t (And.intro @xPick_f (And.intro @xGuard_tt (And.intro @xGuard_ff (And.intro @xGuard_tf (And.intro @xGuard_ft (And.intro @xGuard_u 
  (And.intro @xNil_r (And.intro @xIf_t (And.intro @xBin_add' (And.intro @xBin_sub' (And.intro @xBin_mul' (And.intro @xBin_quo' (And.intro @xBin_rem' (And.intro @xIf_f (And.intro @xIf_tt (And.intro @xEx0 (And.intro @xEx1 (And.intro @xEx2 (And.intro @xEx3 (And.intro @xBin_eqs (And.intro @xBin_nes (And.intro @xUn_not (And.intro @xu8_add (And.intro @xu8_eql 
  (And.intro @xu8_lss (And.intro @xu8_gtr (And.intro @xu16_add (And.intro @xu16_eql (And.intro @xu16_lss (And.intro @xu16_gtr (And.intro @xu32_add (And.intro @xu32_eql (And.intro @xu32_lss (And.intro @xu32_gtr (And.intro @xu64_add (And.intro @xu64_eql (And.intro @xu64_lss (And.intro @xu64_gtr (And.intro @xi64_lss (And.intro @xi64_gtr (And.intro @xi64_eql 
  (And.intro @xMakeFunc_r (And.intro @xSq_r (And.intro @xPur_s (And.intro @xRd_s (And.intro @xRe_s (And.intro @xDet_s (And.intro @xDet_ld (And.intro @xDet_ld2 (And.intro @xDet_ld3 (And.intro @xDet_ld4 (And.intro @xGuard_tt @ln_9)))))))))))))))))))))))))))))))))))))))))))))))))))))))))))))
abbrev rsGrp3_1 := (And.intro @setCells_c (And.intro @setCells_n (And.intro @World.setCell_alloc_at (And.intro @World.setCell_alloc_past (And.intro @World.cell?_alloc_at (And.intro @World.cell?_alloc_past (And.intro @World.frozen?_alloc_at (And.intro @World.frozen?_alloc_past 
  (And.intro @World.size_alloc (And.intro @dlt_t (And.intro @dlt_f (And.intro @dle_t (And.intro @dle_f (And.intro @deq_t (And.intro @deq_f (And.intro @dne_t (And.intro @dne_f (And.intro @not_true_eq_false (And.intro @Bool.false_and (And.intro @Bool.true_and (And.intro @Bool.and_true (And.intro @Bool.and_false (And.intro @wrap_in (And.intro @Int.toNat_natCast 
  (And.intro @Nat.mul_one (And.intro @cells_int (And.intro @cells_bool (And.intro @cells_string (And.intro @cells_slice (And.intro @cells_pointer (And.intro @cells_agg (And.intro @one_int (And.intro @one_bool (And.intro @one_string (And.intro @one_slice (And.intro @one_pointer (And.intro @beq_tt (And.intro @beq_ff (And.intro @beq_tf 
  (And.intro @beq_ft (And.intro @cell_sets_b (And.intro @frozen_sets (And.intro @size_sets (And.intro @World.size_drew (And.intro @Nat.zero_add (And.intro @Nat.add_zero (And.intro @cell_drew (And.intro @frozen_drew (And.intro @cell_set_eq (And.intro @cell_set_o (And.intro @cell_set_b (And.intro @World.frozen?_setCell 
  (And.intro @decide_true (And.intro @decide_false (And.intro @not_false_eq_true (And.intro @Bool.not_true @Bool.not_false))))))))))))))))))))))))))))))))))))))))))))))))))))))))
theorem Good_spec (l : List (BitVec 8)) (w : World) : Yld Try.prog n_loamref17_Good #[.string (strOf l)] w fun u w' => (∃ b : Bool, u = .bool b ∧ (b = true → 1 ≤ l.length ∧ l.length ≤ 32 ∧ ∀ c ∈ l, c ≠ BitVec.ofNat 8 0)) ∧ Ext [] w w' := by
  have hs := strOf_size (l := l)
  refine loamref17_Good_of ?_
  unfold loamref17_Good
  by_cases h1 : (strOf l).size < 1
  · simp (disch := (first | omega | decide | (simp only [World.size_alloc, World.size_setCell, World.size_drew, size_sets, List.mem_cons, List.not_mem_nil, or_false, not_false_eq_true] <;> omega) | fail)) only [↓rsGrp3_0, rsGrp3_1, Option.isNone_some, Option.isNone_none, tick_eq, tickV_eq, ne_eq, Int.reduceAdd, Int.reduceSub, Int.reduceMul, Int.reduceEq, Int.reduceLT, Int.reduceLE, Int.reduceToNat, Nat.reduceMul, Nat.reduceAdd, Nat.reduceSub, List.nil_append, List.cons_append, List.getElem?_toArray, List.getElem?_cons_zero, List.getElem?_cons_succ, List.setIfInBounds_toArray, List.set_cons_zero, List.set_cons_succ, Option.map_some, List.not_mem_nil, ←decide_not, eq_self]
    exact ⟨⟨false, by trivial, fun h => by cases h⟩, Ext.refl _ _⟩
  by_cases h2 : 32 < (strOf l).size
  · simp (disch := (first | omega | decide | (simp only [World.size_alloc, World.size_setCell, World.size_drew, size_sets, List.mem_cons, List.not_mem_nil, or_false, not_false_eq_true] <;> omega) | fail)) only [↓rsGrp3_0, rsGrp3_1, Option.isNone_some, Option.isNone_none, tick_eq, tickV_eq, ne_eq, Int.reduceAdd, Int.reduceSub, Int.reduceMul, Int.reduceEq, Int.reduceLT, Int.reduceLE, Int.reduceToNat, Nat.reduceMul, Nat.reduceAdd, Nat.reduceSub, List.nil_append, List.cons_append, List.getElem?_toArray, List.getElem?_cons_zero, List.getElem?_cons_succ, List.setIfInBounds_toArray, List.set_cons_zero, List.set_cons_succ, Option.map_some, List.not_mem_nil, ←decide_not, eq_self]
    exact ⟨⟨false, by trivial, fun h => by cases h⟩, Ext.refl _ _⟩
  simp (disch := (first | omega | decide | (simp only [World.size_alloc, World.size_setCell, World.size_drew, size_sets, List.mem_cons, List.not_mem_nil, or_false, not_false_eq_true] <;> omega) | fail)) only [↓rsGrp3_0, rsGrp3_1, Option.isNone_some, Option.isNone_none, tick_eq, tickV_eq, ne_eq, Int.reduceAdd, Int.reduceSub, Int.reduceMul, Int.reduceEq, Int.reduceLT, Int.reduceLE, Int.reduceToNat, Nat.reduceMul, Nat.reduceAdd, Nat.reduceSub, List.nil_append, List.cons_append, List.getElem?_toArray, List.getElem?_cons_zero, List.getElem?_cons_succ, List.setIfInBounds_toArray, List.set_cons_zero, List.set_cons_succ, Option.map_some, List.not_mem_nil, ←decide_not, eq_self]
  refine xLoop_n l.length (fun j => [i64 (j : Int)]) (fun j w' => Ext [] w w' ∧ ∀ i (hi : i < l.length), i < j → l[i] ≠ BitVec.ofNat 8 0) rfl ⟨Ext.refl _ _, by intro i _ hi; omega⟩ ?_ ?_
  · intro j hj u v1 hu ⟨F, hq⟩ nxt hnx
    simp only [List.map_cons, List.map_nil, List.cons.injEq, and_true] at hu
    rw [hu]
    have hix := fun w K => ixS l hj w K
    unfold loamref17_Good_l1
    by_cases hz : l[j] = BitVec.ofNat 8 0
    · rw [hz] at hix
      simp (disch := (first | omega | decide | (simp only [World.size_alloc, World.size_setCell, World.size_drew, size_sets, List.mem_cons, List.not_mem_nil, or_false, not_false_eq_true] <;> omega) | fail)) only [↓rsGrp3_0, rsGrp3_1, Option.isNone_some, Option.isNone_none, tick_eq, tickV_eq, ne_eq, Int.reduceAdd, Int.reduceSub, Int.reduceMul, Int.reduceEq, Int.reduceLT, Int.reduceLE, Int.reduceToNat, Nat.reduceMul, Nat.reduceAdd, Nat.reduceSub, List.nil_append, List.cons_append, List.getElem?_toArray, List.getElem?_cons_zero, List.getElem?_cons_succ, List.setIfInBounds_toArray, List.set_cons_zero, List.set_cons_succ, Option.map_some, List.not_mem_nil, ←decide_not, hix]
      exact ⟨⟨false, by trivial, fun h => by cases h⟩, F⟩
    · generalize hy : l[j] = y at *
      simp (disch := (first | omega | decide | (simp only [World.size_alloc, World.size_setCell, World.size_drew, size_sets, List.mem_cons, List.not_mem_nil, or_false, not_false_eq_true] <;> omega) | fail)) only [↓rsGrp3_0, rsGrp3_1, Option.isNone_some, Option.isNone_none, tick_eq, tickV_eq, ne_eq, Int.reduceAdd, Int.reduceSub, Int.reduceMul, Int.reduceEq, Int.reduceLT, Int.reduceLE, Int.reduceToNat, Nat.reduceMul, Nat.reduceAdd, Nat.reduceSub, List.nil_append, List.cons_append, List.getElem?_toArray, List.getElem?_cons_zero, List.getElem?_cons_succ, List.setIfInBounds_toArray, List.set_cons_zero, List.set_cons_succ, Option.map_some, List.not_mem_nil, ←decide_not, hix, decide_eq_false hz]
      refine hnx _ ⟨F, fun i hi hij => ?_⟩
      by_cases e : i = j
      · subst e; rw [hy]; exact hz
      · exact hq i hi (by omega)
  · intro u v1 hu ⟨F, hq⟩ nxt
    simp only [List.map_cons, List.map_nil, List.cons.injEq, and_true] at hu
    rw [hu]
    unfold loamref17_Good_l1
    simp (disch := (first | omega | decide | (simp only [World.size_alloc, World.size_setCell, World.size_drew, size_sets, List.mem_cons, List.not_mem_nil, or_false, not_false_eq_true] <;> omega) | fail)) only [↓rsGrp3_0, rsGrp3_1, Option.isNone_some, Option.isNone_none, tick_eq, tickV_eq, ne_eq, Int.reduceAdd, Int.reduceSub, Int.reduceMul, Int.reduceEq, Int.reduceLT, Int.reduceLE, Int.reduceToNat, Nat.reduceMul, Nat.reduceAdd, Nat.reduceSub, List.nil_append, List.cons_append, List.getElem?_toArray, List.getElem?_cons_zero, List.getElem?_cons_succ, List.setIfInBounds_toArray, List.set_cons_zero, List.set_cons_succ, Option.map_some, List.not_mem_nil, ←decide_not, eq_self]
    refine ⟨⟨true, by trivial, fun _ => ⟨by omega, by omega, fun c hc => ?_⟩⟩, F⟩
    obtain ⟨i, hi, rfl⟩ := List.getElem_of_mem hc
    exact hq i hi hi
structure GoodG (ns : List GN) (rs : List GR) : Prop where
  x : ∀ x ∈ ns, (∀ p ∈ x.p, 0 ≤ p ∧ p ≤ ns.length) ∧ x.p.length ≤ 64 ∧ x.d.length ≤ 1024
  r : rs.length ≤ 64
  s : ∀ r ∈ rs, (1 ≤ r.s.length ∧ r.s.length ≤ 32 ∧ ∀ c ∈ r.s, c ≠ BitVec.ofNat 8 0) ∧ 0 ≤ r.to ∧ r.to ≤ ns.length
  o : ∀ i (h : i + 1 < rs.length), Op.bytesLess (strOf rs[i].s).toList (strOf rs[i + 1].s).toList = true
theorem its_at {w : World} {l : List Int} {a : Option Addr} {k : Nat} (h : RowAt w a (its l)) (hk : k < l.length) : ∃ b o, a = some ⟨b, o, none⟩ ∧ b < w.heap.size ∧ w.cell? ⟨b, o + k, none⟩ = some (i64 l[k]) := by
  obtain ⟨b, o, h1, h2, h3⟩ := h.at (i := k) (by simpa using hk)
  simp only [List.getElem_map] at h3
  exact ⟨b, o, h1, h2, h3⟩
abbrev rsGrp3_2 := (And.intro @xBox_r (And.intro @loadK_some (And.intro @loadsK_s (And.intro @loadsK_n (And.intro @loadsR_s (And.intro @loadsR_n (And.intro @storesK_s (And.intro @storesK_n (And.intro @xPick_t (And.intro @xPick_f (And.intro @xGuard_tt (And.intro @xGuard_ff (And.intro @xGuard_tf (And.intro @xGuard_ft (And.intro @xGuard_u 
  (And.intro @xNil_r (And.intro @xIf_t (And.intro @xBin_add' (And.intro @xBin_sub' (And.intro @xBin_mul' (And.intro @xBin_quo' (And.intro @xBin_rem' (And.intro @xIf_f (And.intro @xIf_tt (And.intro @xEx0 (And.intro @xEx1 (And.intro @xEx2 (And.intro @xEx3 (And.intro @xBin_eqs (And.intro @xBin_nes (And.intro @xUn_not (And.intro @xu8_add (And.intro @xu8_sub 
  (And.intro @xu8_com (And.intro @xu8_lss (And.intro @xu8_gtr (And.intro @xu8_geq (And.intro @xu16_add (And.intro @xu16_sub (And.intro @xu16_com (And.intro @xu16_lss (And.intro @xu16_gtr (And.intro @xu16_geq (And.intro @xu32_add (And.intro @xu32_sub (And.intro @xu32_com (And.intro @xu32_lss (And.intro @xu32_gtr (And.intro @xu32_geq (And.intro @xu64_add 
  (And.intro @xu64_sub (And.intro @xu64_com (And.intro @xu64_lss (And.intro @xu64_gtr (And.intro @xu64_geq (And.intro @xi64_lss (And.intro @xi64_gtr (And.intro @xi64_geq (And.intro @xMakeFunc_r (And.intro @xSq_r (And.intro @xPur_s (And.intro @xRd_s (And.intro @xRe_s (And.intro @xDet_s (And.intro @xDet_ld (And.intro @xDet_ld2 (And.intro @xDet_ld3 
  (And.intro @xDet_ld4 (And.intro @xGuard_tt (And.intro @ld_3 (And.intro @ld_9 (And.intro @ld_31 (And.intro @ld_32 (And.intro @ld_66 (And.intro @ld_70 (And.intro @ld_76 (And.intro @ld_78 (And.intro @fa_34_0 (And.intro @fa_34_1 (And.intro @fa_76_0 (And.intro @fa_76_1 (And.intro @fa_78_0 (And.intro @fa_78_1 (And.intro @al_76 (And.intro @al_78 (And.intro @st_76 (And.intro @st_78 
  (And.intro @ia_31 (And.intro @ia_32 (And.intro @ia_66 (And.intro @ln_31 (And.intro @ln_32 (And.intro @ln_66 @ln_70)))))))))))))))))))))))))))))))))))))))))))))))))))))))))))))))))))))))))))))))))))))))))))))
theorem GCheck_spec {w : World} {na ra : Option Addr} {nc rc : Nat} {ns : List GN} {rs : List GR} (h : GIs w na nc ra rc ns rs) (hf : FewG ns rs) : Yld Try.prog n_loamref17_Check #[gV na nc ra rc ns rs] w fun u w' => (∃ e : Int, u = i64 e ∧ (e = 0 → GoodG ns rs)) ∧ Ext [] w w' := by
  have hfn := hf.n
  have hfr := hf.r
  refine loamref17_Check_of ?_
  unfold loamref17_Check
  simp (disch := (first | omega | decide | (simp only [World.size_alloc, World.size_setCell, World.size_drew, size_sets, List.mem_cons, List.not_mem_nil, or_false, not_false_eq_true] <;> omega) | fail)) only [↓rsGrp3_2, rsGrp3_1, Option.isNone_some, Option.isNone_none, tick_eq, tickV_eq, ne_eq, Int.reduceAdd, Int.reduceSub, Int.reduceMul, Int.reduceEq, Int.reduceLT, Int.reduceLE, Int.reduceToNat, Nat.reduceMul, Nat.reduceAdd, Nat.reduceSub, List.nil_append, List.cons_append, List.getElem?_toArray, List.getElem?_cons_zero, List.getElem?_cons_succ, List.setIfInBounds_toArray, List.set_cons_zero, List.set_cons_succ, Option.map_some, List.not_mem_nil, ←decide_not, eq_self]
  have B : Blk (w.alloc (.cells #[.slice na ns.length nc, .slice ra rs.length rc] 34)) w.heap.size 34 [.slice na ns.length nc, .slice ra rs.length rc] := Blk.at rfl
  have X : Ext [] w (w.alloc (.cells #[.slice na ns.length nc, .slice ra rs.length rc] 34)) := Ext.alloc _ _ _
  have hy := h.ext0 X
  generalize w.heap.size = hb at *
  generalize w.alloc (.cells #[.slice na ns.length nc, .slice ra rs.length rc] 34) = y at *
  have bad : ∀ {e : Int} {w' : World}, e ≠ 0 → Ext [] y w' → (∃ e' : Int, i64 e = i64 e' ∧ (e' = 0 → GoodG ns rs)) ∧ Ext [] w w' := fun he F => ⟨⟨_, rfl, fun h => absurd h he⟩, X.trans F⟩
  refine xLoop_n ns.length (fun j => [i64 (j : Int)]) (fun j w' => Ext [] y w' ∧ ∀ i (hi : i < ns.length), i < j → (∀ p ∈ ns[i].p, 0 ≤ p ∧ p ≤ ns.length) ∧ ns[i].p.length ≤ 64 ∧ ns[i].d.length ≤ 1024) rfl ⟨Ext.refl _ _, by intro i _ hi; omega⟩ ?_ ?_
  · intro j hj u v1 hu ⟨F, hq⟩ nxt hnx
    simp only [List.map_cons, List.map_nil, List.cons.injEq, and_true] at hu
    rw [hu]
    have k1 := fun i => (B.ext F (by simp)).cell (i := i)
    obtain ⟨b1, o1, ha1, z1, c1, c2⟩ := gn_at (hy.ext0 F).nr hj
    have hm := List.getElem_mem hj
    have hok := (hy.ext0 F).ok _ hm
    have hfx := hf.x _ hm
    have hqs : ((∀ p ∈ ns[j].p, 0 ≤ p ∧ p ≤ ns.length) ∧ ns[j].p.length ≤ 64 ∧ ns[j].d.length ≤ 1024) → ∀ i (hi : i < ns.length), i < j + 1 → (∀ p ∈ ns[i].p, 0 ≤ p ∧ p ≤ ns.length) ∧ ns[i].p.length ≤ 64 ∧ ns[i].d.length ≤ 1024 := fun h1 i hi hij => by
      by_cases e : i = j
      · subst e; exact h1
      · exact hq i hi (by omega)
    unfold loamref17_Check_l1
    generalize ns[j] = x at *
    simp (disch := (first | omega | decide | (simp only [World.size_alloc, World.size_setCell, World.size_drew, size_sets, List.mem_cons, List.not_mem_nil, or_false, not_false_eq_true] <;> omega) | fail)) only [↓rsGrp3_2, rsGrp3_1, Option.isNone_some, Option.isNone_none, tick_eq, tickV_eq, ne_eq, Int.reduceAdd, Int.reduceSub, Int.reduceMul, Int.reduceEq, Int.reduceLT, Int.reduceLE, Int.reduceToNat, Nat.reduceMul, Nat.reduceAdd, Nat.reduceSub, List.nil_append, List.cons_append, List.getElem?_toArray, List.getElem?_cons_zero, List.getElem?_cons_succ, List.setIfInBounds_toArray, List.set_cons_zero, List.set_cons_succ, Option.map_some, List.not_mem_nil, ←decide_not, k1, ha1, c1, c2]
    have C : Blk (v1.alloc (.cells #[.slice x.pa x.p.length x.pc, .slice x.da x.d.length x.dc] 76)) v1.heap.size 76 [.slice x.pa x.p.length x.pc, .slice x.da x.d.length x.dc] := Blk.at rfl
    have X1 : Ext [] v1 (v1.alloc (.cells #[.slice x.pa x.p.length x.pc, .slice x.da x.d.length x.dc] 76)) := Ext.alloc _ _ _
    generalize v1.heap.size = hc at *
    generalize v1.alloc (.cells #[.slice x.pa x.p.length x.pc, .slice x.da x.d.length x.dc] 76) = y1 at *
    refine xLoop_n x.p.length (fun k => [i64 (k : Int)]) (fun k w' => Ext [] y1 w' ∧ ∀ i (hi : i < x.p.length), i < k → 0 ≤ x.p[i] ∧ x.p[i] ≤ ns.length) rfl ⟨Ext.refl _ _, by intro i _ hi; omega⟩ ?_ ?_
    · intro k hk u v2 hu ⟨F2, hp⟩ nxt2 hnx2
      simp only [List.map_cons, List.map_nil, List.cons.injEq, and_true] at hu
      rw [hu]
      have k2 := fun i => (C.ext F2 (by simp)).cell (i := i)
      obtain ⟨b3, o3, ha3, z3, c3⟩ := its_at ((hok.ext0 X1).ext0 F2).pr hk
      unfold loamref17_Check_l2
      by_cases g1 : x.p[k] < 0
      · simp (disch := (first | omega | decide | (simp only [World.size_alloc, World.size_setCell, World.size_drew, size_sets, List.mem_cons, List.not_mem_nil, or_false, not_false_eq_true] <;> omega) | fail)) only [↓rsGrp3_2, rsGrp3_1, Option.isNone_some, Option.isNone_none, tick_eq, tickV_eq, ne_eq, Int.reduceAdd, Int.reduceSub, Int.reduceMul, Int.reduceEq, Int.reduceLT, Int.reduceLE, Int.reduceToNat, Nat.reduceMul, Nat.reduceAdd, Nat.reduceSub, List.nil_append, List.cons_append, List.getElem?_toArray, List.getElem?_cons_zero, List.getElem?_cons_succ, List.setIfInBounds_toArray, List.set_cons_zero, List.set_cons_succ, Option.map_some, List.not_mem_nil, ←decide_not, k1, ha1, c1, c2, k2, ha3, c3]
        exact bad (by decide) (F.trans (X1.trans F2))
      by_cases g2 : (ns.length : Int) < x.p[k]
      · simp (disch := (first | omega | decide | (simp only [World.size_alloc, World.size_setCell, World.size_drew, size_sets, List.mem_cons, List.not_mem_nil, or_false, not_false_eq_true] <;> omega) | fail)) only [↓rsGrp3_2, rsGrp3_1, Option.isNone_some, Option.isNone_none, tick_eq, tickV_eq, ne_eq, Int.reduceAdd, Int.reduceSub, Int.reduceMul, Int.reduceEq, Int.reduceLT, Int.reduceLE, Int.reduceToNat, Nat.reduceMul, Nat.reduceAdd, Nat.reduceSub, List.nil_append, List.cons_append, List.getElem?_toArray, List.getElem?_cons_zero, List.getElem?_cons_succ, List.setIfInBounds_toArray, List.set_cons_zero, List.set_cons_succ, Option.map_some, List.not_mem_nil, ←decide_not, k1, ha1, c1, c2, k2, ha3, c3]
        exact bad (by decide) (F.trans (X1.trans F2))
      simp (disch := (first | omega | decide | (simp only [World.size_alloc, World.size_setCell, World.size_drew, size_sets, List.mem_cons, List.not_mem_nil, or_false, not_false_eq_true] <;> omega) | fail)) only [↓rsGrp3_2, rsGrp3_1, Option.isNone_some, Option.isNone_none, tick_eq, tickV_eq, ne_eq, Int.reduceAdd, Int.reduceSub, Int.reduceMul, Int.reduceEq, Int.reduceLT, Int.reduceLE, Int.reduceToNat, Nat.reduceMul, Nat.reduceAdd, Nat.reduceSub, List.nil_append, List.cons_append, List.getElem?_toArray, List.getElem?_cons_zero, List.getElem?_cons_succ, List.setIfInBounds_toArray, List.set_cons_zero, List.set_cons_succ, Option.map_some, List.not_mem_nil, ←decide_not, k1, ha1, c1, c2, k2, ha3, c3]
      refine hnx2 _ ⟨F2, fun i hi hik => ?_⟩
      by_cases e : i = k
      · subst e; exact ⟨by omega, by omega⟩
      · exact hp i hi (by omega)
    · intro u v2 hu ⟨F2, hp⟩ nxt2
      simp only [List.map_cons, List.map_nil, List.cons.injEq, and_true] at hu
      rw [hu]
      have k2 := fun i => (C.ext F2 (by simp)).cell (i := i)
      unfold loamref17_Check_l2
      by_cases g1 : 64 < x.p.length
      · simp (disch := (first | omega | decide | (simp only [World.size_alloc, World.size_setCell, World.size_drew, size_sets, List.mem_cons, List.not_mem_nil, or_false, not_false_eq_true] <;> omega) | fail)) only [↓rsGrp3_2, rsGrp3_1, Option.isNone_some, Option.isNone_none, tick_eq, tickV_eq, ne_eq, Int.reduceAdd, Int.reduceSub, Int.reduceMul, Int.reduceEq, Int.reduceLT, Int.reduceLE, Int.reduceToNat, Nat.reduceMul, Nat.reduceAdd, Nat.reduceSub, List.nil_append, List.cons_append, List.getElem?_toArray, List.getElem?_cons_zero, List.getElem?_cons_succ, List.setIfInBounds_toArray, List.set_cons_zero, List.set_cons_succ, Option.map_some, List.not_mem_nil, ←decide_not, k1, ha1, c1, c2, k2]
        exact bad (by decide) (F.trans (X1.trans F2))
      by_cases g2 : 1024 < x.d.length
      · simp (disch := (first | omega | decide | (simp only [World.size_alloc, World.size_setCell, World.size_drew, size_sets, List.mem_cons, List.not_mem_nil, or_false, not_false_eq_true] <;> omega) | fail)) only [↓rsGrp3_2, rsGrp3_1, Option.isNone_some, Option.isNone_none, tick_eq, tickV_eq, ne_eq, Int.reduceAdd, Int.reduceSub, Int.reduceMul, Int.reduceEq, Int.reduceLT, Int.reduceLE, Int.reduceToNat, Nat.reduceMul, Nat.reduceAdd, Nat.reduceSub, List.nil_append, List.cons_append, List.getElem?_toArray, List.getElem?_cons_zero, List.getElem?_cons_succ, List.setIfInBounds_toArray, List.set_cons_zero, List.set_cons_succ, Option.map_some, List.not_mem_nil, ←decide_not, k1, ha1, c1, c2, k2]
        exact bad (by decide) (F.trans (X1.trans F2))
      simp (disch := (first | omega | decide | (simp only [World.size_alloc, World.size_setCell, World.size_drew, size_sets, List.mem_cons, List.not_mem_nil, or_false, not_false_eq_true] <;> omega) | fail)) only [↓rsGrp3_2, rsGrp3_1, Option.isNone_some, Option.isNone_none, tick_eq, tickV_eq, ne_eq, Int.reduceAdd, Int.reduceSub, Int.reduceMul, Int.reduceEq, Int.reduceLT, Int.reduceLE, Int.reduceToNat, Nat.reduceMul, Nat.reduceAdd, Nat.reduceSub, List.nil_append, List.cons_append, List.getElem?_toArray, List.getElem?_cons_zero, List.getElem?_cons_succ, List.setIfInBounds_toArray, List.set_cons_zero, List.set_cons_succ, Option.map_some, List.not_mem_nil, ←decide_not, k1, ha1, c1, c2, k2]
      refine hnx _ ⟨F.trans (X1.trans F2), hqs ⟨fun p hp2 => ?_, by omega, by omega⟩⟩
      obtain ⟨i, hi, rfl⟩ := List.getElem_of_mem hp2
      exact hp i hi hi
  intro u v1 hu ⟨F, hq⟩ nxt
  simp only [List.map_cons, List.map_nil, List.cons.injEq, and_true] at hu
  rw [hu]
  have k1 := fun i => (B.ext F (by simp)).cell (i := i)
  unfold loamref17_Check_l1
  by_cases g0 : 64 < rs.length
  · simp (disch := (first | omega | decide | (simp only [World.size_alloc, World.size_setCell, World.size_drew, size_sets, List.mem_cons, List.not_mem_nil, or_false, not_false_eq_true] <;> omega) | fail)) only [↓rsGrp3_2, rsGrp3_1, Option.isNone_some, Option.isNone_none, tick_eq, tickV_eq, ne_eq, Int.reduceAdd, Int.reduceSub, Int.reduceMul, Int.reduceEq, Int.reduceLT, Int.reduceLE, Int.reduceToNat, Nat.reduceMul, Nat.reduceAdd, Nat.reduceSub, List.nil_append, List.cons_append, List.getElem?_toArray, List.getElem?_cons_zero, List.getElem?_cons_succ, List.setIfInBounds_toArray, List.set_cons_zero, List.set_cons_succ, Option.map_some, List.not_mem_nil, ←decide_not, k1]
    exact bad (by decide) F
  simp (disch := (first | omega | decide | (simp only [World.size_alloc, World.size_setCell, World.size_drew, size_sets, List.mem_cons, List.not_mem_nil, or_false, not_false_eq_true] <;> omega) | fail)) only [↓rsGrp3_2, rsGrp3_1, Option.isNone_some, Option.isNone_none, tick_eq, tickV_eq, ne_eq, Int.reduceAdd, Int.reduceSub, Int.reduceMul, Int.reduceEq, Int.reduceLT, Int.reduceLE, Int.reduceToNat, Nat.reduceMul, Nat.reduceAdd, Nat.reduceSub, List.nil_append, List.cons_append, List.getElem?_toArray, List.getElem?_cons_zero, List.getElem?_cons_succ, List.setIfInBounds_toArray, List.set_cons_zero, List.set_cons_succ, Option.map_some, List.not_mem_nil, ←decide_not, k1]
  refine xLoop_n rs.length (fun j => [i64 (j : Int)]) (fun j w' => Ext [] y w' ∧ (∀ i (hi : i < rs.length), i < j → (1 ≤ rs[i].s.length ∧ rs[i].s.length ≤ 32 ∧ ∀ c ∈ rs[i].s, c ≠ BitVec.ofNat 8 0) ∧ 0 ≤ rs[i].to ∧ rs[i].to ≤ ns.length) ∧ ∀ i (h : i + 1 < rs.length), i + 1 < j → Op.bytesLess (strOf rs[i].s).toList (strOf rs[i + 1].s).toList = true) rfl ⟨F, by intro i _ hi; omega, by intro i _ hi; omega⟩ ?_ ?_
  rotate_left
  · intro u v2 hu ⟨F2, hq2, hq3⟩ nxt2
    simp only [List.map_cons, List.map_nil, List.cons.injEq, and_true] at hu
    rw [hu]
    have k2 := fun i => (B.ext F2 (by simp)).cell (i := i)
    unfold loamref17_Check_l3
    simp (disch := (first | omega | decide | (simp only [World.size_alloc, World.size_setCell, World.size_drew, size_sets, List.mem_cons, List.not_mem_nil, or_false, not_false_eq_true] <;> omega) | fail)) only [↓rsGrp3_2, rsGrp3_1, Option.isNone_some, Option.isNone_none, tick_eq, tickV_eq, ne_eq, Int.reduceAdd, Int.reduceSub, Int.reduceMul, Int.reduceEq, Int.reduceLT, Int.reduceLE, Int.reduceToNat, Nat.reduceMul, Nat.reduceAdd, Nat.reduceSub, List.nil_append, List.cons_append, List.getElem?_toArray, List.getElem?_cons_zero, List.getElem?_cons_succ, List.setIfInBounds_toArray, List.set_cons_zero, List.set_cons_succ, Option.map_some, List.not_mem_nil, ←decide_not, k1, k2]
    refine ⟨⟨0, by trivial, fun _ => ⟨fun x hx => ?_, by omega, fun r hr => ?_, fun i hi => hq3 i hi hi⟩⟩, X.trans F2⟩
    · obtain ⟨i, hi, rfl⟩ := List.getElem_of_mem hx
      exact hq i hi hi
    · obtain ⟨i, hi, rfl⟩ := List.getElem_of_mem hr
      exact hq2 i hi hi
  intro j hj u v2 hu ⟨F2, hq2, hq3⟩ nxt2 hnx2
  simp only [List.map_cons, List.map_nil, List.cons.injEq, and_true] at hu
  rw [hu]
  have k2 := fun i => (B.ext F2 (by simp)).cell (i := i)
  obtain ⟨b1, o1, ha1, z1, c1, c2⟩ := gr_at (hy.ext0 F2).rr hj
  unfold loamref17_Check_l3
  simp (disch := (first | omega | decide | (simp only [World.size_alloc, World.size_setCell, World.size_drew, size_sets, List.mem_cons, List.not_mem_nil, or_false, not_false_eq_true] <;> omega) | fail)) only [↓rsGrp3_2, rsGrp3_1, Option.isNone_some, Option.isNone_none, tick_eq, tickV_eq, ne_eq, Int.reduceAdd, Int.reduceSub, Int.reduceMul, Int.reduceEq, Int.reduceLT, Int.reduceLE, Int.reduceToNat, Nat.reduceMul, Nat.reduceAdd, Nat.reduceSub, List.nil_append, List.cons_append, List.getElem?_toArray, List.getElem?_cons_zero, List.getElem?_cons_succ, List.setIfInBounds_toArray, List.set_cons_zero, List.set_cons_succ, Option.map_some, List.not_mem_nil, ←decide_not, k1, k2, ha1, c1, c2]
  have C : Blk (v2.alloc (.cells #[.string (strOf rs[j].s), i64 rs[j].to] 78)) v2.heap.size 78 [.string (strOf rs[j].s), i64 rs[j].to] := Blk.at rfl
  have X1 : Ext [] v2 (v2.alloc (.cells #[.string (strOf rs[j].s), i64 rs[j].to] 78)) := Ext.alloc _ _ _
  have Bd := (B.ext F2 (by simp)).ext (X1.trans (Ext.drew [] _)) (by simp)
  have kd := fun i => Bd.cell (i := i)
  have hyd := hy.ext0 (F2.trans (X1.trans (Ext.drew [] _)))
  have hsz := C.lt
  generalize v2.heap.size = hc at *
  generalize hyy : v2.alloc (.cells #[.string (strOf rs[j].s), i64 rs[j].to] 78) = y2 at *
  have kc := fun i => (C.ext (Ext.drew [] y2) (by simp)).cell (i := i)
  refine loamref17_Good_call (Yld.mono (Good_spec rs[j].s _) ?_)
  rintro u w4 ⟨⟨bb, rfl, hbb⟩, F4d⟩
  have F4 := (Ext.drew [] y2).trans F4d
  have X4 : Ext [] y w4 := F2.trans (X1.trans F4)
  cases bb with
  | false =>
    simp (disch := (first | omega | decide | (simp only [World.size_alloc, World.size_setCell, World.size_drew, size_sets, List.mem_cons, List.not_mem_nil, or_false, not_false_eq_true] <;> omega) | fail)) only [↓rsGrp3_2, rsGrp3_1, Option.isNone_some, Option.isNone_none, tick_eq, tickV_eq, ne_eq, Int.reduceAdd, Int.reduceSub, Int.reduceMul, Int.reduceEq, Int.reduceLT, Int.reduceLE, Int.reduceToNat, Nat.reduceMul, Nat.reduceAdd, Nat.reduceSub, List.nil_append, List.cons_append, List.getElem?_toArray, List.getElem?_cons_zero, List.getElem?_cons_succ, List.setIfInBounds_toArray, List.set_cons_zero, List.set_cons_succ, Option.map_some, List.not_mem_nil, ←decide_not, k1, k2, ha1, c1, c2]
    exact bad (by decide) X4
  | true =>
  obtain ⟨g1, g2, g3⟩ := hbb rfl
  have k4 := fun i => (B.ext X4 (by simp)).cell (i := i)
  have kc4 := fun i => (C.ext F4 (by simp)).cell (i := i)
  have hq2s : (0 ≤ rs[j].to ∧ rs[j].to ≤ ns.length) → ∀ i (hi : i < rs.length), i < j + 1 → (1 ≤ rs[i].s.length ∧ rs[i].s.length ≤ 32 ∧ ∀ c ∈ rs[i].s, c ≠ BitVec.ofNat 8 0) ∧ 0 ≤ rs[i].to ∧ rs[i].to ≤ ns.length := fun h1 i hi hij => by
    by_cases e : i = j
    · subst e; exact ⟨⟨g1, g2, g3⟩, h1⟩
    · exact hq2 i hi (by omega)
  by_cases hj0 : j = 0
  · by_cases t1 : rs[j].to < 0
    · simp (disch := (first | omega | decide | (simp only [World.size_alloc, World.size_setCell, World.size_drew, size_sets, List.mem_cons, List.not_mem_nil, or_false, not_false_eq_true] <;> omega) | fail)) only [↓rsGrp3_2, rsGrp3_1, Option.isNone_some, Option.isNone_none, tick_eq, tickV_eq, ne_eq, Int.reduceAdd, Int.reduceSub, Int.reduceMul, Int.reduceEq, Int.reduceLT, Int.reduceLE, Int.reduceToNat, Nat.reduceMul, Nat.reduceAdd, Nat.reduceSub, List.nil_append, List.cons_append, List.getElem?_toArray, List.getElem?_cons_zero, List.getElem?_cons_succ, List.setIfInBounds_toArray, List.set_cons_zero, List.set_cons_succ, Option.map_some, List.not_mem_nil, ←decide_not, k1, k2, ha1, c1, c2, kc4]
      exact bad (by decide) X4
    by_cases t2 : (ns.length : Int) < rs[j].to
    · simp (disch := (first | omega | decide | (simp only [World.size_alloc, World.size_setCell, World.size_drew, size_sets, List.mem_cons, List.not_mem_nil, or_false, not_false_eq_true] <;> omega) | fail)) only [↓rsGrp3_2, rsGrp3_1, Option.isNone_some, Option.isNone_none, tick_eq, tickV_eq, ne_eq, Int.reduceAdd, Int.reduceSub, Int.reduceMul, Int.reduceEq, Int.reduceLT, Int.reduceLE, Int.reduceToNat, Nat.reduceMul, Nat.reduceAdd, Nat.reduceSub, List.nil_append, List.cons_append, List.getElem?_toArray, List.getElem?_cons_zero, List.getElem?_cons_succ, List.setIfInBounds_toArray, List.set_cons_zero, List.set_cons_succ, Option.map_some, List.not_mem_nil, ←decide_not, k1, k2, ha1, c1, c2, kc4]
      exact bad (by decide) X4
    simp (disch := (first | omega | decide | (simp only [World.size_alloc, World.size_setCell, World.size_drew, size_sets, List.mem_cons, List.not_mem_nil, or_false, not_false_eq_true] <;> omega) | fail)) only [↓rsGrp3_2, rsGrp3_1, Option.isNone_some, Option.isNone_none, tick_eq, tickV_eq, ne_eq, Int.reduceAdd, Int.reduceSub, Int.reduceMul, Int.reduceEq, Int.reduceLT, Int.reduceLE, Int.reduceToNat, Nat.reduceMul, Nat.reduceAdd, Nat.reduceSub, List.nil_append, List.cons_append, List.getElem?_toArray, List.getElem?_cons_zero, List.getElem?_cons_succ, List.setIfInBounds_toArray, List.set_cons_zero, List.set_cons_succ, Option.map_some, List.not_mem_nil, ←decide_not, k1, k2, ha1, c1, c2, kc4]
    exact hnx2 _ ⟨X4, hq2s ⟨by omega, by omega⟩, fun i hi hij => by omega⟩
  · obtain ⟨b5, o5, ha5, z5, c5, c6⟩ := gr_at (hy.ext0 X4).rr (k := j - 1) (by omega)
    rw [ha1] at ha5
    cases ha5
    have t3 : ((j : Int) - 1).toNat = j - 1 := by omega
    have e3 : (j : Int) - 1 = ((j - 1 : Nat) : Int) := by omega
    by_cases hlt : Op.bytesLess (strOf rs[j - 1].s).toList (strOf rs[j].s).toList = true
    · have hgs := fun w K => geS (cx := false) (cy := false) (strOf rs[j - 1].s) (strOf rs[j].s) w K
      rw [hlt] at hgs
      have hq3s : ∀ i (h : i + 1 < rs.length), i + 1 < j + 1 → Op.bytesLess (strOf rs[i].s).toList (strOf rs[i + 1].s).toList = true := fun i hi hij => by
        by_cases e : i + 1 = j
        · subst e
          exact hlt
        · exact hq3 i hi (by omega)
      by_cases t1 : rs[j].to < 0
      · simp (disch := (first | omega | decide | (simp only [World.size_alloc, World.size_setCell, World.size_drew, size_sets, List.mem_cons, List.not_mem_nil, or_false, not_false_eq_true] <;> omega) | fail)) only [↓rsGrp3_2, rsGrp3_1, Option.isNone_some, Option.isNone_none, tick_eq, tickV_eq, ne_eq, Int.reduceAdd, Int.reduceSub, Int.reduceMul, Int.reduceEq, Int.reduceLT, Int.reduceLE, Int.reduceToNat, Nat.reduceMul, Nat.reduceAdd, Nat.reduceSub, List.nil_append, List.cons_append, List.getElem?_toArray, List.getElem?_cons_zero, List.getElem?_cons_succ, List.setIfInBounds_toArray, List.set_cons_zero, List.set_cons_succ, Option.map_some, List.not_mem_nil, ←decide_not, k1, k2, ha1, c1, c2, kc4, k4, t3, c5, hgs]
        exact bad (by decide) X4
      by_cases t2 : (ns.length : Int) < rs[j].to
      · simp (disch := (first | omega | decide | (simp only [World.size_alloc, World.size_setCell, World.size_drew, size_sets, List.mem_cons, List.not_mem_nil, or_false, not_false_eq_true] <;> omega) | fail)) only [↓rsGrp3_2, rsGrp3_1, Option.isNone_some, Option.isNone_none, tick_eq, tickV_eq, ne_eq, Int.reduceAdd, Int.reduceSub, Int.reduceMul, Int.reduceEq, Int.reduceLT, Int.reduceLE, Int.reduceToNat, Nat.reduceMul, Nat.reduceAdd, Nat.reduceSub, List.nil_append, List.cons_append, List.getElem?_toArray, List.getElem?_cons_zero, List.getElem?_cons_succ, List.setIfInBounds_toArray, List.set_cons_zero, List.set_cons_succ, Option.map_some, List.not_mem_nil, ←decide_not, k1, k2, ha1, c1, c2, kc4, k4, t3, c5, hgs]
        exact bad (by decide) X4
      simp (disch := (first | omega | decide | (simp only [World.size_alloc, World.size_setCell, World.size_drew, size_sets, List.mem_cons, List.not_mem_nil, or_false, not_false_eq_true] <;> omega) | fail)) only [↓rsGrp3_2, rsGrp3_1, Option.isNone_some, Option.isNone_none, tick_eq, tickV_eq, ne_eq, Int.reduceAdd, Int.reduceSub, Int.reduceMul, Int.reduceEq, Int.reduceLT, Int.reduceLE, Int.reduceToNat, Nat.reduceMul, Nat.reduceAdd, Nat.reduceSub, List.nil_append, List.cons_append, List.getElem?_toArray, List.getElem?_cons_zero, List.getElem?_cons_succ, List.setIfInBounds_toArray, List.set_cons_zero, List.set_cons_succ, Option.map_some, List.not_mem_nil, ←decide_not, k1, k2, ha1, c1, c2, kc4, k4, t3, c5, hgs]
      exact hnx2 _ ⟨X4, hq2s ⟨by omega, by omega⟩, hq3s⟩
    · have hgs := fun w K => geS (cx := false) (cy := false) (strOf rs[j - 1].s) (strOf rs[j].s) w K
      have hlt' : Op.bytesLess (strOf rs[j - 1].s).toList (strOf rs[j].s).toList = false := by simpa using hlt
      rw [hlt'] at hgs
      simp (disch := (first | omega | decide | (simp only [World.size_alloc, World.size_setCell, World.size_drew, size_sets, List.mem_cons, List.not_mem_nil, or_false, not_false_eq_true] <;> omega) | fail)) only [↓rsGrp3_2, rsGrp3_1, Option.isNone_some, Option.isNone_none, tick_eq, tickV_eq, ne_eq, Int.reduceAdd, Int.reduceSub, Int.reduceMul, Int.reduceEq, Int.reduceLT, Int.reduceLE, Int.reduceToNat, Nat.reduceMul, Nat.reduceAdd, Nat.reduceSub, List.nil_append, List.cons_append, List.getElem?_toArray, List.getElem?_cons_zero, List.getElem?_cons_succ, List.setIfInBounds_toArray, List.set_cons_zero, List.set_cons_succ, Option.map_some, List.not_mem_nil, ←decide_not, k1, k2, ha1, c1, c2, kc4, k4, t3, c5, hgs]
      exact bad (by decide) X4
/-- a node's words -/
def gsz (x : GN) : Nat := 1 + x.p.length + (x.d.length + 7) / 8
abbrev rsGrp3_3 := (And.intro @xBox_r (And.intro @loadK_some (And.intro @loadsK_s (And.intro @loadsK_n (And.intro @loadsR_s (And.intro @loadsR_n (And.intro @storesK_s (And.intro @storesK_n (And.intro @xPick_t (And.intro @xPick_f (And.intro @xGuard_tt (And.intro @xGuard_ff (And.intro @xGuard_tf (And.intro @xGuard_ft (And.intro @xGuard_u 
  (And.intro @xNil_r (And.intro @xIf_t (And.intro @xBin_add' (And.intro @xBin_sub' (And.intro @xBin_mul' (And.intro @xBin_quo' (And.intro @xBin_rem' (And.intro @xIf_f (And.intro @xIf_tt (And.intro @xEx0 (And.intro @xEx1 (And.intro @xEx2 (And.intro @xEx3 (And.intro @xBin_eqs (And.intro @xBin_nes (And.intro @xUn_not (And.intro @xMakeFunc_r (And.intro @xSq_r 
  (And.intro @xPur_s (And.intro @xRd_s (And.intro @xRe_s (And.intro @xDet_s (And.intro @xDet_ld (And.intro @xDet_ld2 (And.intro @xDet_ld3 (And.intro @xDet_ld4 (And.intro @xGuard_tt (And.intro @ld_66 (And.intro @ld_70 (And.intro @fa_76_0 (And.intro @fa_76_1 (And.intro @bd_84_0_1 (And.intro @bd_84_2_3 (And.intro @bd_84 (And.intro @ln_66 @ln_70))))))))))))))))))))))))))))))))))))))))))))))))))
theorem gsize_spec {w : World} (x : GN) (h1 : x.p.length ≤ 64) (h2 : x.d.length ≤ 1024) : Gives Try.prog n_loamref17_size #[.agg #[.slice x.pa x.p.length x.pc, .slice x.da x.d.length x.dc]] w (i64 (gsz x : Int)) := by
  refine loamref17_size_of ?_
  unfold loamref17_size
  simp (disch := (first | omega | decide | (simp only [World.size_alloc, World.size_setCell, World.size_drew, size_sets, List.mem_cons, List.not_mem_nil, or_false, not_false_eq_true] <;> omega) | fail)) only [↓rsGrp3_3, rsGrp3_1, Option.isNone_some, Option.isNone_none, tick_eq, tickV_eq, ne_eq, Int.reduceAdd, Int.reduceSub, Int.reduceMul, Int.reduceEq, Int.reduceLT, Int.reduceLE, Int.reduceToNat, Nat.reduceMul, Nat.reduceAdd, Nat.reduceSub, List.nil_append, List.cons_append, List.getElem?_toArray, List.getElem?_cons_zero, List.getElem?_cons_succ, List.setIfInBounds_toArray, List.set_cons_zero, List.set_cons_succ, Option.map_some, List.not_mem_nil, ←decide_not, eq_self]
  have hr := rSize_spec (x.p.length : Int) (x.d.length : Int) false 0 (w.alloc (.cells #[.slice x.pa x.p.length x.pc, .slice x.da x.d.length x.dc] 76))
  have e : sizeV (x.p.length : Int) (x.d.length : Int) false 0 = (gsz x : Int) := by
    unfold sizeV gsz
    rw [if_pos ⟨right_f.2 (by omega), rfl⟩]
    omega
  rw [e] at hr
  refine loamref14_Size_call (Gives.to hr fun w1 F1 => ?_)
  exact ⟨by trivial, (Ext.alloc _ _ _).trans F1⟩
end Go.Proofs.Ytdpmidgeipibbaa
end
section
set_option linter.unusedVariables false
set_option linter.unusedSimpArgs false
set_option maxHeartbeats 4000000
namespace Go.Proofs.Ytdpmidgeipibbaa
open Go.Sh Go.RowKit

def gW (ns : List GN) : Nat := (ns.map gsz).sum
theorem gW_snoc (l : List GN) (x : GN) : gW (l ++ [x]) = gW l + gsz x := by simp [gW]
theorem gW_take {ns : List GN} {j : Nat} (hj : j < ns.length) : gW (ns.take (j + 1)) = gW (ns.take j) + gsz ns[j] := by
  rw [List.take_add_one, List.getElem?_eq_getElem hj]
  exact gW_snoc _ _
theorem gW_le (ns : List GN) (h : ∀ x ∈ ns, x.p.length ≤ 64 ∧ x.d.length ≤ 1024) : gW ns ≤ 193 * ns.length := by
  induction ns with
  | nil => simp [gW]
  | cons x ns ih =>
    have h1 := h x (by simp)
    have := ih fun y hy => h y (by simp [hy])
    have e : gW (x :: ns) = gsz x + gW ns := by simp [gW]
    rw [e, List.length_cons]
    unfold gsz
    omega
abbrev rsGrp4_0 := (And.intro @xBox_r (And.intro @loadK_some (And.intro @loadsK_s (And.intro @loadsK_n (And.intro @loadsR_s (And.intro @loadsR_n (And.intro @storesK_s (And.intro @storesK_n (And.intro @xPick_t (And.intro @xPick_f (And.intro @xGuard_tt (And.intro @xGuard_ff (And.intro @xGuard_tf (And.intro @xGuard_ft (And.intro @xGuard_u 
  (And.intro @xNil_r (And.intro @xIf_t (And.intro @xBin_add' (And.intro @xBin_sub' (And.intro @xBin_mul' (And.intro @xBin_quo' (And.intro @xBin_rem' (And.intro @xIf_f (And.intro @xIf_tt (And.intro @xEx0 (And.intro @xEx1 (And.intro @xEx2 (And.intro @xEx3 (And.intro @xBin_eqs (And.intro @xBin_nes (And.intro @xUn_not (And.intro @xu8_add (And.intro @xu8_lss 
  (And.intro @xu16_add (And.intro @xu16_lss (And.intro @xu32_add (And.intro @xu32_lss (And.intro @xu64_add (And.intro @xu64_lss (And.intro @xi64_lss (And.intro @xMakeFunc_r (And.intro @xSq_r (And.intro @xPur_s (And.intro @xRd_s (And.intro @xRe_s (And.intro @xDet_s (And.intro @xDet_ld (And.intro @xDet_ld2 (And.intro @xDet_ld3 (And.intro @xDet_ld4 
  (And.intro @xGuard_tt (And.intro @ld_31 (And.intro @ld_76 (And.intro @fa_34_0 (And.intro @ia_31 @ln_31)))))))))))))))))))))))))))))))))))))))))))))))))))))))
abbrev rsGrp4_1 := (And.intro @setCells_c (And.intro @setCells_n (And.intro @World.setCell_alloc_at (And.intro @World.setCell_alloc_past (And.intro @World.cell?_alloc_at (And.intro @World.cell?_alloc_past (And.intro @World.frozen?_alloc_at (And.intro @World.frozen?_alloc_past 
  (And.intro @World.size_alloc (And.intro @dlt_t (And.intro @dlt_f (And.intro @dle_t (And.intro @dle_f (And.intro @deq_t (And.intro @deq_f (And.intro @dne_t (And.intro @dne_f (And.intro @not_true_eq_false (And.intro @Bool.false_and (And.intro @Bool.true_and (And.intro @Bool.and_true (And.intro @Bool.and_false (And.intro @wrap_in (And.intro @Int.toNat_natCast 
  (And.intro @Nat.mul_one (And.intro @cells_int (And.intro @cells_bool (And.intro @cells_string (And.intro @cells_slice (And.intro @cells_pointer (And.intro @cells_agg (And.intro @one_int (And.intro @one_bool (And.intro @one_string (And.intro @one_slice (And.intro @one_pointer (And.intro @beq_tt (And.intro @beq_ff (And.intro @beq_tf 
  (And.intro @beq_ft (And.intro @cell_sets_b (And.intro @frozen_sets (And.intro @size_sets (And.intro @World.size_drew (And.intro @Nat.zero_add (And.intro @Nat.add_zero (And.intro @cell_drew (And.intro @frozen_drew (And.intro @cell_set_eq (And.intro @cell_set_o (And.intro @cell_set_b (And.intro @World.frozen?_setCell 
  (And.intro @decide_true (And.intro @decide_false (And.intro @not_false_eq_true (And.intro @Bool.not_true @Bool.not_false))))))))))))))))))))))))))))))))))))))))))))))))))))))))
theorem GWords_spec {w : World} {na ra : Option Addr} {nc rc : Nat} {ns : List GN} {rs : List GR} (h : GIs w na nc ra rc ns rs) (hf : FewG ns rs) (hg : GoodG ns rs) : Gives Try.prog n_loamref17_Words #[gV na nc ra rc ns rs] w (i64 (gW ns : Int)) := by
  have hfn := hf.n
  refine loamref17_Words_of ?_
  unfold loamref17_Words
  simp (disch := (first | omega | decide | (simp only [World.size_alloc, World.size_setCell, World.size_drew, size_sets, List.mem_cons, List.not_mem_nil, or_false, not_false_eq_true] <;> omega) | fail)) only [↓rsGrp4_0, rsGrp4_1, Option.isNone_some, Option.isNone_none, tick_eq, tickV_eq, ne_eq, Int.reduceAdd, Int.reduceSub, Int.reduceMul, Int.reduceEq, Int.reduceLT, Int.reduceLE, Int.reduceToNat, Nat.reduceMul, Nat.reduceAdd, Nat.reduceSub, List.nil_append, List.cons_append, List.getElem?_toArray, List.getElem?_cons_zero, List.getElem?_cons_succ, List.setIfInBounds_toArray, List.set_cons_zero, List.set_cons_succ, Option.map_some, List.not_mem_nil, ←decide_not, eq_self]
  have B : Blk (w.alloc (.cells #[.slice na ns.length nc, .slice ra rs.length rc] 34)) w.heap.size 34 [.slice na ns.length nc, .slice ra rs.length rc] := Blk.at rfl
  have X : Ext [] w (w.alloc (.cells #[.slice na ns.length nc, .slice ra rs.length rc] 34)) := Ext.alloc _ _ _
  have hy := h.ext0 X
  generalize w.heap.size = hb at *
  generalize w.alloc (.cells #[.slice na ns.length nc, .slice ra rs.length rc] 34) = y at *
  refine xLoop_n ns.length (fun j => [i64 (gW (ns.take j) : Int), i64 (j : Int)]) (fun j w' => Ext [] y w') rfl (Ext.refl _ _) ?_ ?_
  · intro j hj u v1 hu F nxt hnx
    simp only [List.map_cons, List.map_nil, List.cons.injEq, and_true] at hu
    rw [hu.1, hu.2]
    have k1 := fun i => (B.ext F (by simp)).cell (i := i)
    obtain ⟨b1, o1, ha1, z1, c1, c2⟩ := gn_at (hy.ext0 F).nr hj
    have hgx := hg.x _ (List.getElem_mem hj)
    have hle := gW_le (ns.take j) fun x hx => (hg.x x (List.mem_of_mem_take hx)).2
    rw [List.length_take] at hle
    have hsu := gW_take hj
    have e1 : (gW (ns.take j) : Int) + (gsz ns[j] : Int) = (gW (ns.take (j + 1)) : Int) := by omega
    have hgs : gsz ns[j] ≤ 193 := by unfold gsz; omega
    unfold loamref17_Words_l1
    simp (disch := (first | omega | decide | (simp only [World.size_alloc, World.size_setCell, World.size_drew, size_sets, List.mem_cons, List.not_mem_nil, or_false, not_false_eq_true] <;> omega) | fail)) only [↓rsGrp4_0, rsGrp4_1, Option.isNone_some, Option.isNone_none, tick_eq, tickV_eq, ne_eq, Int.reduceAdd, Int.reduceSub, Int.reduceMul, Int.reduceEq, Int.reduceLT, Int.reduceLE, Int.reduceToNat, Nat.reduceMul, Nat.reduceAdd, Nat.reduceSub, List.nil_append, List.cons_append, List.getElem?_toArray, List.getElem?_cons_zero, List.getElem?_cons_succ, List.setIfInBounds_toArray, List.set_cons_zero, List.set_cons_succ, Option.map_some, List.not_mem_nil, ←decide_not, k1, ha1, c1, c2]
    refine loamref17_size_call (Gives.to (gsize_spec ns[j] hgx.2.1 hgx.2.2) fun w2 F2 => ?_)
    simp (disch := (first | omega | decide | (simp only [World.size_alloc, World.size_setCell, World.size_drew, size_sets, List.mem_cons, List.not_mem_nil, or_false, not_false_eq_true] <;> omega) | fail)) only [↓rsGrp4_0, rsGrp4_1, Option.isNone_some, Option.isNone_none, tick_eq, tickV_eq, ne_eq, Int.reduceAdd, Int.reduceSub, Int.reduceMul, Int.reduceEq, Int.reduceLT, Int.reduceLE, Int.reduceToNat, Nat.reduceMul, Nat.reduceAdd, Nat.reduceSub, List.nil_append, List.cons_append, List.getElem?_toArray, List.getElem?_cons_zero, List.getElem?_cons_succ, List.setIfInBounds_toArray, List.set_cons_zero, List.set_cons_succ, Option.map_some, List.not_mem_nil, ←decide_not, k1, ha1, c1, c2]
    rw [e1]
    exact hnx _ (F.trans F2)
  · intro u v1 hu F nxt
    simp only [List.map_cons, List.map_nil, List.cons.injEq, and_true] at hu
    rw [hu.1, hu.2]
    have k1 := fun i => (B.ext F (by simp)).cell (i := i)
    unfold loamref17_Words_l1
    simp (disch := (first | omega | decide | (simp only [World.size_alloc, World.size_setCell, World.size_drew, size_sets, List.mem_cons, List.not_mem_nil, or_false, not_false_eq_true] <;> omega) | fail)) only [↓rsGrp4_0, rsGrp4_1, Option.isNone_some, Option.isNone_none, tick_eq, tickV_eq, ne_eq, Int.reduceAdd, Int.reduceSub, Int.reduceMul, Int.reduceEq, Int.reduceLT, Int.reduceLE, Int.reduceToNat, Nat.reduceMul, Nat.reduceAdd, Nat.reduceSub, List.nil_append, List.cons_append, List.getElem?_toArray, List.getElem?_cons_zero, List.getElem?_cons_succ, List.setIfInBounds_toArray, List.set_cons_zero, List.set_cons_succ, Option.map_some, List.not_mem_nil, ←decide_not, k1]
    exact ⟨by rw [List.take_length], X.trans F⟩
abbrev rsGrp4_2 := (And.intro @xBox_r (And.intro @loadK_some (And.intro @loadsK_s (And.intro @loadsK_n (And.intro @loadsR_s (And.intro @loadsR_n (And.intro @storesK_s (And.intro @storesK_n (And.intro @xPick_t (And.intro @xPick_f (And.intro @xGuard_tt (And.intro @xGuard_ff (And.intro @xGuard_tf (And.intro @xGuard_ft (And.intro @xGuard_u 
  (And.intro @xNil_r (And.intro @xIf_t (And.intro @xBin_add' (And.intro @xBin_sub' (And.intro @xBin_mul' (And.intro @xBin_quo' (And.intro @xBin_rem' (And.intro @xIf_f (And.intro @xIf_tt (And.intro @xEx0 (And.intro @xEx1 (And.intro @xEx2 (And.intro @xEx3 (And.intro @xBin_eqs (And.intro @xBin_nes (And.intro @xUn_not (And.intro @xu8_add (And.intro @xu8_mul 
  (And.intro @xu16_add (And.intro @xu16_mul (And.intro @xu32_add (And.intro @xu32_mul (And.intro @xu64_add (And.intro @xu64_mul (And.intro @xMakeFunc_r (And.intro @xSq_r (And.intro @xPur_s (And.intro @xRd_s (And.intro @xRe_s (And.intro @xDet_s (And.intro @xDet_ld (And.intro @xDet_ld2 (And.intro @xDet_ld3 (And.intro @xDet_ld4 (And.intro @xGuard_tt 
  (And.intro @ld_32 (And.intro @ld_34 (And.intro @fa_34_1 @ln_32)))))))))))))))))))))))))))))))))))))))))))))))))))))
theorem GNeed_spec {w : World} {na ra : Option Addr} {nc rc : Nat} {ns : List GN} {rs : List GR} (h : GIs w na nc ra rc ns rs) (hf : FewG ns rs) (hg : GoodG ns rs) : Gives Try.prog n_loamref17_Need #[gV na nc ra rc ns rs] w (i64 ((2 + 5 * rs.length + gW ns : Nat) : Int)) := by
  have hfn := hf.n
  have hfr := hf.r
  have hle := gW_le ns fun x hx => (hg.x x hx).2
  refine loamref17_Need_of ?_
  unfold loamref17_Need
  simp (disch := (first | omega | decide | (simp only [World.size_alloc, World.size_setCell, World.size_drew, size_sets, List.mem_cons, List.not_mem_nil, or_false, not_false_eq_true] <;> omega) | fail)) only [↓rsGrp4_2, rsGrp4_1, Option.isNone_some, Option.isNone_none, tick_eq, tickV_eq, ne_eq, Int.reduceAdd, Int.reduceSub, Int.reduceMul, Int.reduceEq, Int.reduceLT, Int.reduceLE, Int.reduceToNat, Nat.reduceMul, Nat.reduceAdd, Nat.reduceSub, List.nil_append, List.cons_append, List.getElem?_toArray, List.getElem?_cons_zero, List.getElem?_cons_succ, List.setIfInBounds_toArray, List.set_cons_zero, List.set_cons_succ, Option.map_some, List.not_mem_nil, ←decide_not, eq_self]
  have B : Blk (w.alloc (.cells #[.slice na ns.length nc, .slice ra rs.length rc] 34)) w.heap.size 34 [.slice na ns.length nc, .slice ra rs.length rc] := Blk.at rfl
  have X : Ext [] w (w.alloc (.cells #[.slice na ns.length nc, .slice ra rs.length rc] 34)) := Ext.alloc _ _ _
  have X1 := X.trans (Ext.drew [] _)
  refine loamref17_Words_call (Gives.to (GWords_spec (h.ext0 X1) hf hg) fun w2 F2d => ?_)
  have F2 := (Ext.drew [] _).trans F2d
  have k2 := fun i => (B.ext F2 (by simp)).cell (i := i)
  have e1 : 2 + 5 * (rs.length : Int) + (gW ns : Int) = ((2 + 5 * rs.length + gW ns : Nat) : Int) := by omega
  simp (disch := (first | omega | decide | (simp only [World.size_alloc, World.size_setCell, World.size_drew, size_sets, List.mem_cons, List.not_mem_nil, or_false, not_false_eq_true] <;> omega) | fail)) only [↓rsGrp4_2, rsGrp4_1, Option.isNone_some, Option.isNone_none, tick_eq, tickV_eq, ne_eq, Int.reduceAdd, Int.reduceSub, Int.reduceMul, Int.reduceEq, Int.reduceLT, Int.reduceLE, Int.reduceToNat, Nat.reduceMul, Nat.reduceAdd, Nat.reduceSub, List.nil_append, List.cons_append, List.getElem?_toArray, List.getElem?_cons_zero, List.getElem?_cons_succ, List.setIfInBounds_toArray, List.set_cons_zero, List.set_cons_succ, Option.map_some, List.not_mem_nil, ←decide_not, k2]
  exact ⟨by rw [e1], X.trans F2⟩
/-! bytes as words -/
def orV (l : List (BitVec 8)) (a : Nat) : Nat → BitVec 64
  | 0 => BitVec.ofNat 64 0
  | k + 1 => orV l a k ||| ((l.getD (a + k) (BitVec.ofNat 8 0)).setWidth 64 <<< (8 * k))
def wordV (l : List (BitVec 8)) (i : Nat) : BitVec 64 := orV l (8 * i) (min 8 (l.length - 8 * i))
def wordsV (l : List (BitVec 8)) : List (BitVec 64) := (List.range ((l.length + 7) / 8)).map (wordV l)
theorem wordsV_len (l : List (BitVec 8)) : (wordsV l).length = (l.length + 7) / 8 := by simp [wordsV]
theorem appU' {w : World} {K : K1} {v : Value} {l : List (BitVec 64)} {x : BitVec 64} {g : Nat} {cs : List Value} (hO : OwnU w v l) (hcs : cs = [u64 x]) (hl : l.length ≤ 100000)
    (hK : ∀ v' w', OwnU w' v' (l ++ [x]) → Stp (blk v) (blk v') w w' → K v' w') (hg : g = w.heap.size := by first | rfl | (simp only [World.size_alloc, World.size_drew, World.size_setCell] <;> omega)) : xBuiltin Try.prog .append #[28, 28] 28 [false, false] [v, .slice (some ⟨g, 0, none⟩) 1 1] (w.alloc (.cells cs.toArray 69)) K := by
  subst hcs hg
  refine xAppL (bytes := 8) (z := .int .u64 0) (by kernel_rfl) (by kernel_rfl) (by rfl) (by decide) hO (by simp) (by simp [Value.oneCell']) (by omega) (by omega) fun v' w' h1 h2 => hK v' w' ?_ h2
  show Own w' 69 1 v' (l ++ [x]).length (wrds (l ++ [x]))
  rw [List.length_append, wrds, List.map_append]
  exact h1
theorem appUs {w : World} {K : K1} {v : Value} {l m : List (BitVec 64)} {a : Option Addr} {c : Nat} (hO : OwnU w v l) (hr : RowAt w a (wrds m)) (hn : a = none → c = 0) (hc : m.length ≤ c) (hl : l.length + m.length ≤ 1000000)
    (hK : ∀ v' w', OwnU w' v' (l ++ m) → Stp (blk v) (blk v') w w' → K v' w') : xBuiltin Try.prog .append #[28, 28] 28 [false, false] [v, .slice a m.length c] w K := by
  refine xApp (e := 69) (s := 1) (n := l.length) (m := m.length) (xs := wrds l) (news := wrds m) (bytes := 8) (z := .int .u64 0) (by kernel_rfl) (by kernel_rfl) (by rfl) (by decide) hO (by simp) hr hn hc (fun u hu => by obtain ⟨x, _, rfl⟩ := List.mem_map.1 hu; rfl) (by omega) (by omega) fun v' w' h1 h2 => hK v' w' ?_ h2
  show Own w' 69 1 v' (l ++ m).length (wrds (l ++ m))
  rw [List.length_append, wrds, List.map_append]
  exact h1
abbrev rsGrp4_3 := (And.intro @xBox_r (And.intro @loadK_some (And.intro @loadsK_s (And.intro @loadsK_n (And.intro @loadsR_s (And.intro @loadsR_n (And.intro @storesK_s (And.intro @storesK_n (And.intro @xPick_t (And.intro @xPick_f (And.intro @xGuard_tt (And.intro @xGuard_ff (And.intro @xGuard_tf (And.intro @xGuard_ft (And.intro @xGuard_u 
  (And.intro @xNil_r (And.intro @xIf_t (And.intro @xBin_add' (And.intro @xBin_sub' (And.intro @xBin_mul' (And.intro @xBin_quo' (And.intro @xBin_rem' (And.intro @xIf_f (And.intro @xIf_tt (And.intro @xEx0 (And.intro @xEx1 (And.intro @xEx2 (And.intro @xEx3 (And.intro @xBin_eqs (And.intro @xBin_nes (And.intro @xUn_not (And.intro @xu8_add (And.intro @xu8_mul 
  (And.intro @xu8_or (And.intro @xu8_shl (And.intro @xu8_lss (And.intro @xu16_add (And.intro @xu16_mul (And.intro @xu16_or (And.intro @xu16_shl (And.intro @xu16_lss (And.intro @xu32_add (And.intro @xu32_mul (And.intro @xu32_or (And.intro @xu32_shl (And.intro @xu32_lss (And.intro @xu64_add (And.intro @xu64_mul (And.intro @xu64_or (And.intro @xu64_shl 
  (And.intro @xu64_lss (And.intro @xi64_lss (And.intro @xi64_or (And.intro @xi64_shl (And.intro @xMakeFunc_r (And.intro @xSq_r (And.intro @xPur_s (And.intro @xRd_s (And.intro @xRe_s (And.intro @xDet_s (And.intro @xDet_ld (And.intro @xDet_ld2 (And.intro @xDet_ld3 (And.intro @xDet_ld4 (And.intro @xGuard_tt (And.intro @ld_5 (And.intro @cv_3_77 (And.intro @cv_5_69 
  (And.intro @ia_70 (And.intro @ln_70 (And.intro @bs_28_0 (And.intro @bs_28_1 (And.intro @bs_28_2 @bs_28_3)))))))))))))))))))))))))))))))))))))))))))))))))))))))))))))))))))))))))
theorem rwords_spec {w : World} (l : List (BitVec 8)) (a : Option Addr) (c : Nat) (h : RowAt w a (bys l)) (hl : l.length ≤ 10000) : Yld Try.prog n_loamref17_words #[.slice a l.length c] w fun u w' => NewU w w' u (wordsV l) := by
  refine loamref17_words_of ?_
  unfold loamref17_words
  refine xLoop_r ((l.length + 7) / 8) (fun i vs w' => ∃ v, vs = [v, i64 ((8 * i : Nat) : Int)] ∧ NewU w w' v ((List.range i).map (wordV l))) ⟨_, rfl, NewR.nil (Ext.refl _ _)⟩ ?_ ?_
  · rintro i hi u v1 ⟨v, hu, N⟩ nxt hnx
    simp only [List.map_cons, List.map_nil, List.cons.injEq, and_true] at hu
    rw [hu.1, hu.2]
    have hlt : 8 * i < l.length := by omega
    unfold loamref17_words_l1
    simp (disch := (first | omega | decide | (simp only [World.size_alloc, World.size_setCell, World.size_drew, size_sets, List.mem_cons, List.not_mem_nil, or_false, not_false_eq_true] <;> omega) | fail)) only [↓rsGrp4_3, rsGrp4_1, Option.isNone_some, Option.isNone_none, tick_eq, tickV_eq, ne_eq, Int.reduceAdd, Int.reduceSub, Int.reduceMul, Int.reduceEq, Int.reduceLT, Int.reduceLE, Int.reduceToNat, Nat.reduceMul, Nat.reduceAdd, Nat.reduceSub, List.nil_append, List.cons_append, List.getElem?_toArray, List.getElem?_cons_zero, List.getElem?_cons_succ, List.setIfInBounds_toArray, List.set_cons_zero, List.set_cons_succ, Option.map_some, List.not_mem_nil, ←decide_not, eq_self]
    refine xLoop_n (min 8 (l.length - 8 * i)) (fun k => [u64 (orV l (8 * i) k), i64 (k : Int)]) (fun k w' => Ext [] v1 w') rfl (Ext.refl _ _) ?_ ?_
    · intro k hk u v2 hu F nxt2 hnx2
      simp only [List.map_cons, List.map_nil, List.cons.injEq, and_true] at hu
      rw [hu.1, hu.2]
      have hkl : 8 * i + k < l.length := by omega
      obtain ⟨b1, o1, rfl, z1, k1⟩ := ((h.ext0 N.1).ext0 F).at (i := 8 * i + k) (by simpa using hkl)
      simp only [List.getElem_map] at k1
      have e1 : ((8 * i : Nat) : Int) + (k : Int) = ((8 * i + k : Nat) : Int) := by omega
      have hsh : (BitVec.ofInt 64 (8 * (k : Int))).toNat = 8 * k := by
        rw [show 8 * (k : Int) = ((8 * k : Nat) : Int) by omega, BitVec.ofInt_natCast, BitVec.toNat_ofNat]
        omega
      have hs : orV l (8 * i) (k + 1) = orV l (8 * i) k ||| ((l[8 * i + k]).setWidth 64 <<< (8 * k)) := by
        rw [orV, List.getD_eq_getElem?_getD, List.getElem?_eq_getElem hkl]
        rfl
      have hk8 : k < 8 := by omega
      unfold loamref17_words_l2
      generalize orV l (8 * i) k = oo at *
      generalize hq : 8 * i + k = q at *
      simp (disch := (first | omega | decide | (simp only [World.size_alloc, World.size_setCell, World.size_drew, size_sets, List.mem_cons, List.not_mem_nil, or_false, not_false_eq_true] <;> omega) | fail)) only [↓rsGrp4_3, rsGrp4_1, Option.isNone_some, Option.isNone_none, tick_eq, tickV_eq, ne_eq, Int.reduceAdd, Int.reduceSub, Int.reduceMul, Int.reduceEq, Int.reduceLT, Int.reduceLE, Int.reduceToNat, Nat.reduceMul, Nat.reduceAdd, Nat.reduceSub, List.nil_append, List.cons_append, List.getElem?_toArray, List.getElem?_cons_zero, List.getElem?_cons_succ, List.setIfInBounds_toArray, List.set_cons_zero, List.set_cons_succ, Option.map_some, List.not_mem_nil, ←decide_not, e1, k1, hsh]
      rw [← hs]
      exact hnx2 _ F
    · intro u v2 hu F nxt2
      simp only [List.map_cons, List.map_nil, List.cons.injEq, and_true] at hu
      rw [hu.1, hu.2]
      have N2 := N.ext F
      have hw : orV l (8 * i) (min 8 (l.length - 8 * i)) = wordV l i := rfl
      have hsu : (List.range (i + 1)).map (wordV l) = (List.range i).map (wordV l) ++ [wordV l i] := by rw [List.range_succ, List.map_append]; rfl
      have e2 : ((8 * i : Nat) : Int) + 8 = ((8 * (i + 1) : Nat) : Int) := by omega
      unfold loamref17_words_l2
      rw [hw]
      by_cases h8 : l.length - 8 * i < 8
      · have hmin : min 8 (l.length - 8 * i) = l.length - 8 * i := by omega
        have e3 : ((8 * i : Nat) : Int) + ((l.length - 8 * i : Nat) : Int) = (l.length : Int) := by omega
        rw [hmin]
        simp (disch := (first | omega | decide | (simp only [World.size_alloc, World.size_setCell, World.size_drew, size_sets, List.mem_cons, List.not_mem_nil, or_false, not_false_eq_true] <;> omega) | fail)) only [↓rsGrp4_3, rsGrp4_1, Option.isNone_some, Option.isNone_none, tick_eq, tickV_eq, ne_eq, Int.reduceAdd, Int.reduceSub, Int.reduceMul, Int.reduceEq, Int.reduceLT, Int.reduceLE, Int.reduceToNat, Nat.reduceMul, Nat.reduceAdd, Nat.reduceSub, List.nil_append, List.cons_append, List.getElem?_toArray, List.getElem?_cons_zero, List.getElem?_cons_succ, List.setIfInBounds_toArray, List.set_cons_zero, List.set_cons_succ, Option.map_some, List.not_mem_nil, ←decide_not, e3]
        refine appU' N2.2.1 rfl (by simp; omega) fun v' w3 O3 F3 => ?_
        simp (disch := (first | omega | decide | (simp only [World.size_alloc, World.size_setCell, World.size_drew, size_sets, List.mem_cons, List.not_mem_nil, or_false, not_false_eq_true] <;> omega) | fail)) only [↓rsGrp4_3, rsGrp4_1, Option.isNone_some, Option.isNone_none, tick_eq, tickV_eq, ne_eq, Int.reduceAdd, Int.reduceSub, Int.reduceMul, Int.reduceEq, Int.reduceLT, Int.reduceLE, Int.reduceToNat, Nat.reduceMul, Nat.reduceAdd, Nat.reduceSub, List.nil_append, List.cons_append, List.getElem?_toArray, List.getElem?_cons_zero, List.getElem?_cons_succ, List.setIfInBounds_toArray, List.set_cons_zero, List.set_cons_succ, Option.map_some, List.not_mem_nil, ←decide_not, e3]
        rw [e2]
        refine hnx _ _ ⟨v', rfl, ?_⟩
        rw [hsu]
        exact N2.app O3 F3
      · have hmin : min 8 (l.length - 8 * i) = 8 := by omega
        rw [hmin]
        simp (disch := (first | omega | decide | (simp only [World.size_alloc, World.size_setCell, World.size_drew, size_sets, List.mem_cons, List.not_mem_nil, or_false, not_false_eq_true] <;> omega) | fail)) only [↓rsGrp4_3, rsGrp4_1, Option.isNone_some, Option.isNone_none, tick_eq, tickV_eq, ne_eq, Int.reduceAdd, Int.reduceSub, Int.reduceMul, Int.reduceEq, Int.reduceLT, Int.reduceLE, Int.reduceToNat, Nat.reduceMul, Nat.reduceAdd, Nat.reduceSub, List.nil_append, List.cons_append, List.getElem?_toArray, List.getElem?_cons_zero, List.getElem?_cons_succ, List.setIfInBounds_toArray, List.set_cons_zero, List.set_cons_succ, Option.map_some, List.not_mem_nil, ←decide_not, eq_self]
        refine appU' N2.2.1 rfl (by simp; omega) fun v' w3 O3 F3 => ?_
        simp (disch := (first | omega | decide | (simp only [World.size_alloc, World.size_setCell, World.size_drew, size_sets, List.mem_cons, List.not_mem_nil, or_false, not_false_eq_true] <;> omega) | fail)) only [↓rsGrp4_3, rsGrp4_1, Option.isNone_some, Option.isNone_none, tick_eq, tickV_eq, ne_eq, Int.reduceAdd, Int.reduceSub, Int.reduceMul, Int.reduceEq, Int.reduceLT, Int.reduceLE, Int.reduceToNat, Nat.reduceMul, Nat.reduceAdd, Nat.reduceSub, List.nil_append, List.cons_append, List.getElem?_toArray, List.getElem?_cons_zero, List.getElem?_cons_succ, List.setIfInBounds_toArray, List.set_cons_zero, List.set_cons_succ, Option.map_some, List.not_mem_nil, ←decide_not, eq_self]
        rw [e2]
        refine hnx _ _ ⟨v', rfl, ?_⟩
        rw [hsu]
        exact N2.app O3 F3
  · rintro u v1 ⟨v, hu, N⟩ nxt
    simp only [List.map_cons, List.map_nil, List.cons.injEq, and_true] at hu
    rw [hu.1, hu.2]
    have hge : ¬ 8 * ((l.length + 7) / 8) < l.length := by omega
    unfold loamref17_words_l1
    simp (disch := (first | omega | decide | (simp only [World.size_alloc, World.size_setCell, World.size_drew, size_sets, List.mem_cons, List.not_mem_nil, or_false, not_false_eq_true] <;> omega) | fail)) only [↓rsGrp4_3, rsGrp4_1, Option.isNone_some, Option.isNone_none, tick_eq, tickV_eq, ne_eq, Int.reduceAdd, Int.reduceSub, Int.reduceMul, Int.reduceEq, Int.reduceLT, Int.reduceLE, Int.reduceToNat, Nat.reduceMul, Nat.reduceAdd, Nat.reduceSub, List.nil_append, List.cons_append, List.getElem?_toArray, List.getElem?_cons_zero, List.getElem?_cons_succ, List.setIfInBounds_toArray, List.set_cons_zero, List.set_cons_succ, Option.map_some, List.not_mem_nil, ←decide_not, eq_self]
    exact N
def ptW (pl : List Nat) (to : Int) : BitVec 64 := if to = 0 then BitVec.ofNat 64 0 else BitVec.ofNat 64 (pl.getD (to.toNat - 1) 0 + 1)
abbrev rsGrp4_4 := (And.intro @xBox_r (And.intro @loadK_some (And.intro @loadsK_s (And.intro @loadsK_n (And.intro @loadsR_s (And.intro @loadsR_n (And.intro @storesK_s (And.intro @storesK_n (And.intro @xPick_t (And.intro @xPick_f (And.intro @xGuard_tt (And.intro @xGuard_ff (And.intro @xGuard_tf (And.intro @xGuard_ft (And.intro @xGuard_u 
  (And.intro @xNil_r (And.intro @xIf_t (And.intro @xBin_add' (And.intro @xBin_sub' (And.intro @xBin_mul' (And.intro @xBin_quo' (And.intro @xBin_rem' (And.intro @xIf_f (And.intro @xIf_tt (And.intro @xEx0 (And.intro @xEx1 (And.intro @xEx2 (And.intro @xEx3 (And.intro @xBin_eqs (And.intro @xBin_nes (And.intro @xUn_not (And.intro @xu8_add (And.intro @xu8_sub 
  (And.intro @xu8_eql (And.intro @xu16_add (And.intro @xu16_sub (And.intro @xu16_eql (And.intro @xu32_add (And.intro @xu32_sub (And.intro @xu32_eql (And.intro @xu64_add (And.intro @xu64_sub (And.intro @xu64_eql (And.intro @xi64_eql (And.intro @xMakeFunc_r (And.intro @xSq_r (And.intro @xPur_s (And.intro @xRd_s (And.intro @xRe_s (And.intro @xDet_s 
  (And.intro @xDet_ld (And.intro @xDet_ld2 (And.intro @xDet_ld3 (And.intro @xDet_ld4 (And.intro @xGuard_tt (And.intro @ld_3 (And.intro @cv_3_69 @ia_66)))))))))))))))))))))))))))))))))))))))))))))))))))))))))
theorem point_spec {w : World} (pl : List Nat) (a : Option Addr) (c : Nat) (to : Int) (h : RowAt w a (nums pl)) (h0 : 0 ≤ to) (h1 : to ≤ pl.length) (hl : pl.length ≤ 1000000) (hb : ∀ p ∈ pl, p ≤ 1000000) : Gives Try.prog n_loamref17_point #[.slice a pl.length c, i64 to] w (u64 (ptW pl to)) := by
  refine loamref17_point_of ?_
  unfold loamref17_point
  by_cases hz : to = 0
  · subst hz
    simp (disch := (first | omega | decide | (simp only [World.size_alloc, World.size_setCell, World.size_drew, size_sets, List.mem_cons, List.not_mem_nil, or_false, not_false_eq_true] <;> omega) | fail)) only [↓rsGrp4_4, rsGrp4_1, Option.isNone_some, Option.isNone_none, tick_eq, tickV_eq, ne_eq, Int.reduceAdd, Int.reduceSub, Int.reduceMul, Int.reduceEq, Int.reduceLT, Int.reduceLE, Int.reduceToNat, Nat.reduceMul, Nat.reduceAdd, Nat.reduceSub, List.nil_append, List.cons_append, List.getElem?_toArray, List.getElem?_cons_zero, List.getElem?_cons_succ, List.setIfInBounds_toArray, List.set_cons_zero, List.set_cons_succ, Option.map_some, List.not_mem_nil, ←decide_not, eq_self]
    exact ⟨by rfl, Ext.refl _ _⟩
  · have hi : to.toNat - 1 < pl.length := by omega
    obtain ⟨b1, o1, rfl, z1, k1⟩ := h.at (i := to.toNat - 1) (by simpa using hi)
    simp only [List.getElem_map] at k1
    have t1 : (to - 1).toNat = to.toNat - 1 := by omega
    have hbd := hb _ (List.getElem_mem hi)
    have e1 : ptW pl to = BitVec.ofNat 64 (pl[to.toNat - 1] + 1) := by
      unfold ptW
      rw [if_neg hz, List.getD_eq_getElem?_getD, List.getElem?_eq_getElem hi]
      rfl
    have e2 : BitVec.ofInt 64 ((pl[to.toNat - 1] : Int) + 1) = BitVec.ofNat 64 (pl[to.toNat - 1] + 1) := by
      rw [show (pl[to.toNat - 1] : Int) + 1 = ((pl[to.toNat - 1] + 1 : Nat) : Int) by omega, BitVec.ofInt_natCast]
    rw [e1]
    simp (disch := (first | omega | decide | (simp only [World.size_alloc, World.size_setCell, World.size_drew, size_sets, List.mem_cons, List.not_mem_nil, or_false, not_false_eq_true] <;> omega) | fail)) only [↓rsGrp4_4, rsGrp4_1, Option.isNone_some, Option.isNone_none, tick_eq, tickV_eq, ne_eq, Int.reduceAdd, Int.reduceSub, Int.reduceMul, Int.reduceEq, Int.reduceLT, Int.reduceLE, Int.reduceToNat, Nat.reduceMul, Nat.reduceAdd, Nat.reduceSub, List.nil_append, List.cons_append, List.getElem?_toArray, List.getElem?_cons_zero, List.getElem?_cons_succ, List.setIfInBounds_toArray, List.set_cons_zero, List.set_cons_succ, Option.map_some, List.not_mem_nil, ←decide_not, t1, k1, e2]
    exact ⟨by trivial, Ext.refl _ _⟩
end Go.Proofs.Ytdpmidgeipibbaa
end
