/- Rows of bytes of one's own (sq). Fields of words, in plain Lean: what is taken and put, as numbers. Headers of objects, in plain Lean: which may be, their words, and back. Signs, fields, turns, in plain Lean. Numbers in bytes, in plain Lean. What the functions on bits compute. What the functions on headers compute. What a word is as a header, walked. The small example of the statements on bits; and the statements on numbers alone, walked. What the reference's functions on bytes compute. Words and their bytes, in plain Lean. What the functions on words compute. Rows of words of one's own (sq). Objects one behind the other: what places are (sq). Graphs that come in (sq). Which nodes come from others. A graph as the document's (sq). What the functions on spaces compute (sq). Walking over a space, emptying it, its twin (sq). The document's spaces, walked (sq). What the document says of a graph: whether it may be, how many words it takes (sq). Words moved; the small example of the statements on words. Words moved, whichever way they lie on each other: the walk. Any calls on words, walked (sq). Names: a text as 32 bytes, and back (sq). Whether a graph may be: by the program and by the document, and why not (sq). A graph's words, counted; bytes as words; places (sq). -/
import Derived.Test.YtdpmidgeipibbaaRules
import Derived.Test.YtdpmidgeipibbaaEng14
import Derived.Test.YtdpmidgeipibbaaEng11
import Derived.Test.YtdpmidgeipibbaaEng16
import Derived.Test.YtdpmidgeipibbaaEng17
import Derived.Lib.Strings
import Derived.Lib.Bytealg
section
set_option linter.unusedVariables false
set_option linter.unusedSimpArgs false
set_option maxHeartbeats 4000000
namespace Go.Proofs.Ytdpmidgeipibbaa
open Go.Sh Go.RowKit

abbrev NewB (w w' : World) (u : Value) (l : List (BitVec 8)) : Prop := NewR 5 1 w w' u l.length (bys l)
theorem NewR.toB {w w' : World} {u : Value} {l : List (BitVec 8)} (h : NewB w w' u l) : ∃ a c, u = .slice a l.length c ∧ l.length ≤ c ∧ (a = none → c = 0) ∧ RowAt w' a (bys l) ∧ ∀ x, a = some x → w.heap.size ≤ x.block ∧ x.block < w'.heap.size := by
  obtain ⟨h1, h2, h3⟩ := h
  have hlt := h2.lt
  obtain ⟨a, c, rfl, hc, _, hn, hr, _⟩ := h2.slice
  refine ⟨a, c, rfl, hc, hn, hr, fun x hx => ?_⟩
  subst hx
  exact ⟨h3 x.block (by simp [blk, Value.ownBlock]), hlt x.block (by simp [blk, Value.ownBlock])⟩
end Go.Proofs.Ytdpmidgeipibbaa
end
section
set_option linter.unusedVariables false
set_option linter.unusedSimpArgs false
set_option maxHeartbeats 4000000
namespace Go.Proofs.Ytdpmidgeipibbaa
open Go.Sh Go.RowKit

abbrev i64 (n : Int) : Value := .int .i64 n
def ones (n : Nat) : BitVec 64 := BitVec.allOnes 64 >>> (64 - n)
theorem ones_nat {n : Nat} (hn : n ≤ 64) : (ones n).toNat = 2 ^ n - 1 := by
  unfold ones
  rw [BitVec.toNat_ushiftRight, BitVec.toNat_allOnes, Nat.shiftRight_eq_div_pow]
  have h : 2 ^ 64 = 2 ^ n * 2 ^ (64 - n) := by rw [← Nat.pow_add]; congr 1; omega
  have hp : 0 < 2 ^ (64 - n) := Nat.pow_pos (by decide)
  have hq : 0 < 2 ^ n := Nat.pow_pos (by decide)
  rw [h]
  have e : 2 ^ n * 2 ^ (64 - n) - 1 = (2 ^ n - 1) * 2 ^ (64 - n) + (2 ^ (64 - n) - 1) := by
    obtain ⟨k, hk⟩ := Nat.exists_eq_add_of_lt hq
    obtain ⟨j, hj⟩ := Nat.exists_eq_add_of_lt hp
    rw [hk, hj]; simp only [Nat.zero_add, Nat.add_sub_cancel, Nat.add_mul, Nat.one_mul]; omega
  rw [e, Nat.add_comm, Nat.add_mul_div_right _ _ hp, Nat.div_eq_of_lt (by omega)]
  simp
/-- n ones from a bit on -/
def maskB (a n : Int) : BitVec 64 := (BitVec.ofNat 64 18446744073709551615 >>> (64 - n).toNat) <<< a.toNat
def maskOk (a n : Int) : Prop := 0 ≤ a ∧ a < 64 ∧ 1 ≤ n ∧ n ≤ 64 - a
instance (a n : Int) : Decidable (maskOk a n) := by unfold maskOk; infer_instance
def fieldB (x : BitVec 64) (a n : Int) : BitVec 64 := if maskOk a n then (x &&& maskB a n) >>> a.toNat else 0
def withB (x : BitVec 64) (a n : Int) (v : BitVec 64) : BitVec 64 := if maskOk a n then (x &&& ~~~maskB a n) ||| (v <<< a.toNat &&& maskB a n) else x
theorem maskB_eq (a n : Int) : maskB a n = ones n.toNat <<< a.toNat := by
  unfold maskB ones
  rw [show BitVec.ofNat 64 18446744073709551615 = BitVec.allOnes 64 by decide]
  by_cases h : 0 ≤ n
  · congr 2; omega
  · have e1 : (BitVec.allOnes 64) >>> (64 - n).toNat = 0#64 := by
      rw [BitVec.ushiftRight_eq_zero (by omega)]
    have e2 : (BitVec.allOnes 64) >>> (64 - n.toNat) = 0#64 := by
      rw [BitVec.ushiftRight_eq_zero (by omega)]
    rw [e1, e2]
theorem field_form (x : BitVec 64) {a n : Nat} (h : a + n ≤ 64) : (x &&& (ones n <<< a)) >>> a = (x >>> a) &&& ones n := by
  apply BitVec.eq_of_getLsbD_eq
  intro i hi
  simp only [BitVec.getLsbD_ushiftRight, BitVec.getLsbD_and, BitVec.getLsbD_shiftLeft]
  by_cases h1 : a + i < 64
  · have h2 : ¬ a + i < a := by omega
    simp [h1, h2]
  · have : x.getLsbD (a + i) = false := BitVec.getLsbD_of_ge _ _ (by omega)
    simp [this]
theorem and_ones_nat (x : BitVec 64) {n : Nat} (h : n ≤ 64) : (x &&& ones n).toNat = x.toNat % 2 ^ n := by
  rw [BitVec.toNat_and, ones_nat h, Nat.and_two_pow_sub_one_eq_mod]
theorem field_nat (x : BitVec 64) {a n : Nat} (h0 : 1 ≤ n) (h : a + n ≤ 64) : (fieldB x a n).toNat = x.toNat / 2 ^ a % 2 ^ n := by
  have hm : maskOk a n := ⟨by omega, by omega, by omega, by omega⟩
  unfold fieldB
  rw [if_pos hm, maskB_eq, Int.toNat_natCast, Int.toNat_natCast, field_form x h, and_ones_nat _ (by omega), BitVec.toNat_ushiftRight, Nat.shiftRight_eq_div_pow]
theorem put_form (v : BitVec 64) {a n : Nat} (h : a + n ≤ 64) : (v <<< a) &&& (ones n <<< a) = (v &&& ones n) <<< a := by
  apply BitVec.eq_of_getLsbD_eq
  intro i hi
  simp only [BitVec.getLsbD_and, BitVec.getLsbD_shiftLeft]
  cases decide (i < 64) <;> cases decide (i < a) <;> simp
theorem shl_nat (v : BitVec 64) {a n : Nat} (h : a + n ≤ 64) : ((v &&& ones n) <<< a).toNat = v.toNat % 2 ^ n * 2 ^ a := by
  rw [BitVec.toNat_shiftLeft, and_ones_nat v (by omega), Nat.shiftLeft_eq, Nat.mod_eq_of_lt]
  have h1 : v.toNat % 2 ^ n < 2 ^ n := Nat.mod_lt _ (Nat.pow_pos (by decide))
  calc v.toNat % 2 ^ n * 2 ^ a < 2 ^ n * 2 ^ a := (Nat.mul_lt_mul_right (Nat.pow_pos (by decide))).2 h1
    _ = 2 ^ (a + n) := by rw [← Nat.pow_add, Nat.add_comm]
    _ ≤ 2 ^ 64 := Nat.pow_le_pow_right (by decide) h
theorem at_form (x : BitVec 64) {a n : Nat} (h : a + n ≤ 64) : x &&& (ones n <<< a) = ((x >>> a) &&& ones n) <<< a := by
  apply BitVec.eq_of_getLsbD_eq
  intro i hi
  simp only [BitVec.getLsbD_and, BitVec.getLsbD_shiftLeft, BitVec.getLsbD_ushiftRight]
  by_cases h1 : i < a
  · simp [h1]
  · rw [show a + (i - a) = i by omega]; simp [h1, hi]
theorem or_nat {x y : BitVec 64} (h : x &&& y = 0#64) : (x ||| y).toNat = x.toNat + y.toNat := by
  rw [← BitVec.add_eq_or_of_and_eq_zero x y h, BitVec.toNat_add_of_and_eq_zero h]
theorem split_nat (x m : BitVec 64) : (x &&& ~~~m).toNat + (x &&& m).toNat = x.toNat := by
  have hd : (x &&& ~~~m) &&& (x &&& m) = 0#64 := by
    apply BitVec.eq_of_getLsbD_eq
    intro i hi
    simp only [BitVec.getLsbD_and, BitVec.getLsbD_not, BitVec.getLsbD_zero]
    cases x.getLsbD i <;> cases m.getLsbD i <;> simp
  have ho : (x &&& ~~~m) ||| (x &&& m) = x := by
    apply BitVec.eq_of_getLsbD_eq
    intro i hi
    simp only [BitVec.getLsbD_and, BitVec.getLsbD_not, BitVec.getLsbD_or]
    cases x.getLsbD i <;> cases m.getLsbD i <;> simp [hi]
  have := or_nat hd
  rw [ho] at this
  exact this.symm
theorem with_nat (x v : BitVec 64) {a n : Nat} (h0 : 1 ≤ n) (h : a + n ≤ 64) : (withB x a n v).toNat + x.toNat / 2 ^ a % 2 ^ n * 2 ^ a = x.toNat + v.toNat % 2 ^ n * 2 ^ a := by
  have hm : maskOk a n := ⟨by omega, by omega, by omega, by omega⟩
  unfold withB
  rw [if_pos hm, maskB_eq, Int.toNat_natCast, Int.toNat_natCast]
  have hd : (x &&& ~~~(ones n <<< a)) &&& (v <<< a &&& ones n <<< a) = 0#64 := by
    apply BitVec.eq_of_getLsbD_eq
    intro i hi
    simp only [BitVec.getLsbD_and, BitVec.getLsbD_not, BitVec.getLsbD_zero]
    cases (ones n <<< a).getLsbD i <;> simp
  rw [or_nat hd, put_form v h, shl_nat v h]
  have h1 := split_nat x (ones n <<< a)
  rw [at_form x h, shl_nat _ h, BitVec.toNat_ushiftRight, Nat.shiftRight_eq_div_pow] at h1
  omega
end Go.Proofs.Ytdpmidgeipibbaa
end
section
set_option linter.unusedVariables false
set_option linter.unusedSimpArgs false
set_option maxHeartbeats 4000000
namespace Go.Proofs.Ytdpmidgeipibbaa
open Go.Sh Go.RowKit

abbrev hd (p b : Int) (m : Bool) (t : Int) : Value := .agg #[i64 p, i64 b, .bool m, i64 t]
def rightP (p b : Int) (m : Bool) (t : Int) : Prop := (m = true ∧ p = 0 ∧ b = 0 ∧ 0 ≤ t ∧ t < 8192) ∨ (m = false ∧ t = 0 ∧ 0 ≤ p ∧ p ≤ 64 ∧ 0 ≤ b ∧ b ≤ 1024)
instance (p b : Int) (m : Bool) (t : Int) : Decidable (rightP p b m t) := by unfold rightP; infer_instance
def rightV (p b : Int) (m : Bool) (t : Int) : Bool := decide (rightP p b m t)
theorem right_t {p b t : Int} : rightP p b true t ↔ p = 0 ∧ b = 0 ∧ 0 ≤ t ∧ t < 8192 := by simp [rightP]
theorem right_f {p b t : Int} : rightP p b false t ↔ t = 0 ∧ 0 ≤ p ∧ p ≤ 64 ∧ 0 ≤ b ∧ b ≤ 1024 := by simp [rightP]
def packI (p b : Int) (m : Bool) (t : Int) : Int := if m then 9223372036854775809 + t * 4294967296 else 9223372036854775808 + p * 2 + b * 65536
def packW (p b : Int) (m : Bool) (t : Int) : BitVec 64 := if rightP p b m t then BitVec.ofInt 64 (packI p b m t) else BitVec.ofNat 64 0
def packE (p b : Int) (m : Bool) (t : Int) : Int := if rightP p b m t then 0 else 1
theorem ofInt_nat {n : Int} (h0 : 0 ≤ n) (h1 : n < 18446744073709551616) : ((BitVec.ofInt 64 n).toNat : Int) = n := by
  rw [BitVec.toNat_ofInt]; omega
theorem pack_with_m {t : Int} (h : 0 ≤ t ∧ t < 8192) : withB (BitVec.ofNat 64 9223372036854775808 ||| BitVec.ofNat 64 1) 32 16 (BitVec.ofInt 64 t) = BitVec.ofInt 64 (9223372036854775809 + t * 4294967296) := by
  have h1 : (withB _ 32 16 (BitVec.ofInt 64 t)).toNat + _ = _ := with_nat (BitVec.ofNat 64 9223372036854775808 ||| BitVec.ofNat 64 1) (BitVec.ofInt 64 t) (a := 32) (n := 16) (by decide) (by decide)
  have h2 := ofInt_nat (n := t) (by omega) (by omega)
  have h3 := ofInt_nat (n := 9223372036854775809 + t * 4294967296) (by omega) (by omega)
  have h4 : (BitVec.ofNat 64 9223372036854775808 ||| BitVec.ofNat 64 1).toNat = 9223372036854775809 := by decide
  rw [h4] at h1
  apply BitVec.eq_of_toNat_eq
  omega
theorem pack_with_n {p b : Int} (h : 0 ≤ p ∧ p ≤ 64) (h' : 0 ≤ b ∧ b ≤ 1024) : withB (withB (BitVec.ofNat 64 9223372036854775808) 1 8 (BitVec.ofInt 64 p)) 16 12 (BitVec.ofInt 64 b) = BitVec.ofInt 64 (9223372036854775808 + p * 2 + b * 65536) := by
  have h1 : (withB _ 1 8 (BitVec.ofInt 64 p)).toNat + _ = _ := with_nat (BitVec.ofNat 64 9223372036854775808) (BitVec.ofInt 64 p) (a := 1) (n := 8) (by decide) (by decide)
  have h2 : (withB _ 16 12 (BitVec.ofInt 64 b)).toNat + _ = _ := with_nat (withB (BitVec.ofNat 64 9223372036854775808) 1 8 (BitVec.ofInt 64 p)) (BitVec.ofInt 64 b) (a := 16) (n := 12) (by decide) (by decide)
  have h3 := ofInt_nat (n := p) (by omega) (by omega)
  have h4 := ofInt_nat (n := b) (by omega) (by omega)
  have h5 := ofInt_nat (n := 9223372036854775808 + p * 2 + b * 65536) (by omega) (by omega)
  have h6 : (BitVec.ofNat 64 9223372036854775808).toNat = 9223372036854775808 := by decide
  rw [h6] at h1
  apply BitVec.eq_of_toNat_eq
  omega
/-! a word as a header -/
def uM (x : BitVec 64) : Bool := decide (x.toNat % 2 = 1)
def uP (x : BitVec 64) : Int := if uM x then 0 else (x.toNat / 2 % 256 : Nat)
def uB (x : BitVec 64) : Int := if uM x then 0 else (x.toNat / 65536 % 4096 : Nat)
def uT (x : BitVec 64) : Int := if uM x then (x.toNat / 4294967296 % 65536 : Nat) else 0
def isHead (x : BitVec 64) : Prop := rightP (uP x) (uB x) (uM x) (uT x) ∧ packW (uP x) (uB x) (uM x) (uT x) = x
instance (x : BitVec 64) : Decidable (isHead x) := by unfold isHead; infer_instance
def vP (x : BitVec 64) : Int := if isHead x then uP x else 0
def vB (x : BitVec 64) : Int := if isHead x then uB x else 0
def vM (x : BitVec 64) : Bool := if isHead x then uM x else false
def vT (x : BitVec 64) : Int := if isHead x then uT x else 0
def unErr (x : BitVec 64) : Int := if isHead x then 0 else 2
theorem low_one (x : BitVec 64) : (x &&& BitVec.ofNat 64 1 = BitVec.ofNat 64 1) ↔ uM x = true := by
  unfold uM
  rw [← BitVec.toNat_inj, BitVec.toNat_and, show (BitVec.ofNat 64 1).toNat = 2 ^ 1 - 1 by decide, Nat.and_two_pow_sub_one_eq_mod]
  simp
theorem small_int {x : BitVec 64} (h : x.toNat < 1000000) : x.toInt = (x.toNat : Int) := BitVec.toInt_eq_toNat_of_lt (by omega)
theorem field_1 (x : BitVec 64) : (fieldB x 1 8).toInt = (x.toNat / 2 % 256 : Nat) := by
  have h : (fieldB x 1 8).toNat = _ := field_nat x (a := 1) (n := 8) (by decide) (by decide)
  rw [small_int (by omega), h]
theorem field_16 (x : BitVec 64) : (fieldB x 16 12).toInt = (x.toNat / 65536 % 4096 : Nat) := by
  have h : (fieldB x 16 12).toNat = _ := field_nat x (a := 16) (n := 12) (by decide) (by decide)
  rw [small_int (by omega), h]
theorem field_32 (x : BitVec 64) : (fieldB x 32 16).toInt = (x.toNat / 4294967296 % 65536 : Nat) := by
  have h : (fieldB x 32 16).toNat = _ := field_nat x (a := 32) (n := 16) (by decide) (by decide)
  rw [small_int (by omega), h]
theorem packI_in {p b t : Int} {m : Bool} (h : rightP p b m t) : 0 ≤ packI p b m t ∧ packI p b m t < 18446744073709551616 := by
  unfold packI
  cases m
  · rw [right_f] at h; simp; omega
  · rw [right_t] at h; simp; omega
theorem packW_nat {p b t : Int} {m : Bool} (h : rightP p b m t) : ((packW p b m t).toNat : Int) = packI p b m t := by
  unfold packW
  rw [if_pos h, ofInt_nat (packI_in h).1 (packI_in h).2]
theorem un_pack {p b t : Int} {m : Bool} (h : rightP p b m t) : uP (packW p b m t) = p ∧ uB (packW p b m t) = b ∧ uM (packW p b m t) = m ∧ uT (packW p b m t) = t := by
  have hn := packW_nat h
  unfold packI at hn
  cases m
  · rw [right_f] at h
    simp only [Bool.false_eq_true, if_false] at hn
    have hm : uM (packW p b false t) = false := by unfold uM; rw [decide_eq_false]; omega
    refine ⟨?_, ?_, hm, ?_⟩
    · unfold uP; rw [hm]; simp; omega
    · unfold uB; rw [hm]; simp; omega
    · unfold uT; rw [hm]; simp; omega
  · rw [right_t] at h
    simp only [if_true] at hn
    have hm : uM (packW p b true t) = true := by unfold uM; rw [decide_eq_true]; omega
    refine ⟨?_, ?_, hm, ?_⟩
    · unfold uP; rw [hm]; simp; omega
    · unfold uB; rw [hm]; simp; omega
    · unfold uT; rw [hm]; simp; omega
theorem un_pack_is {p b t : Int} {m : Bool} (h : rightP p b m t) : isHead (packW p b m t) := by
  obtain ⟨h1, h2, h3, h4⟩ := un_pack h
  unfold isHead
  rw [h1, h2, h3, h4]
  exact ⟨h, rfl⟩
end Go.Proofs.Ytdpmidgeipibbaa
end
section
set_option linter.unusedVariables false
set_option linter.unusedSimpArgs false
set_option maxHeartbeats 4000000
namespace Go.Proofs.Ytdpmidgeipibbaa
open Go.Sh Go.RowKit

/-! signs -/
/-! fields by their bits -/
/-! turns -/
end Go.Proofs.Ytdpmidgeipibbaa
end
section
set_option linter.unusedVariables false
set_option linter.unusedSimpArgs false
set_option maxHeartbeats 4000000
namespace Go.Proofs.Ytdpmidgeipibbaa
open Go.Sh Go.RowKit

def inside (at' n size : Int) : Prop := 1 ≤ n ∧ n ≤ 8 ∧ 0 ≤ at' ∧ n ≤ size ∧ at' ≤ size - n
instance (at' n size : Int) : Decidable (inside at' n size) := by unfold inside; infer_instance
end Go.Proofs.Ytdpmidgeipibbaa
end
section
set_option linter.unusedVariables false
set_option linter.unusedSimpArgs false
set_option maxHeartbeats 4000000
namespace Go.Proofs.Ytdpmidgeipibbaa
open Go.Sh Go.RowKit

abbrev rsBitsW_0 := (And.intro @xu8_sub (And.intro @xu8_shl (And.intro @xu8_shr (And.intro @xu8_lss (And.intro @xu8_gtr (And.intro @xu8_geq (And.intro @xu16_sub (And.intro @xu16_shl (And.intro @xu16_shr (And.intro @xu16_lss (And.intro @xu16_gtr (And.intro @xu16_geq (And.intro @xu32_sub (And.intro @xu32_shl (And.intro @xu32_shr (And.intro @xu32_lss 
  (And.intro @xu32_gtr (And.intro @xu32_geq (And.intro @xu64_sub (And.intro @xu64_shl (And.intro @xu64_shr (And.intro @xu64_lss (And.intro @xu64_gtr (And.intro @xu64_geq (And.intro @xi64_lss (And.intro @xi64_gtr (And.intro @xi64_geq (And.intro @xi64_shl @xi64_shr))))))))))))))))))))))))))))
theorem mask_spec (a n : Int) (w : World) : Gives Try.prog n_bits_mask #[i64 a, i64 n] w (.tuple #[.int .u64 ((if maskOk a n then maskB a n else BitVec.ofNat 64 0).toNat : Int), .bool (decide (maskOk a n))]) := by
  refine bits_mask_of ?_
  unfold bits_mask
  simp (disch := (first | omega | decide | (simp only [rsD] <;> omega) | fail)) only [↓rsC, rsK, rsL, ↓rsBitsW_0, tick_eq, tickV_eq, ne_eq, Int.reduceAdd, Int.reduceSub, Int.reduceMul, Int.reduceEq, Int.reduceLT, Int.reduceLE, Int.reduceToNat, Nat.reduceMul, Nat.reduceAdd, Nat.reduceSub, ←decide_not, eq_self]
  by_cases g1 : a < 0
  · have hv : ¬ maskOk a n := by unfold maskOk; omega
    simp (disch := (first | omega | decide | (simp only [rsD] <;> omega) | fail)) only [↓rsC, rsK, rsL, ↓rsBitsW_0, tick_eq, tickV_eq, ne_eq, Int.reduceAdd, Int.reduceSub, Int.reduceMul, Int.reduceEq, Int.reduceLT, Int.reduceLE, Int.reduceToNat, Nat.reduceMul, Nat.reduceAdd, Nat.reduceSub, ←decide_not, eq_self, g1, hv]
    exact ⟨by trivial, by (repeat (first | with_reducible exact Ext.refl _ _ | with_reducible assumption | with_reducible refine Ext.alloc' ?_ _ | with_reducible refine Ext.drew' ?_ | with_reducible refine Ext.set' ?_ ?_ | exact .inr (by first | omega | (simp only [World.size_alloc, World.size_drew, World.size_setCell] <;> omega)) | refine Ext.trans ?_ (by with_reducible assumption)))⟩
  by_cases g2 : 64 ≤ a
  · have hv : ¬ maskOk a n := by unfold maskOk; omega
    simp (disch := (first | omega | decide | (simp only [rsD] <;> omega) | fail)) only [↓rsC, rsK, rsL, ↓rsBitsW_0, tick_eq, tickV_eq, ne_eq, Int.reduceAdd, Int.reduceSub, Int.reduceMul, Int.reduceEq, Int.reduceLT, Int.reduceLE, Int.reduceToNat, Nat.reduceMul, Nat.reduceAdd, Nat.reduceSub, ←decide_not, g1, g2, hv]
    exact ⟨by trivial, by (repeat (first | with_reducible exact Ext.refl _ _ | with_reducible assumption | with_reducible refine Ext.alloc' ?_ _ | with_reducible refine Ext.drew' ?_ | with_reducible refine Ext.set' ?_ ?_ | exact .inr (by first | omega | (simp only [World.size_alloc, World.size_drew, World.size_setCell] <;> omega)) | refine Ext.trans ?_ (by with_reducible assumption)))⟩
  by_cases g3 : n < 1
  · have hv : ¬ maskOk a n := by unfold maskOk; omega
    simp (disch := (first | omega | decide | (simp only [rsD] <;> omega) | fail)) only [↓rsC, rsK, rsL, ↓rsBitsW_0, tick_eq, tickV_eq, ne_eq, Int.reduceAdd, Int.reduceSub, Int.reduceMul, Int.reduceEq, Int.reduceLT, Int.reduceLE, Int.reduceToNat, Nat.reduceMul, Nat.reduceAdd, Nat.reduceSub, ←decide_not, g1, g2, g3, hv]
    exact ⟨by trivial, by (repeat (first | with_reducible exact Ext.refl _ _ | with_reducible assumption | with_reducible refine Ext.alloc' ?_ _ | with_reducible refine Ext.drew' ?_ | with_reducible refine Ext.set' ?_ ?_ | exact .inr (by first | omega | (simp only [World.size_alloc, World.size_drew, World.size_setCell] <;> omega)) | refine Ext.trans ?_ (by with_reducible assumption)))⟩
  by_cases g4 : 64 - a < n
  · have hv : ¬ maskOk a n := by unfold maskOk; omega
    simp (disch := (first | omega | decide | (simp only [rsD] <;> omega) | fail)) only [↓rsC, rsK, rsL, ↓rsBitsW_0, tick_eq, tickV_eq, ne_eq, Int.reduceAdd, Int.reduceSub, Int.reduceMul, Int.reduceEq, Int.reduceLT, Int.reduceLE, Int.reduceToNat, Nat.reduceMul, Nat.reduceAdd, Nat.reduceSub, ←decide_not, g1, g2, g3, g4, hv]
    exact ⟨by trivial, by (repeat (first | with_reducible exact Ext.refl _ _ | with_reducible assumption | with_reducible refine Ext.alloc' ?_ _ | with_reducible refine Ext.drew' ?_ | with_reducible refine Ext.set' ?_ ?_ | exact .inr (by first | omega | (simp only [World.size_alloc, World.size_drew, World.size_setCell] <;> omega)) | refine Ext.trans ?_ (by with_reducible assumption)))⟩
  have hv : maskOk a n := by unfold maskOk; omega
  simp (disch := (first | omega | decide | (simp only [rsD] <;> omega) | fail)) only [↓rsC, rsK, rsL, ↓rsBitsW_0, tick_eq, tickV_eq, ne_eq, Int.reduceAdd, Int.reduceSub, Int.reduceMul, Int.reduceEq, Int.reduceLT, Int.reduceLE, Int.reduceToNat, Nat.reduceMul, Nat.reduceAdd, Nat.reduceSub, ←decide_not, g1, g2, g3, g4, hv, if_pos hv]
  exact ⟨by rfl, by (repeat (first | with_reducible exact Ext.refl _ _ | with_reducible assumption | with_reducible refine Ext.alloc' ?_ _ | with_reducible refine Ext.drew' ?_ | with_reducible refine Ext.set' ?_ ?_ | exact .inr (by first | omega | (simp only [World.size_alloc, World.size_drew, World.size_setCell] <;> omega)) | refine Ext.trans ?_ (by with_reducible assumption)))⟩
abbrev rsBitsW_1 := (And.intro @xu8_and (And.intro @xu8_com (And.intro @xu8_shr (And.intro @xu16_and (And.intro @xu16_com (And.intro @xu16_shr (And.intro @xu32_and (And.intro @xu32_com (And.intro @xu32_shr (And.intro @xu64_and (And.intro @xu64_com (And.intro @xu64_shr (And.intro @xi64_and @xi64_shr)))))))))))))
theorem Field_spec (x : BitVec 64) (a n : Int) (w : World) : Gives Try.prog n_bits_Field #[u64 x, i64 a, i64 n] w (u64 (fieldB x a n)) := by
  refine bits_Field_of ?_
  unfold bits_Field
  refine bits_mask_call (Gives.to (mask_spec _ _ _) fun w1 E1 => ?_)
  have z1 := E1.size
  try simp only [World.size_alloc, World.size_setCell, World.size_drew] at z1
  by_cases h : maskOk a n
  · have h0 : 0 ≤ a := h.1
    simp (disch := (first | omega | decide | (simp only [rsD] <;> omega) | fail)) only [↓rsC, rsK, rsL, ↓rsBitsW_1, tick_eq, tickV_eq, ne_eq, Int.reduceAdd, Int.reduceSub, Int.reduceMul, Int.reduceEq, Int.reduceLT, Int.reduceLE, Int.reduceToNat, Nat.reduceMul, Nat.reduceAdd, Nat.reduceSub, ←decide_not, if_pos h, decide_eq_true h]
    exact ⟨by simp only [fieldB, if_pos h], by (repeat (first | with_reducible exact Ext.refl _ _ | with_reducible assumption | with_reducible refine Ext.alloc' ?_ _ | with_reducible refine Ext.drew' ?_ | with_reducible refine Ext.set' ?_ ?_ | exact .inr (by first | omega | (simp only [World.size_alloc, World.size_drew, World.size_setCell] <;> omega)) | refine Ext.trans ?_ (by with_reducible assumption)))⟩
  · simp (disch := (first | omega | decide | (simp only [rsD] <;> omega) | fail)) only [↓rsC, rsK, rsL, ↓rsBitsW_1, tick_eq, tickV_eq, ne_eq, Int.reduceAdd, Int.reduceSub, Int.reduceMul, Int.reduceEq, Int.reduceLT, Int.reduceLE, Int.reduceToNat, Nat.reduceMul, Nat.reduceAdd, Nat.reduceSub, ←decide_not, if_neg h, decide_eq_false h]
    exact ⟨by simp only [fieldB, if_neg h]; rfl, by (repeat (first | with_reducible exact Ext.refl _ _ | with_reducible assumption | with_reducible refine Ext.alloc' ?_ _ | with_reducible refine Ext.drew' ?_ | with_reducible refine Ext.set' ?_ ?_ | exact .inr (by first | omega | (simp only [World.size_alloc, World.size_drew, World.size_setCell] <;> omega)) | refine Ext.trans ?_ (by with_reducible assumption)))⟩
abbrev rsBitsW_2 := (And.intro @xu8_and (And.intro @xu8_or (And.intro @xu8_andNot (And.intro @xu8_com (And.intro @xu8_shl (And.intro @xu16_and (And.intro @xu16_or (And.intro @xu16_andNot (And.intro @xu16_com (And.intro @xu16_shl (And.intro @xu32_and (And.intro @xu32_or (And.intro @xu32_andNot (And.intro @xu32_com (And.intro @xu32_shl 
  (And.intro @xu64_and (And.intro @xu64_or (And.intro @xu64_andNot (And.intro @xu64_com (And.intro @xu64_shl (And.intro @xi64_and (And.intro @xi64_or @xi64_shl))))))))))))))))))))))
theorem With_spec (x v : BitVec 64) (a n : Int) (w : World) : Gives Try.prog n_bits_With #[u64 x, i64 a, i64 n, u64 v] w (u64 (withB x a n v)) := by
  refine bits_With_of ?_
  unfold bits_With
  refine bits_mask_call (Gives.to (mask_spec _ _ _) fun w1 E1 => ?_)
  have z1 := E1.size
  try simp only [World.size_alloc, World.size_setCell, World.size_drew] at z1
  by_cases h : maskOk a n
  · have h0 : 0 ≤ a := h.1
    simp (disch := (first | omega | decide | (simp only [rsD] <;> omega) | fail)) only [↓rsC, rsK, rsL, ↓rsBitsW_2, tick_eq, tickV_eq, ne_eq, Int.reduceAdd, Int.reduceSub, Int.reduceMul, Int.reduceEq, Int.reduceLT, Int.reduceLE, Int.reduceToNat, Nat.reduceMul, Nat.reduceAdd, Nat.reduceSub, ←decide_not, if_pos h, decide_eq_true h]
    exact ⟨by simp only [withB, if_pos h], by (repeat (first | with_reducible exact Ext.refl _ _ | with_reducible assumption | with_reducible refine Ext.alloc' ?_ _ | with_reducible refine Ext.drew' ?_ | with_reducible refine Ext.set' ?_ ?_ | exact .inr (by first | omega | (simp only [World.size_alloc, World.size_drew, World.size_setCell] <;> omega)) | refine Ext.trans ?_ (by with_reducible assumption)))⟩
  · simp (disch := (first | omega | decide | (simp only [rsD] <;> omega) | fail)) only [↓rsC, rsK, rsL, ↓rsBitsW_2, tick_eq, tickV_eq, ne_eq, Int.reduceAdd, Int.reduceSub, Int.reduceMul, Int.reduceEq, Int.reduceLT, Int.reduceLE, Int.reduceToNat, Nat.reduceMul, Nat.reduceAdd, Nat.reduceSub, ←decide_not, if_neg h, decide_eq_false h]
    exact ⟨by simp only [withB, if_neg h], by (repeat (first | with_reducible exact Ext.refl _ _ | with_reducible assumption | with_reducible refine Ext.alloc' ?_ _ | with_reducible refine Ext.drew' ?_ | with_reducible refine Ext.set' ?_ ?_ | exact .inr (by first | omega | (simp only [World.size_alloc, World.size_drew, World.size_setCell] <;> omega)) | refine Ext.trans ?_ (by with_reducible assumption)))⟩
end Go.Proofs.Ytdpmidgeipibbaa
end
section
set_option linter.unusedVariables false
set_option linter.unusedSimpArgs false
set_option maxHeartbeats 4000000
namespace Go.Proofs.Ytdpmidgeipibbaa
open Go.Sh Go.RowKit

abbrev rsHead_0 := (And.intro @xu8_eql (And.intro @xu8_lss (And.intro @xu8_leq (And.intro @xu8_geq (And.intro @xu16_eql (And.intro @xu16_lss (And.intro @xu16_leq (And.intro @xu16_geq (And.intro @xu32_eql (And.intro @xu32_lss (And.intro @xu32_leq (And.intro @xu32_geq (And.intro @xu64_eql (And.intro @xu64_lss (And.intro @xu64_leq (And.intro @xu64_geq 
  (And.intro @xi64_lss (And.intro @xi64_leq (And.intro @xi64_geq (And.intro @xi64_eql (And.intro @ld_3 (And.intro @ld_4 (And.intro @fa_123_0 (And.intro @fa_123_1 (And.intro @fa_123_2 @fa_123_3)))))))))))))))))))))))))
theorem Right_spec (p b : Int) (m : Bool) (t : Int) (w : World) : Gives Try.prog n_head_Right #[hd p b m t] w (.bool (rightV p b m t)) := by
  refine head_Right_of ?_
  unfold head_Right
  simp (disch := (first | omega | decide | (simp only [rsD] <;> omega) | fail)) only [↓rsC, rsK, rsL, ↓rsHead_0, tick_eq, tickV_eq, ne_eq, Int.reduceAdd, Int.reduceSub, Int.reduceMul, Int.reduceEq, Int.reduceLT, Int.reduceLE, Int.reduceToNat, Nat.reduceMul, Nat.reduceAdd, Nat.reduceSub, ←decide_not, eq_self]
  cases m
  · simp (disch := (first | omega | decide | (simp only [rsD] <;> omega) | fail)) only [↓rsC, rsK, rsL, ↓rsHead_0, tick_eq, tickV_eq, ne_eq, Int.reduceAdd, Int.reduceSub, Int.reduceMul, Int.reduceEq, Int.reduceLT, Int.reduceLE, Int.reduceToNat, Nat.reduceMul, Nat.reduceAdd, Nat.reduceSub, ←decide_not, eq_self]
    by_cases g1 : ¬ t = 0
    · have hv : rightV p b false t = false := decide_eq_false (by rw [right_f]; omega)
      simp (disch := (first | omega | decide | (simp only [rsD] <;> omega) | fail)) only [↓rsC, rsK, rsL, ↓rsHead_0, tick_eq, tickV_eq, ne_eq, Int.reduceAdd, Int.reduceSub, Int.reduceMul, Int.reduceEq, Int.reduceLT, Int.reduceLE, Int.reduceToNat, Nat.reduceMul, Nat.reduceAdd, Nat.reduceSub, ←decide_not, eq_self, g1, hv]
      exact ⟨by trivial, by (repeat (first | with_reducible exact Ext.refl _ _ | with_reducible assumption | with_reducible refine Ext.alloc' ?_ _ | with_reducible refine Ext.drew' ?_ | with_reducible refine Ext.set' ?_ ?_ | exact .inr (by first | omega | (simp only [World.size_alloc, World.size_drew, World.size_setCell] <;> omega)) | refine Ext.trans ?_ (by with_reducible assumption)))⟩
    replace g1 := Decidable.not_not.1 g1
    by_cases g2 : ¬ 0 ≤ p
    · have hv : rightV p b false t = false := decide_eq_false (by rw [right_f]; omega)
      simp (disch := (first | omega | decide | (simp only [rsD] <;> omega) | fail)) only [↓rsC, rsK, rsL, ↓rsHead_0, tick_eq, tickV_eq, ne_eq, Int.reduceAdd, Int.reduceSub, Int.reduceMul, Int.reduceEq, Int.reduceLT, Int.reduceLE, Int.reduceToNat, Nat.reduceMul, Nat.reduceAdd, Nat.reduceSub, ←decide_not, eq_true g1, g2, hv]
      exact ⟨by trivial, by (repeat (first | with_reducible exact Ext.refl _ _ | with_reducible assumption | with_reducible refine Ext.alloc' ?_ _ | with_reducible refine Ext.drew' ?_ | with_reducible refine Ext.set' ?_ ?_ | exact .inr (by first | omega | (simp only [World.size_alloc, World.size_drew, World.size_setCell] <;> omega)) | refine Ext.trans ?_ (by with_reducible assumption)))⟩
    replace g2 := Decidable.not_not.1 g2
    by_cases g3 : ¬ p ≤ 64
    · have hv : rightV p b false t = false := decide_eq_false (by rw [right_f]; omega)
      simp (disch := (first | omega | decide | (simp only [rsD] <;> omega) | fail)) only [↓rsC, rsK, rsL, ↓rsHead_0, tick_eq, tickV_eq, ne_eq, Int.reduceAdd, Int.reduceSub, Int.reduceMul, Int.reduceEq, Int.reduceLT, Int.reduceLE, Int.reduceToNat, Nat.reduceMul, Nat.reduceAdd, Nat.reduceSub, ←decide_not, eq_true g1, eq_true g2, g3, hv]
      exact ⟨by trivial, by (repeat (first | with_reducible exact Ext.refl _ _ | with_reducible assumption | with_reducible refine Ext.alloc' ?_ _ | with_reducible refine Ext.drew' ?_ | with_reducible refine Ext.set' ?_ ?_ | exact .inr (by first | omega | (simp only [World.size_alloc, World.size_drew, World.size_setCell] <;> omega)) | refine Ext.trans ?_ (by with_reducible assumption)))⟩
    replace g3 := Decidable.not_not.1 g3
    by_cases g4 : ¬ 0 ≤ b
    · have hv : rightV p b false t = false := decide_eq_false (by rw [right_f]; omega)
      simp (disch := (first | omega | decide | (simp only [rsD] <;> omega) | fail)) only [↓rsC, rsK, rsL, ↓rsHead_0, tick_eq, tickV_eq, ne_eq, Int.reduceAdd, Int.reduceSub, Int.reduceMul, Int.reduceEq, Int.reduceLT, Int.reduceLE, Int.reduceToNat, Nat.reduceMul, Nat.reduceAdd, Nat.reduceSub, ←decide_not, eq_true g1, eq_true g2, eq_true g3, g4, hv]
      exact ⟨by trivial, by (repeat (first | with_reducible exact Ext.refl _ _ | with_reducible assumption | with_reducible refine Ext.alloc' ?_ _ | with_reducible refine Ext.drew' ?_ | with_reducible refine Ext.set' ?_ ?_ | exact .inr (by first | omega | (simp only [World.size_alloc, World.size_drew, World.size_setCell] <;> omega)) | refine Ext.trans ?_ (by with_reducible assumption)))⟩
    replace g4 := Decidable.not_not.1 g4
    by_cases g5 : ¬ b ≤ 1024
    · have hv : rightV p b false t = false := decide_eq_false (by rw [right_f]; omega)
      simp (disch := (first | omega | decide | (simp only [rsD] <;> omega) | fail)) only [↓rsC, rsK, rsL, ↓rsHead_0, tick_eq, tickV_eq, ne_eq, Int.reduceAdd, Int.reduceSub, Int.reduceMul, Int.reduceEq, Int.reduceLT, Int.reduceLE, Int.reduceToNat, Nat.reduceMul, Nat.reduceAdd, Nat.reduceSub, ←decide_not, eq_true g1, eq_true g2, eq_true g3, eq_true g4, g5, hv]
      exact ⟨by trivial, by (repeat (first | with_reducible exact Ext.refl _ _ | with_reducible assumption | with_reducible refine Ext.alloc' ?_ _ | with_reducible refine Ext.drew' ?_ | with_reducible refine Ext.set' ?_ ?_ | exact .inr (by first | omega | (simp only [World.size_alloc, World.size_drew, World.size_setCell] <;> omega)) | refine Ext.trans ?_ (by with_reducible assumption)))⟩
    replace g5 := Decidable.not_not.1 g5
    have hv : rightV p b false t = true := decide_eq_true (by rw [right_f]; omega)
    simp (disch := (first | omega | decide | (simp only [rsD] <;> omega) | fail)) only [↓rsC, rsK, rsL, ↓rsHead_0, tick_eq, tickV_eq, ne_eq, Int.reduceAdd, Int.reduceSub, Int.reduceMul, Int.reduceEq, Int.reduceLT, Int.reduceLE, Int.reduceToNat, Nat.reduceMul, Nat.reduceAdd, Nat.reduceSub, ←decide_not, eq_true g1, eq_true g2, eq_true g3, eq_true g4, eq_true g5, hv]
    exact ⟨by trivial, by (repeat (first | with_reducible exact Ext.refl _ _ | with_reducible assumption | with_reducible refine Ext.alloc' ?_ _ | with_reducible refine Ext.drew' ?_ | with_reducible refine Ext.set' ?_ ?_ | exact .inr (by first | omega | (simp only [World.size_alloc, World.size_drew, World.size_setCell] <;> omega)) | refine Ext.trans ?_ (by with_reducible assumption)))⟩
  · simp (disch := (first | omega | decide | (simp only [rsD] <;> omega) | fail)) only [↓rsC, rsK, rsL, ↓rsHead_0, tick_eq, tickV_eq, ne_eq, Int.reduceAdd, Int.reduceSub, Int.reduceMul, Int.reduceEq, Int.reduceLT, Int.reduceLE, Int.reduceToNat, Nat.reduceMul, Nat.reduceAdd, Nat.reduceSub, ←decide_not, eq_self]
    by_cases g1 : ¬ p = 0
    · have hv : rightV p b true t = false := decide_eq_false (by rw [right_t]; omega)
      simp (disch := (first | omega | decide | (simp only [rsD] <;> omega) | fail)) only [↓rsC, rsK, rsL, ↓rsHead_0, tick_eq, tickV_eq, ne_eq, Int.reduceAdd, Int.reduceSub, Int.reduceMul, Int.reduceEq, Int.reduceLT, Int.reduceLE, Int.reduceToNat, Nat.reduceMul, Nat.reduceAdd, Nat.reduceSub, ←decide_not, eq_self, g1, hv]
      exact ⟨by trivial, by (repeat (first | with_reducible exact Ext.refl _ _ | with_reducible assumption | with_reducible refine Ext.alloc' ?_ _ | with_reducible refine Ext.drew' ?_ | with_reducible refine Ext.set' ?_ ?_ | exact .inr (by first | omega | (simp only [World.size_alloc, World.size_drew, World.size_setCell] <;> omega)) | refine Ext.trans ?_ (by with_reducible assumption)))⟩
    replace g1 := Decidable.not_not.1 g1
    by_cases g2 : ¬ b = 0
    · have hv : rightV p b true t = false := decide_eq_false (by rw [right_t]; omega)
      simp (disch := (first | omega | decide | (simp only [rsD] <;> omega) | fail)) only [↓rsC, rsK, rsL, ↓rsHead_0, tick_eq, tickV_eq, ne_eq, Int.reduceAdd, Int.reduceSub, Int.reduceMul, Int.reduceEq, Int.reduceLT, Int.reduceLE, Int.reduceToNat, Nat.reduceMul, Nat.reduceAdd, Nat.reduceSub, ←decide_not, eq_true g1, g2, hv]
      exact ⟨by trivial, by (repeat (first | with_reducible exact Ext.refl _ _ | with_reducible assumption | with_reducible refine Ext.alloc' ?_ _ | with_reducible refine Ext.drew' ?_ | with_reducible refine Ext.set' ?_ ?_ | exact .inr (by first | omega | (simp only [World.size_alloc, World.size_drew, World.size_setCell] <;> omega)) | refine Ext.trans ?_ (by with_reducible assumption)))⟩
    replace g2 := Decidable.not_not.1 g2
    by_cases g3 : ¬ 0 ≤ t
    · have hv : rightV p b true t = false := decide_eq_false (by rw [right_t]; omega)
      simp (disch := (first | omega | decide | (simp only [rsD] <;> omega) | fail)) only [↓rsC, rsK, rsL, ↓rsHead_0, tick_eq, tickV_eq, ne_eq, Int.reduceAdd, Int.reduceSub, Int.reduceMul, Int.reduceEq, Int.reduceLT, Int.reduceLE, Int.reduceToNat, Nat.reduceMul, Nat.reduceAdd, Nat.reduceSub, ←decide_not, eq_true g1, eq_true g2, g3, hv]
      exact ⟨by trivial, by (repeat (first | with_reducible exact Ext.refl _ _ | with_reducible assumption | with_reducible refine Ext.alloc' ?_ _ | with_reducible refine Ext.drew' ?_ | with_reducible refine Ext.set' ?_ ?_ | exact .inr (by first | omega | (simp only [World.size_alloc, World.size_drew, World.size_setCell] <;> omega)) | refine Ext.trans ?_ (by with_reducible assumption)))⟩
    replace g3 := Decidable.not_not.1 g3
    by_cases g4 : ¬ t < 8192
    · have hv : rightV p b true t = false := decide_eq_false (by rw [right_t]; omega)
      simp (disch := (first | omega | decide | (simp only [rsD] <;> omega) | fail)) only [↓rsC, rsK, rsL, ↓rsHead_0, tick_eq, tickV_eq, ne_eq, Int.reduceAdd, Int.reduceSub, Int.reduceMul, Int.reduceEq, Int.reduceLT, Int.reduceLE, Int.reduceToNat, Nat.reduceMul, Nat.reduceAdd, Nat.reduceSub, ←decide_not, eq_true g1, eq_true g2, eq_true g3, g4, hv]
      exact ⟨by trivial, by (repeat (first | with_reducible exact Ext.refl _ _ | with_reducible assumption | with_reducible refine Ext.alloc' ?_ _ | with_reducible refine Ext.drew' ?_ | with_reducible refine Ext.set' ?_ ?_ | exact .inr (by first | omega | (simp only [World.size_alloc, World.size_drew, World.size_setCell] <;> omega)) | refine Ext.trans ?_ (by with_reducible assumption)))⟩
    replace g4 := Decidable.not_not.1 g4
    have hv : rightV p b true t = true := decide_eq_true (by rw [right_t]; omega)
    simp (disch := (first | omega | decide | (simp only [rsD] <;> omega) | fail)) only [↓rsC, rsK, rsL, ↓rsHead_0, tick_eq, tickV_eq, ne_eq, Int.reduceAdd, Int.reduceSub, Int.reduceMul, Int.reduceEq, Int.reduceLT, Int.reduceLE, Int.reduceToNat, Nat.reduceMul, Nat.reduceAdd, Nat.reduceSub, ←decide_not, eq_true g1, eq_true g2, eq_true g3, eq_true g4, hv]
    exact ⟨by trivial, by (repeat (first | with_reducible exact Ext.refl _ _ | with_reducible assumption | with_reducible refine Ext.alloc' ?_ _ | with_reducible refine Ext.drew' ?_ | with_reducible refine Ext.set' ?_ ?_ | exact .inr (by first | omega | (simp only [World.size_alloc, World.size_drew, World.size_setCell] <;> omega)) | refine Ext.trans ?_ (by with_reducible assumption)))⟩
abbrev rsHead_2 := (And.intro @xu8_or (And.intro @xu8_com (And.intro @xu16_or (And.intro @xu16_com (And.intro @xu32_or (And.intro @xu32_com (And.intro @xu64_or (And.intro @xu64_com (And.intro @xi64_or (And.intro @ld_3 (And.intro @ld_4 (And.intro @ld_123 (And.intro @fa_123_0 (And.intro @fa_123_1 (And.intro @fa_123_2 (And.intro @fa_123_3 @cv_3_69))))))))))))))))
theorem Pack_spec (p b : Int) (m : Bool) (t : Int) (w : World) : Gives Try.prog n_head_Pack #[hd p b m t] w (.tuple #[u64 (packW p b m t), i64 (packE p b m t)]) := by
  refine head_Pack_of ?_
  unfold head_Pack
  simp (disch := (first | omega | decide | (simp only [rsD] <;> omega) | fail)) only [↓rsC, rsK, rsL, ↓rsHead_2, tick_eq, tickV_eq, ne_eq, Int.reduceAdd, Int.reduceSub, Int.reduceMul, Int.reduceEq, Int.reduceLT, Int.reduceLE, Int.reduceToNat, Nat.reduceMul, Nat.reduceAdd, Nat.reduceSub, ←decide_not, eq_self]
  refine head_Right_call (Gives.to (Right_spec _ _ _ _ _) fun w1 E1 => ?_)
  have z1 := E1.size
  try simp only [World.size_alloc, World.size_setCell, World.size_drew] at z1
  have e1_0 : ∀ o, w1.cell? ⟨w.heap.size, o, none⟩ = _ := fun o => E1.cell_o (by first | omega | (simp only [World.size_alloc, World.size_setCell, World.size_drew, size_sets] <;> omega))
  by_cases h : rightP p b m t
  rotate_left
  · have h1 : rightV p b m t = false := decide_eq_false h
    simp (disch := (first | omega | decide | (simp only [rsD] <;> omega) | fail)) only [↓rsC, rsK, rsL, ↓rsHead_2, tick_eq, tickV_eq, ne_eq, Int.reduceAdd, Int.reduceSub, Int.reduceMul, Int.reduceEq, Int.reduceLT, Int.reduceLE, Int.reduceToNat, Nat.reduceMul, Nat.reduceAdd, Nat.reduceSub, ←decide_not, e1_0, h1]
    exact ⟨by simp only [packW, packE, if_neg h], by (repeat (first | with_reducible exact Ext.refl _ _ | with_reducible assumption | with_reducible refine Ext.alloc' ?_ _ | with_reducible refine Ext.drew' ?_ | with_reducible refine Ext.set' ?_ ?_ | exact .inr (by first | omega | (simp only [World.size_alloc, World.size_drew, World.size_setCell] <;> omega)) | refine Ext.trans ?_ (by with_reducible assumption)))⟩
  have h1 : rightV p b m t = true := decide_eq_true h
  cases m
  · simp (disch := (first | omega | decide | (simp only [rsD] <;> omega) | fail)) only [↓rsC, rsK, rsL, ↓rsHead_2, tick_eq, tickV_eq, ne_eq, Int.reduceAdd, Int.reduceSub, Int.reduceMul, Int.reduceEq, Int.reduceLT, Int.reduceLE, Int.reduceToNat, Nat.reduceMul, Nat.reduceAdd, Nat.reduceSub, ←decide_not, e1_0, h1]
    refine xDraw_ext [] [] ?_
    simp (disch := (first | omega | decide | (simp only [rsD] <;> omega) | fail)) only [↓rsC, rsK, rsL, ↓rsHead_2, tick_eq, tickV_eq, ne_eq, Int.reduceAdd, Int.reduceSub, Int.reduceMul, Int.reduceEq, Int.reduceLT, Int.reduceLE, Int.reduceToNat, Nat.reduceMul, Nat.reduceAdd, Nat.reduceSub, ←decide_not, e1_0, h1]
    apply xDet_x
    · exact fun w hw => bits_With_call (Gives.lq (With_spec _ _ _ _ _))
    simp (disch := (first | omega | decide | (simp only [rsD] <;> omega) | fail)) only [↓rsC, rsK, rsL, ↓rsHead_2, tick_eq, tickV_eq, ne_eq, Int.reduceAdd, Int.reduceSub, Int.reduceMul, Int.reduceEq, Int.reduceLT, Int.reduceLE, Int.reduceToNat, Nat.reduceMul, Nat.reduceAdd, Nat.reduceSub, ←decide_not, e1_0, h1]
    apply xDet_x
    · exact fun w hw => bits_With_call (Gives.lq (With_spec _ _ _ _ _))
    simp (disch := (first | omega | decide | (simp only [rsD] <;> omega) | fail)) only [↓rsC, rsK, rsL, ↓rsHead_2, tick_eq, tickV_eq, ne_eq, Int.reduceAdd, Int.reduceSub, Int.reduceMul, Int.reduceEq, Int.reduceLT, Int.reduceLE, Int.reduceToNat, Nat.reduceMul, Nat.reduceAdd, Nat.reduceSub, ←decide_not, e1_0, h1]
    refine xEnd_i fun w9 hw => ⟨?_, Ext.trans ?_ hw.ext⟩
    · have hr := right_f.1 h
      rw [pack_with_n (by omega) (by omega)]
      simp only [packW, packE, packI, if_pos h, Bool.false_eq_true, if_false]
    · (repeat (first | with_reducible exact Ext.refl _ _ | with_reducible assumption | with_reducible refine Ext.alloc' ?_ _ | with_reducible refine Ext.drew' ?_ | with_reducible refine Ext.set' ?_ ?_ | exact .inr (by first | omega | (simp only [World.size_alloc, World.size_drew, World.size_setCell] <;> omega)) | refine Ext.trans ?_ (by with_reducible assumption)))
  · simp (disch := (first | omega | decide | (simp only [rsD] <;> omega) | fail)) only [↓rsC, rsK, rsL, ↓rsHead_2, tick_eq, tickV_eq, ne_eq, Int.reduceAdd, Int.reduceSub, Int.reduceMul, Int.reduceEq, Int.reduceLT, Int.reduceLE, Int.reduceToNat, Nat.reduceMul, Nat.reduceAdd, Nat.reduceSub, ←decide_not, e1_0, h1]
    refine bits_With_call (Gives.to (With_spec _ _ _ _ _) fun w2 E2 => ?_)
    have z2 := E2.size
    try simp only [World.size_alloc, World.size_setCell, World.size_drew] at z2
    simp (disch := (first | omega | decide | (simp only [rsD] <;> omega) | fail)) only [↓rsC, rsK, rsL, ↓rsHead_2, tick_eq, tickV_eq, ne_eq, Int.reduceAdd, Int.reduceSub, Int.reduceMul, Int.reduceEq, Int.reduceLT, Int.reduceLE, Int.reduceToNat, Nat.reduceMul, Nat.reduceAdd, Nat.reduceSub, ←decide_not, e1_0, h1]
    refine ⟨?_, by (repeat (first | with_reducible exact Ext.refl _ _ | with_reducible assumption | with_reducible refine Ext.alloc' ?_ _ | with_reducible refine Ext.drew' ?_ | with_reducible refine Ext.set' ?_ ?_ | exact .inr (by first | omega | (simp only [World.size_alloc, World.size_drew, World.size_setCell] <;> omega)) | refine Ext.trans ?_ (by with_reducible assumption)))⟩
    have hr := right_t.1 h
    rw [pack_with_m (by omega)]
    simp only [packW, packE, packI, if_pos h, if_true]
def sizeV (p b : Int) (m : Bool) (t : Int) : Int := if rightP p b m t ∧ m = false then 1 + p + (b + 7) / 8 else 0
abbrev rsHead_4 := (And.intro @xu8_add (And.intro @xu8_sub (And.intro @xu8_quo (And.intro @xu8_com (And.intro @xu16_add (And.intro @xu16_sub (And.intro @xu16_quo (And.intro @xu16_com (And.intro @xu32_add (And.intro @xu32_sub (And.intro @xu32_quo (And.intro @xu32_com (And.intro @xu64_add (And.intro @xu64_sub (And.intro @xu64_quo (And.intro @xu64_com 
  (And.intro @ld_3 (And.intro @ld_4 (And.intro @ld_123 (And.intro @fa_123_0 (And.intro @fa_123_1 @fa_123_2)))))))))))))))))))))
theorem Size_spec (p b : Int) (m : Bool) (t : Int) (w : World) : Gives Try.prog n_head_Size #[hd p b m t] w (i64 (sizeV p b m t)) := by
  refine head_Size_of ?_
  unfold head_Size
  simp (disch := (first | omega | decide | (simp only [rsD] <;> omega) | fail)) only [↓rsC, rsK, rsL, ↓rsHead_4, tick_eq, tickV_eq, ne_eq, Int.reduceAdd, Int.reduceSub, Int.reduceMul, Int.reduceEq, Int.reduceLT, Int.reduceLE, Int.reduceToNat, Nat.reduceMul, Nat.reduceAdd, Nat.reduceSub, ←decide_not, eq_self]
  refine head_Right_call (Gives.to (Right_spec _ _ _ _ _) fun w1 E1 => ?_)
  have z1 := E1.size
  try simp only [World.size_alloc, World.size_setCell, World.size_drew] at z1
  have e1_0 : ∀ o, w1.cell? ⟨w.heap.size, o, none⟩ = _ := fun o => E1.cell_o (by first | omega | (simp only [World.size_alloc, World.size_setCell, World.size_drew, size_sets] <;> omega))
  by_cases h : rightP p b m t
  rotate_left
  · have h1 : rightV p b m t = false := decide_eq_false h
    simp (disch := (first | omega | decide | (simp only [rsD] <;> omega) | fail)) only [↓rsC, rsK, rsL, ↓rsHead_4, tick_eq, tickV_eq, ne_eq, Int.reduceAdd, Int.reduceSub, Int.reduceMul, Int.reduceEq, Int.reduceLT, Int.reduceLE, Int.reduceToNat, Nat.reduceMul, Nat.reduceAdd, Nat.reduceSub, ←decide_not, e1_0, h1]
    exact ⟨by simp [sizeV, h], by (repeat (first | with_reducible exact Ext.refl _ _ | with_reducible assumption | with_reducible refine Ext.alloc' ?_ _ | with_reducible refine Ext.drew' ?_ | with_reducible refine Ext.set' ?_ ?_ | exact .inr (by first | omega | (simp only [World.size_alloc, World.size_drew, World.size_setCell] <;> omega)) | refine Ext.trans ?_ (by with_reducible assumption)))⟩
  have h1 : rightV p b m t = true := decide_eq_true h
  cases m
  · have hr := right_f.1 h
    simp (disch := (first | omega | decide | (simp only [rsD] <;> omega) | fail)) only [↓rsC, rsK, rsL, ↓rsHead_4, tick_eq, tickV_eq, ne_eq, Int.reduceAdd, Int.reduceSub, Int.reduceMul, Int.reduceEq, Int.reduceLT, Int.reduceLE, Int.reduceToNat, Nat.reduceMul, Nat.reduceAdd, Nat.reduceSub, ←decide_not, e1_0, h1]
    exact ⟨by simp [sizeV, h]; omega, by (repeat (first | with_reducible exact Ext.refl _ _ | with_reducible assumption | with_reducible refine Ext.alloc' ?_ _ | with_reducible refine Ext.drew' ?_ | with_reducible refine Ext.set' ?_ ?_ | exact .inr (by first | omega | (simp only [World.size_alloc, World.size_drew, World.size_setCell] <;> omega)) | refine Ext.trans ?_ (by with_reducible assumption)))⟩
  · simp (disch := (first | omega | decide | (simp only [rsD] <;> omega) | fail)) only [↓rsC, rsK, rsL, ↓rsHead_4, tick_eq, tickV_eq, ne_eq, Int.reduceAdd, Int.reduceSub, Int.reduceMul, Int.reduceEq, Int.reduceLT, Int.reduceLE, Int.reduceToNat, Nat.reduceMul, Nat.reduceAdd, Nat.reduceSub, ←decide_not, e1_0, h1]
    exact ⟨by simp [sizeV], by (repeat (first | with_reducible exact Ext.refl _ _ | with_reducible assumption | with_reducible refine Ext.alloc' ?_ _ | with_reducible refine Ext.drew' ?_ | with_reducible refine Ext.set' ?_ ?_ | exact .inr (by first | omega | (simp only [World.size_alloc, World.size_drew, World.size_setCell] <;> omega)) | refine Ext.trans ?_ (by with_reducible assumption)))⟩
end Go.Proofs.Ytdpmidgeipibbaa
end
section
set_option linter.unusedVariables false
set_option linter.unusedSimpArgs false
set_option maxHeartbeats 4000000
namespace Go.Proofs.Ytdpmidgeipibbaa
open Go.Sh Go.RowKit

abbrev rsHeadU_0 := (And.intro @xu8_and (And.intro @xu8_eql (And.intro @xu8_neq (And.intro @xu16_and (And.intro @xu16_eql (And.intro @xu16_neq (And.intro @xu32_and (And.intro @xu32_eql (And.intro @xu32_neq (And.intro @xu64_and (And.intro @xu64_eql (And.intro @xu64_neq (And.intro @xi64_eql (And.intro @xi64_neq (And.intro @xi64_and (And.intro @xi64_neg 
  (And.intro @ld_123 (And.intro @lr_123 (And.intro @al_123 (And.intro @st_123 (And.intro @bd_123_0_1 (And.intro @bd_123_2_3 (And.intro @bd_123 @cv_69_3)))))))))))))))))))))))
theorem Unpack_spec (x : BitVec 64) (w : World) : Gives Try.prog n_head_Unpack #[u64 x] w (.tuple #[hd (vP x) (vB x) (vM x) (vT x), i64 (unErr x)]) := by
  refine head_Unpack_of ?_
  unfold head_Unpack head_Unpack_j1
  have f1 := field_1 x
  have f2 := field_16 x
  have f3 := field_32 x
  simp (disch := (first | omega | decide | (simp only [rsD] <;> omega) | fail)) only [↓rsC, rsK, rsL, ↓rsHeadU_0, tick_eq, tickV_eq, ne_eq, Int.reduceAdd, Int.reduceSub, Int.reduceMul, Int.reduceEq, Int.reduceLT, Int.reduceLE, Int.reduceToNat, Nat.reduceMul, Nat.reduceAdd, Nat.reduceSub, ←decide_not, eq_self]
  refine bits_Field_call (Gives.to (Field_spec _ _ _ _) fun w1 E1 => ?_)
  have z1 := E1.size
  try simp only [World.size_alloc, World.size_setCell, World.size_drew] at z1
  have e1_0 : ∀ o, w1.cell? ⟨w.heap.size, o, none⟩ = _ := fun o => E1.cell_o (by first | omega | (simp only [World.size_alloc, World.size_setCell, World.size_drew, size_sets] <;> omega))
  have f1_0 : ∀ o, w1.frozen? ⟨w.heap.size, o, none⟩ = _ := fun o => E1.frozen_o (by first | omega | (simp only [World.size_alloc, World.size_setCell, World.size_drew, size_sets] <;> omega))
  simp (disch := (first | omega | decide | (simp only [rsD] <;> omega) | fail)) only [↓rsC, rsK, rsL, ↓rsHeadU_0, tick_eq, tickV_eq, ne_eq, Int.reduceAdd, Int.reduceSub, Int.reduceMul, Int.reduceEq, Int.reduceLT, Int.reduceLE, Int.reduceToNat, Nat.reduceMul, Nat.reduceAdd, Nat.reduceSub, ←decide_not, e1_0, f1_0]
  refine bits_Field_call (Gives.to (Field_spec _ _ _ _) fun w2 E2 => ?_)
  have z2 := E2.size
  try simp only [World.size_alloc, World.size_setCell, World.size_drew] at z2
  have e2_0 : ∀ o, w2.cell? ⟨w.heap.size, o, none⟩ = _ := fun o => E2.cell_o (by first | omega | (simp only [World.size_alloc, World.size_setCell, World.size_drew, size_sets] <;> omega))
  have f2_0 : ∀ o, w2.frozen? ⟨w.heap.size, o, none⟩ = _ := fun o => E2.frozen_o (by first | omega | (simp only [World.size_alloc, World.size_setCell, World.size_drew, size_sets] <;> omega))
  simp (disch := (first | omega | decide | (simp only [rsD] <;> omega) | fail)) only [↓rsC, rsK, rsL, ↓rsHeadU_0, tick_eq, tickV_eq, ne_eq, Int.reduceAdd, Int.reduceSub, Int.reduceMul, Int.reduceEq, Int.reduceLT, Int.reduceLE, Int.reduceToNat, Nat.reduceMul, Nat.reduceAdd, Nat.reduceSub, ←decide_not, e1_0, f1_0, e2_0, f2_0]
  by_cases hm : x &&& BitVec.ofNat 64 1 = BitVec.ofNat 64 1
  · have um := (low_one x).1 hm
    have up : uP x = 0 := by simp [uP, um]
    have ub : uB x = 0 := by simp [uB, um]
    have ut : uT x = (fieldB x 32 16).toInt := by rw [f3]; simp [uT, um]
    simp (disch := (first | omega | decide | (simp only [rsD] <;> omega) | fail)) only [↓rsC, rsK, rsL, ↓rsHeadU_0, tick_eq, tickV_eq, ne_eq, Int.reduceAdd, Int.reduceSub, Int.reduceMul, Int.reduceEq, Int.reduceLT, Int.reduceLE, Int.reduceToNat, Nat.reduceMul, Nat.reduceAdd, Nat.reduceSub, ←decide_not, e1_0, f1_0, e2_0, f2_0, decide_eq_true hm]
    refine bits_Field_call (Gives.to (Field_spec _ _ _ _) fun w3 E3 => ?_)
    have z3 := E3.size
    try simp only [World.size_alloc, World.size_setCell, World.size_drew] at z3
    have e3_0 : ∀ o, w3.cell? ⟨w.heap.size, o, none⟩ = _ := fun o => E3.cell_o (by first | omega | (simp only [World.size_alloc, World.size_setCell, World.size_drew, size_sets] <;> omega))
    have f3_0 : ∀ o, w3.frozen? ⟨w.heap.size, o, none⟩ = _ := fun o => E3.frozen_o (by first | omega | (simp only [World.size_alloc, World.size_setCell, World.size_drew, size_sets] <;> omega))
    have e3_1 : ∀ o, w3.cell? ⟨w2.heap.size, o, none⟩ = _ := fun o => E3.cell_o (by first | omega | (simp only [World.size_alloc, World.size_setCell, World.size_drew, size_sets] <;> omega))
    have f3_1 : ∀ o, w3.frozen? ⟨w2.heap.size, o, none⟩ = _ := fun o => E3.frozen_o (by first | omega | (simp only [World.size_alloc, World.size_setCell, World.size_drew, size_sets] <;> omega))
    simp (disch := (first | omega | decide | (simp only [rsD] <;> omega) | fail)) only [↓rsC, rsK, rsL, ↓rsHeadU_0, tick_eq, tickV_eq, ne_eq, Int.reduceAdd, Int.reduceSub, Int.reduceMul, Int.reduceEq, Int.reduceLT, Int.reduceLE, Int.reduceToNat, Nat.reduceMul, Nat.reduceAdd, Nat.reduceSub, ←decide_not, e1_0, f1_0, e2_0, f2_0, decide_eq_true hm, e3_0, f3_0, e3_1, f3_1]
    rw [← ut]
    simp (disch := (first | omega | decide | (simp only [rsD] <;> omega) | fail)) only [↓rsC, rsK, rsL, ↓rsHeadU_0, tick_eq, tickV_eq, ne_eq, Int.reduceAdd, Int.reduceSub, Int.reduceMul, Int.reduceEq, Int.reduceLT, Int.reduceLE, Int.reduceToNat, Nat.reduceMul, Nat.reduceAdd, Nat.reduceSub, ←decide_not, e1_0, f1_0, e2_0, f2_0, decide_eq_true hm, e3_0, f3_0, e3_1, f3_1]
    refine head_Pack_call (Gives.to (Pack_spec _ _ _ _ _) fun w4 E4 => ?_)
    have z4 := E4.size
    try simp only [World.size_alloc, World.size_setCell, World.size_drew] at z4
    have e4_0 : ∀ o, w4.cell? ⟨w.heap.size, o, none⟩ = _ := fun o => E4.cell_o (by first | omega | (simp only [World.size_alloc, World.size_setCell, World.size_drew, size_sets] <;> omega))
    have f4_0 : ∀ o, w4.frozen? ⟨w.heap.size, o, none⟩ = _ := fun o => E4.frozen_o (by first | omega | (simp only [World.size_alloc, World.size_setCell, World.size_drew, size_sets] <;> omega))
    have e4_1 : ∀ o, w4.cell? ⟨w2.heap.size, o, none⟩ = _ := fun o => E4.cell_o (by first | omega | (simp only [World.size_alloc, World.size_setCell, World.size_drew, size_sets] <;> omega))
    have f4_1 : ∀ o, w4.frozen? ⟨w2.heap.size, o, none⟩ = _ := fun o => E4.frozen_o (by first | omega | (simp only [World.size_alloc, World.size_setCell, World.size_drew, size_sets] <;> omega))
    by_cases h1 : rightP 0 0 true (uT x)
    rotate_left
    · have hn : ¬ isHead x := by unfold isHead; rw [up, ub, um]; exact fun h => h1 h.1
      simp (disch := (first | omega | decide | (simp only [rsD] <;> omega) | fail)) only [↓rsC, rsK, rsL, ↓rsHeadU_0, tick_eq, tickV_eq, ne_eq, Int.reduceAdd, Int.reduceSub, Int.reduceMul, Int.reduceEq, Int.reduceLT, Int.reduceLE, Int.reduceToNat, Nat.reduceMul, Nat.reduceAdd, Nat.reduceSub, ←decide_not, e1_0, f1_0, e2_0, f2_0, decide_eq_true hm, e3_0, f3_0, e3_1, f3_1, e4_0, f4_0, e4_1, f4_1, packE, if_neg h1]
      exact ⟨by simp only [vP, vB, vM, vT, unErr, if_neg hn], by (repeat (first | with_reducible exact Ext.refl _ _ | with_reducible assumption | with_reducible refine Ext.alloc' ?_ _ | with_reducible refine Ext.drew' ?_ | with_reducible refine Ext.set' ?_ ?_ | exact .inr (by first | omega | (simp only [World.size_alloc, World.size_drew, World.size_setCell] <;> omega)) | refine Ext.trans ?_ (by with_reducible assumption)))⟩
    by_cases h2 : packW 0 0 true (uT x) = x
    rotate_left
    · have hn : ¬ isHead x := by unfold isHead; rw [up, ub, um]; exact fun h => h2 h.2
      simp (disch := (first | omega | decide | (simp only [rsD] <;> omega) | fail)) only [↓rsC, rsK, rsL, ↓rsHeadU_0, tick_eq, tickV_eq, ne_eq, Int.reduceAdd, Int.reduceSub, Int.reduceMul, Int.reduceEq, Int.reduceLT, Int.reduceLE, Int.reduceToNat, Nat.reduceMul, Nat.reduceAdd, Nat.reduceSub, ←decide_not, e1_0, f1_0, e2_0, f2_0, decide_eq_true hm, e3_0, f3_0, e3_1, f3_1, e4_0, f4_0, e4_1, f4_1, packE, if_pos h1, h2]
      exact ⟨by simp only [vP, vB, vM, vT, unErr, if_neg hn], by (repeat (first | with_reducible exact Ext.refl _ _ | with_reducible assumption | with_reducible refine Ext.alloc' ?_ _ | with_reducible refine Ext.drew' ?_ | with_reducible refine Ext.set' ?_ ?_ | exact .inr (by first | omega | (simp only [World.size_alloc, World.size_drew, World.size_setCell] <;> omega)) | refine Ext.trans ?_ (by with_reducible assumption)))⟩
    have hn : isHead x := by unfold isHead; rw [up, ub, um]; exact ⟨h1, h2⟩
    simp (disch := (first | omega | decide | (simp only [rsD] <;> omega) | fail)) only [↓rsC, rsK, rsL, ↓rsHeadU_0, tick_eq, tickV_eq, ne_eq, Int.reduceAdd, Int.reduceSub, Int.reduceMul, Int.reduceEq, Int.reduceLT, Int.reduceLE, Int.reduceToNat, Nat.reduceMul, Nat.reduceAdd, Nat.reduceSub, ←decide_not, e1_0, f1_0, e2_0, f2_0, decide_eq_true hm, e3_0, f3_0, e3_1, f3_1, e4_0, f4_0, e4_1, f4_1, packE, if_pos h1, eq_true h2]
    exact ⟨by simp only [vP, vB, vM, vT, unErr, if_pos hn, up, ub, um], by (repeat (first | with_reducible exact Ext.refl _ _ | with_reducible assumption | with_reducible refine Ext.alloc' ?_ _ | with_reducible refine Ext.drew' ?_ | with_reducible refine Ext.set' ?_ ?_ | exact .inr (by first | omega | (simp only [World.size_alloc, World.size_drew, World.size_setCell] <;> omega)) | refine Ext.trans ?_ (by with_reducible assumption)))⟩
  · have um : uM x = false := by simpa using fun h => hm ((low_one x).2 h)
    have up : uP x = (fieldB x 1 8).toInt := by rw [f1]; simp [uP, um]
    have ub : uB x = (fieldB x 16 12).toInt := by rw [f2]; simp [uB, um]
    have ut : uT x = 0 := by simp [uT, um]
    simp (disch := (first | omega | decide | (simp only [rsD] <;> omega) | fail)) only [↓rsC, rsK, rsL, ↓rsHeadU_0, tick_eq, tickV_eq, ne_eq, Int.reduceAdd, Int.reduceSub, Int.reduceMul, Int.reduceEq, Int.reduceLT, Int.reduceLE, Int.reduceToNat, Nat.reduceMul, Nat.reduceAdd, Nat.reduceSub, ←decide_not, e1_0, f1_0, e2_0, f2_0, decide_eq_false hm]
    rw [← up, ← ub]
    simp (disch := (first | omega | decide | (simp only [rsD] <;> omega) | fail)) only [↓rsC, rsK, rsL, ↓rsHeadU_0, tick_eq, tickV_eq, ne_eq, Int.reduceAdd, Int.reduceSub, Int.reduceMul, Int.reduceEq, Int.reduceLT, Int.reduceLE, Int.reduceToNat, Nat.reduceMul, Nat.reduceAdd, Nat.reduceSub, ←decide_not, e1_0, f1_0, e2_0, f2_0, decide_eq_false hm]
    refine head_Pack_call (Gives.to (Pack_spec _ _ _ _ _) fun w5 E5 => ?_)
    have z5 := E5.size
    try simp only [World.size_alloc, World.size_setCell, World.size_drew] at z5
    have e5_0 : ∀ o, w5.cell? ⟨w.heap.size, o, none⟩ = _ := fun o => E5.cell_o (by first | omega | (simp only [World.size_alloc, World.size_setCell, World.size_drew, size_sets] <;> omega))
    have f5_0 : ∀ o, w5.frozen? ⟨w.heap.size, o, none⟩ = _ := fun o => E5.frozen_o (by first | omega | (simp only [World.size_alloc, World.size_setCell, World.size_drew, size_sets] <;> omega))
    have e5_1 : ∀ o, w5.cell? ⟨w2.heap.size, o, none⟩ = _ := fun o => E5.cell_o (by first | omega | (simp only [World.size_alloc, World.size_setCell, World.size_drew, size_sets] <;> omega))
    have f5_1 : ∀ o, w5.frozen? ⟨w2.heap.size, o, none⟩ = _ := fun o => E5.frozen_o (by first | omega | (simp only [World.size_alloc, World.size_setCell, World.size_drew, size_sets] <;> omega))
    by_cases h1 : rightP (uP x) (uB x) false 0
    rotate_left
    · have hn : ¬ isHead x := by unfold isHead; rw [um, ut]; exact fun h => h1 h.1
      simp (disch := (first | omega | decide | (simp only [rsD] <;> omega) | fail)) only [↓rsC, rsK, rsL, ↓rsHeadU_0, tick_eq, tickV_eq, ne_eq, Int.reduceAdd, Int.reduceSub, Int.reduceMul, Int.reduceEq, Int.reduceLT, Int.reduceLE, Int.reduceToNat, Nat.reduceMul, Nat.reduceAdd, Nat.reduceSub, ←decide_not, e1_0, f1_0, e2_0, f2_0, decide_eq_false hm, e5_0, f5_0, e5_1, f5_1, packE, if_neg h1]
      exact ⟨by simp only [vP, vB, vM, vT, unErr, if_neg hn], by (repeat (first | with_reducible exact Ext.refl _ _ | with_reducible assumption | with_reducible refine Ext.alloc' ?_ _ | with_reducible refine Ext.drew' ?_ | with_reducible refine Ext.set' ?_ ?_ | exact .inr (by first | omega | (simp only [World.size_alloc, World.size_drew, World.size_setCell] <;> omega)) | refine Ext.trans ?_ (by with_reducible assumption)))⟩
    by_cases h2 : packW (uP x) (uB x) false 0 = x
    rotate_left
    · have hn : ¬ isHead x := by unfold isHead; rw [um, ut]; exact fun h => h2 h.2
      simp (disch := (first | omega | decide | (simp only [rsD] <;> omega) | fail)) only [↓rsC, rsK, rsL, ↓rsHeadU_0, tick_eq, tickV_eq, ne_eq, Int.reduceAdd, Int.reduceSub, Int.reduceMul, Int.reduceEq, Int.reduceLT, Int.reduceLE, Int.reduceToNat, Nat.reduceMul, Nat.reduceAdd, Nat.reduceSub, ←decide_not, e1_0, f1_0, e2_0, f2_0, decide_eq_false hm, e5_0, f5_0, e5_1, f5_1, packE, if_pos h1, h2]
      exact ⟨by simp only [vP, vB, vM, vT, unErr, if_neg hn], by (repeat (first | with_reducible exact Ext.refl _ _ | with_reducible assumption | with_reducible refine Ext.alloc' ?_ _ | with_reducible refine Ext.drew' ?_ | with_reducible refine Ext.set' ?_ ?_ | exact .inr (by first | omega | (simp only [World.size_alloc, World.size_drew, World.size_setCell] <;> omega)) | refine Ext.trans ?_ (by with_reducible assumption)))⟩
    have hn : isHead x := by unfold isHead; rw [um, ut]; exact ⟨h1, h2⟩
    simp (disch := (first | omega | decide | (simp only [rsD] <;> omega) | fail)) only [↓rsC, rsK, rsL, ↓rsHeadU_0, tick_eq, tickV_eq, ne_eq, Int.reduceAdd, Int.reduceSub, Int.reduceMul, Int.reduceEq, Int.reduceLT, Int.reduceLE, Int.reduceToNat, Nat.reduceMul, Nat.reduceAdd, Nat.reduceSub, ←decide_not, e1_0, f1_0, e2_0, f2_0, decide_eq_false hm, e5_0, f5_0, e5_1, f5_1, packE, if_pos h1, eq_true h2]
    exact ⟨by simp only [vP, vB, vM, vT, unErr, if_pos hn, ut, um], by (repeat (first | with_reducible exact Ext.refl _ _ | with_reducible assumption | with_reducible refine Ext.alloc' ?_ _ | with_reducible refine Ext.drew' ?_ | with_reducible refine Ext.set' ?_ ?_ | exact .inr (by first | omega | (simp only [World.size_alloc, World.size_drew, World.size_setCell] <;> omega)) | refine Ext.trans ?_ (by with_reducible assumption)))⟩

end Go.Proofs.Ytdpmidgeipibbaa
end
section
set_option linter.unusedVariables false
set_option linter.unusedSimpArgs false
set_option maxHeartbeats 4000000
namespace Go.Proofs.Ytdpmidgeipibbaa
open Go.Sh Go.RowKit

theorem lit_row (w : World) (l : List (BitVec 8)) : RowAt (w.alloc (.cells (bys l).toArray 5)) (some ⟨w.heap.size, 0, none⟩) (bys l) := (Blk.new w (bys l)).row
end Go.Proofs.Ytdpmidgeipibbaa
end
section
set_option linter.unusedVariables false
set_option linter.unusedSimpArgs false
set_option maxHeartbeats 4000000
namespace Go.Proofs.Ytdpmidgeipibbaa
open Go.Sh Go.RowKit

theorem bys_ok {l : List (BitVec 8)} : ∀ u ∈ bys l, u.oneCell' = true := by simp [Value.oneCell']
theorem own_nil {w : World} {base : Nat} {e : TypeId} : w.ownsRow base e 1 (.slice none 0 0) 0 [] := World.ownsRow_nil w base e 1
end Go.Proofs.Ytdpmidgeipibbaa
end
section
set_option linter.unusedVariables false
set_option linter.unusedSimpArgs false
set_option maxHeartbeats 4000000
namespace Go.Proofs.Ytdpmidgeipibbaa
open Go.Sh Go.RowKit

abbrev c0 : BitVec 64 := BitVec.ofNat 64 0
def byteW (ws : List (BitVec 64)) (i : Nat) : BitVec 8 := ((ws.getD (i / 8) c0) >>> (8 * (i % 8))).setWidth 8
def bytesW (ws : List (BitVec 64)) (at' n : Nat) : List (BitVec 8) := (List.range n).map fun i => byteW ws (at' + i)
/-- one byte put -/
def putB (ws : List (BitVec 64)) (i : Nat) (b : BitVec 8) : List (BitVec 64) :=
  ws.set (i / 8) ((ws.getD (i / 8) c0 &&& ~~~(BitVec.ofNat 64 255 <<< (8 * (i % 8)))) ||| (b.setWidth 64 <<< (8 * (i % 8))))
def putBs (ws : List (BitVec 64)) (at' : Nat) (l : List (BitVec 8)) : Nat → List (BitVec 64)
  | 0 => ws
  | k + 1 => putB (putBs ws at' l k) (at' + k) (l.getD k (BitVec.ofNat 8 0))
def setBytesW (ws : List (BitVec 64)) (at' : Nat) (l : List (BitVec 8)) : List (BitVec 64) := putBs ws at' l l.length
theorem putB_length {ws : List (BitVec 64)} {i : Nat} {b : BitVec 8} : (putB ws i b).length = ws.length := by simp [putB]
theorem putBs_length {ws : List (BitVec 64)} {at' : Nat} {l : List (BitVec 8)} : ∀ k, (putBs ws at' l k).length = ws.length
  | 0 => rfl
  | k + 1 => by rw [putBs, putB_length, putBs_length k]
theorem setBytesW_length {ws : List (BitVec 64)} {at' : Nat} {l : List (BitVec 8)} : (setBytesW ws at' l).length = ws.length := putBs_length _
theorem byte_put {ws : List (BitVec 64)} {i j : Nat} {b : BitVec 8} (hi : i < 8 * ws.length) : byteW (putB ws i b) j = if j = i then b else byteW ws j := by
  have hl : i / 8 < ws.length := by omega
  unfold byteW putB
  rw [List.getD_eq_getElem?_getD, List.getElem?_set]
  by_cases h : i / 8 = j / 8
  · rw [if_pos h, if_pos hl, Option.getD_some, ← h]
    apply BitVec.eq_of_getLsbD_eq
    intro k hk
    rw [BitVec.getLsbD_setWidth, BitVec.getLsbD_ushiftRight, BitVec.getLsbD_or, BitVec.getLsbD_and, BitVec.getLsbD_not, BitVec.getLsbD_shiftLeft, BitVec.getLsbD_shiftLeft, BitVec.getLsbD_setWidth]
    have h255 : ∀ m, (BitVec.ofNat 64 255).getLsbD m = decide (m < 8) := by
      intro m
      by_cases hm : m < 64
      · have : ∀ m, m < 64 → (BitVec.ofNat 64 255).getLsbD m = decide (m < 8) := by decide
        exact this m hm
      · rw [BitVec.getLsbD_of_ge _ _ (by omega)]; simp; omega
    rw [h255]
    by_cases hji : j = i
    · subst hji
      rw [if_pos rfl]
      simp [hk, show 8 * (j % 8) + k < 64 by omega, show ¬ 8 * (j % 8) + k < 8 * (j % 8) by omega, show 8 * (j % 8) + k - 8 * (j % 8) = k by omega, show k < 64 by omega]
    · rw [if_neg hji, BitVec.getLsbD_setWidth, BitVec.getLsbD_ushiftRight]
      have hne : i % 8 ≠ j % 8 := fun e => hji (by omega)
      have hb : b.getLsbD (8 * (j % 8) + k - 8 * (i % 8)) = false ∨ 8 * (j % 8) + k < 8 * (i % 8) := by
        rcases Nat.lt_or_ge (8 * (j % 8) + k) (8 * (i % 8)) with h1 | h1
        · exact .inr h1
        · exact .inl (BitVec.getLsbD_of_ge _ _ (by omega))
      rcases Nat.lt_or_ge (8 * (j % 8) + k) (8 * (i % 8)) with h1 | h1
      · simp [h1, hk, show 8 * (j % 8) + k < 64 by omega]
      · have h2 : ¬ 8 * (j % 8) + k - 8 * (i % 8) < 8 := by omega
        rw [BitVec.getLsbD_of_ge b _ (by omega)]
        simp [h2, hk, show 8 * (j % 8) + k < 64 by omega]
  · rw [if_neg h, if_neg (fun e => h (by rw [e])), ← List.getD_eq_getElem?_getD]
theorem byte_puts {ws : List (BitVec 64)} {at' j : Nat} {l : List (BitVec 8)} : ∀ k, at' + k ≤ 8 * ws.length → k ≤ l.length → byteW (putBs ws at' l k) j = if at' ≤ j ∧ j < at' + k then l.getD (j - at') (BitVec.ofNat 8 0) else byteW ws j
  | 0, _, _ => by rw [if_neg (by omega)]; rfl
  | k + 1, h, hl => by
    rw [putBs, byte_put (by rw [putBs_length]; omega), byte_puts k (by omega) (by omega)]
    by_cases h1 : j = at' + k
    · rw [if_pos h1, if_pos (by omega), h1, Nat.add_sub_cancel_left]
    · rw [if_neg h1]
      by_cases h2 : at' ≤ j ∧ j < at' + k
      · rw [if_pos h2, if_pos (by omega)]
      · rw [if_neg h2, if_neg (by omega)]
theorem byte_set {ws : List (BitVec 64)} {at' j : Nat} {l : List (BitVec 8)} (h : at' + l.length ≤ 8 * ws.length) : byteW (setBytesW ws at' l) j = if at' ≤ j ∧ j < at' + l.length then l.getD (j - at') (BitVec.ofNat 8 0) else byteW ws j :=
  byte_puts _ h (Nat.le_refl _)
theorem bytesW_length {ws : List (BitVec 64)} {at' n : Nat} : (bytesW ws at' n).length = n := by simp [bytesW]
/-- n things from a place on -/
def among (at' n all : Int) : Prop := 0 ≤ at' ∧ 0 ≤ n ∧ n ≤ all ∧ at' ≤ all - n
instance (at' n all : Int) : Decidable (among at' n all) := by unfold among; infer_instance
end Go.Proofs.Ytdpmidgeipibbaa
end
section
set_option linter.unusedVariables false
set_option linter.unusedSimpArgs false
set_option maxHeartbeats 4000000
namespace Go.Proofs.Ytdpmidgeipibbaa
open Go.Sh Go.RowKit

abbrev ptr (g : Nat) : Value := .pointer (some ⟨g, 0, none⟩)
def blkOf : Option Addr → List Nat
  | some a => [a.block]
  | none => []
/-- words of one's own -/
def OwnW (w : World) (base : Nat) (a : Option Addr) (c : Nat) (ws : List (BitVec 64)) : Prop :=
  ws = [] ∨ ∃ gs rest, a = some ⟨gs, 0, none⟩ ∧ base ≤ gs ∧ Blk w gs 69 (wrds ws ++ rest) ∧ c ≤ (wrds ws ++ rest).length
structure MemIs (w : World) (base g : Nat) (a : Option Addr) (c : Nat) (ws : List (BitVec 64)) : Prop where
  lo : base ≤ g
  hd : w.cell? ⟨g, 0, none⟩ = some (.slice a ws.length c)
  len : ws.length ≤ 8192
  cap : ws.length ≤ c
  nil : a = none → c = 0
  own : OwnW w base a c ws
  apart : ws ≠ [] → g ∉ blkOf a
  up : ∀ x ∈ blkOf a, base ≤ x
theorem MemIs.lt {w : World} {base g : Nat} {a : Option Addr} {c : Nat} {ws : List (BitVec 64)} (h : MemIs w base g a c ws) : g < w.heap.size := World.block_lt_of_cell? w ⟨g, 0, none⟩ h.hd
theorem OwnW.row {w : World} {base : Nat} {a : Option Addr} {c : Nat} {ws : List (BitVec 64)} (h : OwnW w base a c ws) : RowAt w a (wrds ws) := by
  rcases h with rfl | ⟨gs, rest, rfl, _, hB, _⟩
  · exact RowAt.nil
  · have := hB.row.take (wrds ws).length
    rwa [List.take_left' rfl] at this
theorem OwnW.ext {w w' : World} {base : Nat} {a : Option Addr} {c : Nat} {ws : List (BitVec 64)} {M : List Nat} (h : OwnW w base a c ws) (hx : Ext M w w') (hm : ws ≠ [] → ∀ g ∈ blkOf a, g ∉ M) : OwnW w' base a c ws := by
  rcases h with rfl | ⟨gs, rest, rfl, hb, hB, hc⟩
  · exact .inl rfl
  · by_cases hw : ws = []
    · exact .inl hw
    · exact .inr ⟨gs, rest, rfl, hb, hB.ext hx (hm hw gs (by simp [blkOf])), hc⟩
theorem MemIs.ext {w w' : World} {base g : Nat} {a : Option Addr} {c : Nat} {ws : List (BitVec 64)} {M : List Nat} (h : MemIs w base g a c ws) (hx : Ext M w w') (hg : g ∉ M) (hm : ws ≠ [] → ∀ g ∈ blkOf a, g ∉ M) : MemIs w' base g a c ws :=
  ⟨h.lo, by rw [hx.cell (a := ⟨g, 0, none⟩) h.lt hg]; exact h.hd, h.len, h.cap, h.nil, h.own.ext hx hm, h.apart, h.up⟩
theorem MemIs.ext0 {w w' : World} {base g : Nat} {a : Option Addr} {c : Nat} {ws : List (BitVec 64)} (h : MemIs w base g a c ws) (hx : Ext [] w w') : MemIs w' base g a c ws := h.ext hx (by simp) (by simp)

abbrev rsMem_0 := (And.intro @xu8_sub (And.intro @xu8_leq (And.intro @xu8_geq (And.intro @xu16_sub (And.intro @xu16_leq (And.intro @xu16_geq (And.intro @xu32_sub (And.intro @xu32_leq (And.intro @xu32_geq (And.intro @xu64_sub (And.intro @xu64_leq (And.intro @xu64_geq (And.intro @xi64_leq @xi64_geq)))))))))))))
theorem min_spec (a n all : Int) (w : World) (h0 : 0 ≤ all) (h1 : all ≤ 1000000) : Gives Try.prog n_mem_in #[i64 a, i64 n, i64 all] w (.bool (decide (among a n all))) := by
  refine mem_in_of ?_
  unfold mem_in
  simp (disch := (first | omega | decide | (simp only [rsD] <;> omega) | fail)) only [↓rsC, rsK, rsL, ↓rsMem_0, tick_eq, tickV_eq, ne_eq, Int.reduceAdd, Int.reduceSub, Int.reduceMul, Int.reduceEq, Int.reduceLT, Int.reduceLE, Int.reduceToNat, Nat.reduceMul, Nat.reduceAdd, Nat.reduceSub, ←decide_not, eq_self]
  by_cases g1 : ¬ 0 ≤ a
  · have hv : decide (among a n all) = false := decide_eq_false (by unfold among; omega)
    simp (disch := (first | omega | decide | (simp only [rsD] <;> omega) | fail)) only [↓rsC, rsK, rsL, ↓rsMem_0, tick_eq, tickV_eq, ne_eq, Int.reduceAdd, Int.reduceSub, Int.reduceMul, Int.reduceEq, Int.reduceLT, Int.reduceLE, Int.reduceToNat, Nat.reduceMul, Nat.reduceAdd, Nat.reduceSub, ←decide_not, eq_self, g1, hv]
    exact ⟨by trivial, by (repeat (first | with_reducible exact Ext.refl _ _ | with_reducible assumption | with_reducible refine Ext.alloc' ?_ _ | with_reducible refine Ext.drew' ?_ | with_reducible refine Ext.set' ?_ ?_ | exact .inr (by first | omega | (simp only [World.size_alloc, World.size_drew, World.size_setCell] <;> omega)) | refine Ext.trans ?_ (by with_reducible assumption)))⟩
  replace g1 := Decidable.not_not.1 g1
  by_cases g2 : ¬ 0 ≤ n
  · have hv : decide (among a n all) = false := decide_eq_false (by unfold among; omega)
    simp (disch := (first | omega | decide | (simp only [rsD] <;> omega) | fail)) only [↓rsC, rsK, rsL, ↓rsMem_0, tick_eq, tickV_eq, ne_eq, Int.reduceAdd, Int.reduceSub, Int.reduceMul, Int.reduceEq, Int.reduceLT, Int.reduceLE, Int.reduceToNat, Nat.reduceMul, Nat.reduceAdd, Nat.reduceSub, ←decide_not, eq_true g1, g2, hv]
    exact ⟨by trivial, by (repeat (first | with_reducible exact Ext.refl _ _ | with_reducible assumption | with_reducible refine Ext.alloc' ?_ _ | with_reducible refine Ext.drew' ?_ | with_reducible refine Ext.set' ?_ ?_ | exact .inr (by first | omega | (simp only [World.size_alloc, World.size_drew, World.size_setCell] <;> omega)) | refine Ext.trans ?_ (by with_reducible assumption)))⟩
  replace g2 := Decidable.not_not.1 g2
  by_cases g3 : ¬ n ≤ all
  · have hv : decide (among a n all) = false := decide_eq_false (by unfold among; omega)
    simp (disch := (first | omega | decide | (simp only [rsD] <;> omega) | fail)) only [↓rsC, rsK, rsL, ↓rsMem_0, tick_eq, tickV_eq, ne_eq, Int.reduceAdd, Int.reduceSub, Int.reduceMul, Int.reduceEq, Int.reduceLT, Int.reduceLE, Int.reduceToNat, Nat.reduceMul, Nat.reduceAdd, Nat.reduceSub, ←decide_not, eq_true g1, eq_true g2, g3, hv]
    exact ⟨by trivial, by (repeat (first | with_reducible exact Ext.refl _ _ | with_reducible assumption | with_reducible refine Ext.alloc' ?_ _ | with_reducible refine Ext.drew' ?_ | with_reducible refine Ext.set' ?_ ?_ | exact .inr (by first | omega | (simp only [World.size_alloc, World.size_drew, World.size_setCell] <;> omega)) | refine Ext.trans ?_ (by with_reducible assumption)))⟩
  replace g3 := Decidable.not_not.1 g3
  by_cases g4 : ¬ a ≤ all - n
  · have hv : decide (among a n all) = false := decide_eq_false (by unfold among; omega)
    simp (disch := (first | omega | decide | (simp only [rsD] <;> omega) | fail)) only [↓rsC, rsK, rsL, ↓rsMem_0, tick_eq, tickV_eq, ne_eq, Int.reduceAdd, Int.reduceSub, Int.reduceMul, Int.reduceEq, Int.reduceLT, Int.reduceLE, Int.reduceToNat, Nat.reduceMul, Nat.reduceAdd, Nat.reduceSub, ←decide_not, eq_true g1, eq_true g2, eq_true g3, g4, hv]
    exact ⟨by trivial, by (repeat (first | with_reducible exact Ext.refl _ _ | with_reducible assumption | with_reducible refine Ext.alloc' ?_ _ | with_reducible refine Ext.drew' ?_ | with_reducible refine Ext.set' ?_ ?_ | exact .inr (by first | omega | (simp only [World.size_alloc, World.size_drew, World.size_setCell] <;> omega)) | refine Ext.trans ?_ (by with_reducible assumption)))⟩
  replace g4 := Decidable.not_not.1 g4
  have hv : decide (among a n all) = true := decide_eq_true (by unfold among; omega)
  simp (disch := (first | omega | decide | (simp only [rsD] <;> omega) | fail)) only [↓rsC, rsK, rsL, ↓rsMem_0, tick_eq, tickV_eq, ne_eq, Int.reduceAdd, Int.reduceSub, Int.reduceMul, Int.reduceEq, Int.reduceLT, Int.reduceLE, Int.reduceToNat, Nat.reduceMul, Nat.reduceAdd, Nat.reduceSub, ←decide_not, eq_true g1, eq_true g2, eq_true g3, eq_true g4, hv]
  exact ⟨by trivial, by (repeat (first | with_reducible exact Ext.refl _ _ | with_reducible assumption | with_reducible refine Ext.alloc' ?_ _ | with_reducible refine Ext.drew' ?_ | with_reducible refine Ext.set' ?_ ?_ | exact .inr (by first | omega | (simp only [World.size_alloc, World.size_drew, World.size_setCell] <;> omega)) | refine Ext.trans ?_ (by with_reducible assumption)))⟩
def NewOk (w w' : World) (u : Value) (ws : List (BitVec 64)) : Prop := Ext [] w w' ∧ ∃ g a c, u = .tuple #[ptr g, i64 0] ∧ MemIs w' w.heap.size g a c ws
abbrev rsMem_1 := (And.intro @xu8_lss (And.intro @xu8_gtr (And.intro @xu16_lss (And.intro @xu16_gtr (And.intro @xu32_lss (And.intro @xu32_gtr (And.intro @xu64_lss (And.intro @xu64_gtr (And.intro @xi64_lss (And.intro @xi64_gtr (And.intro @bd_165_0 @mk_28)))))))))))
theorem New_spec (n : Nat) (w : World) (hn : n ≤ 8192) : Yld Try.prog n_mem_New #[i64 n] w fun u w' => NewOk w w' u (List.replicate n c0) := by
  refine mem_New_of ?_
  unfold mem_New
  simp (disch := (first | omega | decide | (simp only [rsD] <;> omega) | fail)) only [↓rsC, rsK, rsL, ↓rsMem_1, tick_eq, tickV_eq, ne_eq, Int.reduceAdd, Int.reduceSub, Int.reduceMul, Int.reduceEq, Int.reduceLT, Int.reduceLE, Int.reduceToNat, Nat.reduceMul, Nat.reduceAdd, Nat.reduceSub, ←decide_not, eq_self]
  have hB : Blk (w.alloc (.cells (List.replicate n (c64 0)).toArray 69)) w.heap.size 69 (List.replicate n (c64 0)) := Blk.new w _
  have e : wrds (List.replicate n c0) = List.replicate n (c64 0) := by simp [wrds]
  refine ⟨by (repeat (first | with_reducible exact Ext.refl _ _ | with_reducible assumption | with_reducible refine Ext.alloc' ?_ _ | with_reducible refine Ext.drew' ?_ | with_reducible refine Ext.set' ?_ ?_ | exact .inr (by first | omega | (simp only [World.size_alloc, World.size_drew, World.size_setCell] <;> omega)) | refine Ext.trans ?_ (by with_reducible assumption))), w.heap.size + 1, some ⟨w.heap.size, 0, none⟩, n, rfl, by omega, ?_, by simpa using hn, by simp, (fun h => by cases h), .inr ⟨w.heap.size, [], rfl, Nat.le_refl _, ?_, by simp [wrds]⟩, fun _ => by simp [blkOf], by simp [blkOf]⟩
  · simp (disch := (first | omega | decide | (simp only [rsD] <;> omega) | fail)) only [↓rsC, rsK, rsL, ↓rsMem_1, tick_eq, tickV_eq, ne_eq, Int.reduceAdd, Int.reduceSub, Int.reduceMul, Int.reduceEq, Int.reduceLT, Int.reduceLE, Int.reduceToNat, Nat.reduceMul, Nat.reduceAdd, Nat.reduceSub, ←decide_not, eq_self]
    simp
  · rw [List.append_nil, e]
    exact hB.ext (Ext.alloc [] _ _) (by simp)
theorem New_bad (n : Int) (w : World) (hn : n < 0 ∨ 8192 < n) : Gives Try.prog n_mem_New #[i64 n] w (.tuple #[.pointer none, i64 1]) := by
  refine mem_New_of ?_
  unfold mem_New
  simp (disch := (first | omega | decide | (simp only [rsD] <;> omega) | fail)) only [↓rsC, rsK, rsL, ↓rsMem_1, tick_eq, tickV_eq, ne_eq, Int.reduceAdd, Int.reduceSub, Int.reduceMul, Int.reduceEq, Int.reduceLT, Int.reduceLE, Int.reduceToNat, Nat.reduceMul, Nat.reduceAdd, Nat.reduceSub, ←decide_not, eq_self]
  rcases hn with h | h
  · simp (disch := (first | omega | decide | (simp only [rsD] <;> omega) | fail)) only [↓rsC, rsK, rsL, ↓rsMem_1, tick_eq, tickV_eq, ne_eq, Int.reduceAdd, Int.reduceSub, Int.reduceMul, Int.reduceEq, Int.reduceLT, Int.reduceLE, Int.reduceToNat, Nat.reduceMul, Nat.reduceAdd, Nat.reduceSub, ←decide_not, eq_self]
    exact ⟨by trivial, by (repeat (first | with_reducible exact Ext.refl _ _ | with_reducible assumption | with_reducible refine Ext.alloc' ?_ _ | with_reducible refine Ext.drew' ?_ | with_reducible refine Ext.set' ?_ ?_ | exact .inr (by first | omega | (simp only [World.size_alloc, World.size_drew, World.size_setCell] <;> omega)) | refine Ext.trans ?_ (by with_reducible assumption)))⟩
  · by_cases h0 : n < 0
    · simp (disch := (first | omega | decide | (simp only [rsD] <;> omega) | fail)) only [↓rsC, rsK, rsL, ↓rsMem_1, tick_eq, tickV_eq, ne_eq, Int.reduceAdd, Int.reduceSub, Int.reduceMul, Int.reduceEq, Int.reduceLT, Int.reduceLE, Int.reduceToNat, Nat.reduceMul, Nat.reduceAdd, Nat.reduceSub, ←decide_not, eq_self]
      exact ⟨by trivial, by (repeat (first | with_reducible exact Ext.refl _ _ | with_reducible assumption | with_reducible refine Ext.alloc' ?_ _ | with_reducible refine Ext.drew' ?_ | with_reducible refine Ext.set' ?_ ?_ | exact .inr (by first | omega | (simp only [World.size_alloc, World.size_drew, World.size_setCell] <;> omega)) | refine Ext.trans ?_ (by with_reducible assumption)))⟩
    · simp (disch := (first | omega | decide | (simp only [rsD] <;> omega) | fail)) only [↓rsC, rsK, rsL, ↓rsMem_1, tick_eq, tickV_eq, ne_eq, Int.reduceAdd, Int.reduceSub, Int.reduceMul, Int.reduceEq, Int.reduceLT, Int.reduceLE, Int.reduceToNat, Nat.reduceMul, Nat.reduceAdd, Nat.reduceSub, ←decide_not, eq_self]
      exact ⟨by trivial, by (repeat (first | with_reducible exact Ext.refl _ _ | with_reducible assumption | with_reducible refine Ext.alloc' ?_ _ | with_reducible refine Ext.drew' ?_ | with_reducible refine Ext.set' ?_ ?_ | exact .inr (by first | omega | (simp only [World.size_alloc, World.size_drew, World.size_setCell] <;> omega)) | refine Ext.trans ?_ (by with_reducible assumption)))⟩
/-- a row of words that is nobody else's -/
def FreshW (w w' : World) (u : Value) (ws : List (BitVec 64)) : Prop := Ext [] w w' ∧ ∃ a c, u = .slice a ws.length c ∧ ws.length ≤ c ∧ (a = none → c = 0) ∧ OwnW w' w.heap.size a c ws ∧ ∀ x ∈ blkOf a, w.heap.size ≤ x
abbrev rsMem_2 := (And.intro @xu8_eql (And.intro @xu16_eql (And.intro @xu32_eql (And.intro @xu64_eql (And.intro @xi64_eql (And.intro @bs_28_0 (And.intro @bs_28_1 (And.intro @bs_28_2 (And.intro @bs_28_3 @nq_28)))))))))
theorem Clone_spec (ws : List (BitVec 64)) (a : Option Addr) (c : Nat) (w : World) (hl : ws.length ≤ 1000000) (h : RowAt w a (wrds ws)) (hn : a = none → c = 0) :
    Yld Try.prog n_slices_Clone_uint64_uint64 #[.slice a ws.length c] w fun u w' => FreshW w w' u ws := by
  refine slices_Clone_uint64_uint64_of ?_
  unfold slices_Clone_uint64_uint64
  cases a with
  | none =>
    have hw : ws = [] := by rcases h with h | ⟨b, o, h, _⟩; simpa using h; cases h
    subst hw
    simp (disch := (first | omega | decide | (simp only [rsD] <;> omega) | fail)) only [↓rsC, rsK, rsL, ↓rsMem_2, tick_eq, tickV_eq, ne_eq, Int.reduceAdd, Int.reduceSub, Int.reduceMul, Int.reduceEq, Int.reduceLT, Int.reduceLE, Int.reduceToNat, Nat.reduceMul, Nat.reduceAdd, Nat.reduceSub, ←decide_not, eq_self]
    exact ⟨by (repeat (first | with_reducible exact Ext.refl _ _ | with_reducible assumption | with_reducible refine Ext.alloc' ?_ _ | with_reducible refine Ext.drew' ?_ | with_reducible refine Ext.set' ?_ ?_ | exact .inr (by first | omega | (simp only [World.size_alloc, World.size_drew, World.size_setCell] <;> omega)) | refine Ext.trans ?_ (by with_reducible assumption))), none, 0, rfl, Nat.le_refl _, fun _ => rfl, .inl rfl, by simp [blkOf]⟩
  | some a =>
    simp (disch := (first | omega | decide | (simp only [rsD] <;> omega) | fail)) only [↓rsC, rsK, rsL, ↓rsMem_2, tick_eq, tickV_eq, ne_eq, Int.reduceAdd, Int.reduceSub, Int.reduceMul, Int.reduceEq, Int.reduceLT, Int.reduceLE, Int.reduceToNat, Nat.reduceMul, Nat.reduceAdd, Nat.reduceSub, ←decide_not, eq_self]
    refine xAppend_own (e := 69) (base := w.heap.size) (xs := []) (news := wrds ws) (z := .int .u64 0) (bytes := 8) (by kernel_rfl) (by kernel_rfl) (by rfl) (World.ownsRow_lit w #[] 0 (Nat.le_refl _) (by decide) (by rfl)) (by simp) (h.ext0 (Ext.alloc _ _ _)) hn (by simp [Value.oneCell']) (by omega) (by omega) (by simp) ?_
    intro v' w' hown hgr
    rw [Nat.zero_add, List.nil_append] at hown
    have F2 : Ext [] w w' := grownBy_new (Ext.alloc [] w _) hgr (fun k hk => by simp [Value.ownBlock] at hk; omega)
    obtain ⟨a', c', rfl, _, hc', hn', _⟩ := own_slice hown
    refine ⟨F2, a', c', rfl, hc', hn', ?_, fun x hx => ?_⟩
    rotate_left
    · cases a' with
      | none => simp [blkOf] at hx
      | some y => simp only [blkOf, List.mem_singleton] at hx; subst hx; exact (hown.lt _ rfl).1
    by_cases hw : ws = []
    · exact .inl hw
    · have hpos : 0 < ws.length := List.length_pos_iff.2 hw
      obtain ⟨g, cap, rest, he, hg, hB, hnc, hm, hcl⟩ := own_open hown hpos
      simp only [Value.slice.injEq, true_and] at he
      exact .inr ⟨g, rest, he.1, hg, hB, by rw [he.2, hcl]; exact Nat.le_refl _⟩
abbrev rsMem_3 := (And.intro @xu8_gtr (And.intro @xu16_gtr (And.intro @xu32_gtr (And.intro @xu64_gtr (And.intro @xi64_gtr (And.intro @bd_165_0 @ln_28))))))
theorem Of_spec (ws : List (BitVec 64)) (a : Option Addr) (c : Nat) (w : World) (hl : ws.length ≤ 8192) (h : RowAt w a (wrds ws)) (hn : a = none → c = 0) :
    Yld Try.prog n_mem_Of #[.slice a ws.length c] w fun u w' => NewOk w w' u ws := by
  refine mem_Of_of ?_
  unfold mem_Of
  simp (disch := (first | omega | decide | (simp only [rsD] <;> omega) | fail)) only [↓rsC, rsK, rsL, ↓rsMem_3, tick_eq, tickV_eq, ne_eq, Int.reduceAdd, Int.reduceSub, Int.reduceMul, Int.reduceEq, Int.reduceLT, Int.reduceLE, Int.reduceToNat, Nat.reduceMul, Nat.reduceAdd, Nat.reduceSub, ←decide_not, eq_self]
  refine slices_Clone_uint64_uint64_call (Yld.mono (Clone_spec ws a c w (by omega) h hn) ?_)
  rintro u w1 ⟨F1, a1, c1, rfl, hc1, hn1, O1, U1⟩
  have z1 := F1.size
  simp (disch := (first | omega | decide | (simp only [rsD] <;> omega) | fail)) only [↓rsC, rsK, rsL, ↓rsMem_3, tick_eq, tickV_eq, ne_eq, Int.reduceAdd, Int.reduceSub, Int.reduceMul, Int.reduceEq, Int.reduceLT, Int.reduceLE, Int.reduceToNat, Nat.reduceMul, Nat.reduceAdd, Nat.reduceSub, ←decide_not, eq_self]
  refine ⟨by (repeat (first | with_reducible exact Ext.refl _ _ | with_reducible assumption | with_reducible refine Ext.alloc' ?_ _ | with_reducible refine Ext.drew' ?_ | with_reducible refine Ext.set' ?_ ?_ | exact .inr (by first | omega | (simp only [World.size_alloc, World.size_drew, World.size_setCell] <;> omega)) | refine Ext.trans ?_ (by with_reducible assumption))), w1.heap.size, a1, c1, rfl, z1, ?_, hl, hc1, hn1, O1.ext (Ext.alloc [] _ _) (by simp), fun hw => ?_, U1⟩
  · simp (disch := (first | omega | decide | (simp only [rsD] <;> omega) | fail)) only [↓rsC, rsK, rsL, ↓rsMem_3, tick_eq, tickV_eq, ne_eq, Int.reduceAdd, Int.reduceSub, Int.reduceMul, Int.reduceEq, Int.reduceLT, Int.reduceLE, Int.reduceToNat, Nat.reduceMul, Nat.reduceAdd, Nat.reduceSub, ←decide_not, eq_self]
  · rcases O1 with e | ⟨gs, rest, rfl, _, hB, _⟩
    · exact absurd e hw
    · have := hB.lt
      simp [blkOf] <;> omega
section
variable {w : World} {base g : Nat} {a : Option Addr} {c : Nat} {ws : List (BitVec 64)}
abbrev rsMem_4 := (And.intro @ld_28 (And.intro @fa_165_0 @ln_28))
theorem Len_spec (h : MemIs w base g a c ws) : Gives Try.prog n_mem_Mem_Len #[ptr g] w (i64 ws.length) := by
  refine mem_Mem_Len_of ?_
  unfold mem_Mem_Len
  simp (disch := (first | omega | decide | (simp only [rsD] <;> omega) | fail)) only [↓rsC, rsK, rsL, ↓rsMem_4, tick_eq, tickV_eq, ne_eq, Int.reduceAdd, Int.reduceSub, Int.reduceMul, Int.reduceEq, Int.reduceLT, Int.reduceLE, Int.reduceToNat, Nat.reduceMul, Nat.reduceAdd, Nat.reduceSub, ←decide_not, h.hd]
  exact ⟨by trivial, by (repeat (first | with_reducible exact Ext.refl _ _ | with_reducible assumption | with_reducible refine Ext.alloc' ?_ _ | with_reducible refine Ext.drew' ?_ | with_reducible refine Ext.set' ?_ ?_ | exact .inr (by first | omega | (simp only [World.size_alloc, World.size_drew, World.size_setCell] <;> omega)) | refine Ext.trans ?_ (by with_reducible assumption)))⟩
abbrev rsMem_5 := (And.intro @xu8_com (And.intro @xu16_com (And.intro @xu32_com (And.intro @xu64_com (And.intro @ld_28 (And.intro @ld_69 (And.intro @fa_165_0 (And.intro @ia_28 @ln_28))))))))
theorem Get_ok (i : Nat) (h : MemIs w base g a c ws) (hi : i < ws.length) : Gives Try.prog n_mem_Mem_Get #[ptr g, i64 i] w (.tuple #[u64 (ws.getD i c0), i64 0]) := by
  refine mem_Mem_Get_of ?_
  unfold mem_Mem_Get
  have hl := h.len
  simp (disch := (first | omega | decide | (simp only [rsD] <;> omega) | fail)) only [↓rsC, rsK, rsL, ↓rsMem_5, tick_eq, tickV_eq, ne_eq, Int.reduceAdd, Int.reduceSub, Int.reduceMul, Int.reduceEq, Int.reduceLT, Int.reduceLE, Int.reduceToNat, Nat.reduceMul, Nat.reduceAdd, Nat.reduceSub, ←decide_not, h.hd]
  refine mem_in_call (Gives.to (min_spec _ _ _ _ (by omega) (by omega)) fun w1 E1 => ?_)
  have z1 := E1.size
  try simp only [World.size_alloc, World.size_setCell, World.size_drew] at z1
  have hv : decide (among (i : Int) 1 ws.length) = true := decide_eq_true (by unfold among; omega)
  have h1 := (h.ext0 E1).hd
  obtain ⟨b, o, rfl, hb, hc⟩ := (h.ext0 E1).own.row.at (i := i) (by simpa using hi)
  simp only [List.getElem_map] at hc
  simp (disch := (first | omega | decide | (simp only [rsD] <;> omega) | fail)) only [↓rsC, rsK, rsL, ↓rsMem_5, tick_eq, tickV_eq, ne_eq, Int.reduceAdd, Int.reduceSub, Int.reduceMul, Int.reduceEq, Int.reduceLT, Int.reduceLE, Int.reduceToNat, Nat.reduceMul, Nat.reduceAdd, Nat.reduceSub, ←decide_not, h.hd, hv, h1, hc]
  refine ⟨?_, by (repeat (first | with_reducible exact Ext.refl _ _ | with_reducible assumption | with_reducible refine Ext.alloc' ?_ _ | with_reducible refine Ext.drew' ?_ | with_reducible refine Ext.set' ?_ ?_ | exact .inr (by first | omega | (simp only [World.size_alloc, World.size_drew, World.size_setCell] <;> omega)) | refine Ext.trans ?_ (by with_reducible assumption)))⟩
  rw [List.getD_eq_getElem?_getD, List.getElem?_eq_getElem hi]
  rfl
abbrev rsMem_6 := (And.intro @xu8_com (And.intro @xu16_com (And.intro @xu32_com (And.intro @xu64_com (And.intro @ld_28 (And.intro @fa_165_0 (And.intro @st_69 (And.intro @ia_28 @ln_28))))))))
theorem Set_ok (i : Nat) (v : BitVec 64) (h : MemIs w base g a c ws) (hi : i < ws.length) : Yld Try.prog n_mem_Mem_Set #[ptr g, i64 i, u64 v] w fun u w' => u = i64 0 ∧ Ext (blkOf a) w w' ∧ MemIs w' base g a c (ws.set i v) := by
  refine mem_Mem_Set_of ?_
  unfold mem_Mem_Set
  have hl := h.len
  simp (disch := (first | omega | decide | (simp only [rsD] <;> omega) | fail)) only [↓rsC, rsK, rsL, ↓rsMem_6, tick_eq, tickV_eq, ne_eq, Int.reduceAdd, Int.reduceSub, Int.reduceMul, Int.reduceEq, Int.reduceLT, Int.reduceLE, Int.reduceToNat, Nat.reduceMul, Nat.reduceAdd, Nat.reduceSub, ←decide_not, h.hd]
  refine mem_in_call (Gives.to (min_spec _ _ _ _ (by omega) (by omega)) fun w1 E1 => ?_)
  have z1 := E1.size
  try simp only [World.size_alloc, World.size_setCell, World.size_drew] at z1
  have hv : decide (among (i : Int) 1 ws.length) = true := decide_eq_true (by unfold among; omega)
  have h1 := h.ext0 E1
  have hw : ws ≠ [] := by intro e; rw [e] at hi; simp at hi
  rcases h1.own with e | ⟨gs, rest, rfl, hb, hB, hc⟩
  · exact absurd e hw
  have c1 : w1.cell? ⟨gs, i, none⟩ = some (u64 ws[i]) := by rw [hB.cell, List.getElem?_append_left (by simpa using hi)]; simp [hi]
  have f1 : w1.frozen? ⟨gs, i, none⟩ = false := hB.frozen
  simp (disch := (first | omega | decide | (simp only [rsD] <;> omega) | fail)) only [↓rsC, rsK, rsL, ↓rsMem_6, tick_eq, tickV_eq, ne_eq, Int.reduceAdd, Int.reduceSub, Int.reduceMul, Int.reduceEq, Int.reduceLT, Int.reduceLE, Int.reduceToNat, Nat.reduceMul, Nat.reduceAdd, Nat.reduceSub, ←decide_not, h.hd, hv, h1.hd, c1, f1]
  have B2 := hB.set (i := i) (v := u64 v)
  rw [List.set_append_left _ _ (by simpa using hi)] at B2
  have e2 : (wrds ws).set i (u64 v) = wrds (ws.set i v) := by simp [wrds, List.map_set]
  rw [e2] at B2
  have F2 : Ext [gs] w1 (w1.setCell ⟨gs, i, none⟩ (u64 v)) := Ext.set
  have hg := h1.apart hw
  refine ⟨by trivial, (E1.more (by simp)).trans F2, h1.lo, ?_, by simpa using h1.len, by simpa using h1.cap, h1.nil, .inr ⟨gs, rest, rfl, hb, B2, by simpa using hc⟩, fun _ => hg, h1.up⟩
  have := h1.hd
  rw [F2.cell (a := ⟨g, 0, none⟩) h1.lt hg]
  simpa using this
abbrev rsMem_7 := (And.intro @ln_70 (And.intro @sh_70 @sm_70))
theorem ClipB_spec {b : Option Addr} {n m : Nat} (hm : n ≤ m) : Gives Try.prog n_slices_Clip_byte_byte #[.slice b n m] w (.slice b n n) := by
  refine slices_Clip_byte_byte_of ?_
  unfold slices_Clip_byte_byte
  simp (disch := (first | omega | decide | (simp only [rsD] <;> omega) | fail)) only [↓rsC, rsK, rsL, ↓rsMem_7, tick_eq, tickV_eq, ne_eq, Int.reduceAdd, Int.reduceSub, Int.reduceMul, Int.reduceEq, Int.reduceLT, Int.reduceLE, Int.reduceToNat, Nat.reduceMul, Nat.reduceAdd, Nat.reduceSub, ←decide_not, eq_self]
  exact ⟨by trivial, by (repeat (first | with_reducible exact Ext.refl _ _ | with_reducible assumption | with_reducible refine Ext.alloc' ?_ _ | with_reducible refine Ext.drew' ?_ | with_reducible refine Ext.set' ?_ ?_ | exact .inr (by first | omega | (simp only [World.size_alloc, World.size_drew, World.size_setCell] <;> omega)) | refine Ext.trans ?_ (by with_reducible assumption)))⟩
abbrev rsMem_8 := (And.intro @ln_28 (And.intro @sh_28 (And.intro @sl_28 (And.intro @sm_28 @sb_28))))
theorem ClipW_spec {b : Option Addr} {n m : Nat} (hm : n ≤ m) : Gives Try.prog n_slices_Clip_uint64_uint64 #[.slice b n m] w (.slice b n n) := by
  refine slices_Clip_uint64_uint64_of ?_
  unfold slices_Clip_uint64_uint64
  simp (disch := (first | omega | decide | (simp only [rsD] <;> omega) | fail)) only [↓rsC, rsK, rsL, ↓rsMem_8, tick_eq, tickV_eq, ne_eq, Int.reduceAdd, Int.reduceSub, Int.reduceMul, Int.reduceEq, Int.reduceLT, Int.reduceLE, Int.reduceToNat, Nat.reduceMul, Nat.reduceAdd, Nat.reduceSub, ←decide_not, eq_self]
  exact ⟨by trivial, by (repeat (first | with_reducible exact Ext.refl _ _ | with_reducible assumption | with_reducible refine Ext.alloc' ?_ _ | with_reducible refine Ext.drew' ?_ | with_reducible refine Ext.set' ?_ ?_ | exact .inr (by first | omega | (simp only [World.size_alloc, World.size_drew, World.size_setCell] <;> omega)) | refine Ext.trans ?_ (by with_reducible assumption)))⟩
/-- what a function hands back: a new row of bytes, and no error -/
def BytesR (w w' : World) (u : Value) (l : List (BitVec 8)) : Prop := Ext [] w w' ∧ ∃ a c, u = .tuple #[.slice a l.length c, i64 0] ∧ l.length ≤ c ∧ RowAt w' a (bys l) ∧ ∀ x, a = some x → w.heap.size ≤ x.block
abbrev rsMem_9 := (And.intro @xu8_add (And.intro @xu8_mul (And.intro @xu8_rem (And.intro @xu8_quo (And.intro @xu8_com (And.intro @xu8_shr (And.intro @xu8_lss (And.intro @xu16_add (And.intro @xu16_mul (And.intro @xu16_rem (And.intro @xu16_quo (And.intro @xu16_com (And.intro @xu16_shr (And.intro @xu16_lss (And.intro @xu32_add (And.intro @xu32_mul 
  (And.intro @xu32_rem (And.intro @xu32_quo (And.intro @xu32_com (And.intro @xu32_shr (And.intro @xu32_lss (And.intro @xu64_add (And.intro @xu64_mul (And.intro @xu64_rem (And.intro @xu64_quo (And.intro @xu64_com (And.intro @xu64_shr (And.intro @xu64_lss (And.intro @xi64_lss (And.intro @xi64_shr (And.intro @ld_28 (And.intro @ld_69 (And.intro @fa_165_0 
  (And.intro @cv_69_5 (And.intro @ia_28 (And.intro @ln_28 (And.intro @bs_70_0 @bs_70_1)))))))))))))))))))))))))))))))))))))
theorem Bytes_ok (at' n : Nat) (h : MemIs w base g a c ws) (hi : at' + n ≤ 8 * ws.length) : Yld Try.prog n_mem_Mem_Bytes #[ptr g, i64 at', i64 n] w fun u w' => BytesR w w' u (bytesW ws at' n) := by
  refine mem_Mem_Bytes_of ?_
  unfold mem_Mem_Bytes
  have hl := h.len
  simp (disch := (first | omega | decide | (simp only [rsD] <;> omega) | fail)) only [↓rsC, rsK, rsL, ↓rsMem_9, tick_eq, tickV_eq, ne_eq, Int.reduceAdd, Int.reduceSub, Int.reduceMul, Int.reduceEq, Int.reduceLT, Int.reduceLE, Int.reduceToNat, Nat.reduceMul, Nat.reduceAdd, Nat.reduceSub, ←decide_not, h.hd]
  refine mem_in_call (Gives.to (min_spec _ _ _ _ (by omega) (by omega)) fun w1 E1 => ?_)
  have z1 := E1.size
  try simp only [World.size_alloc, World.size_setCell, World.size_drew] at z1
  have hv : decide (among (at' : Int) n (ws.length * 8)) = true := decide_eq_true (by unfold among; omega)
  simp (disch := (first | omega | decide | (simp only [rsD] <;> omega) | fail)) only [↓rsC, rsK, rsL, ↓rsMem_9, tick_eq, tickV_eq, ne_eq, Int.reduceAdd, Int.reduceSub, Int.reduceMul, Int.reduceEq, Int.reduceLT, Int.reduceLE, Int.reduceToNat, Nat.reduceMul, Nat.reduceAdd, Nat.reduceSub, ←decide_not, h.hd, hv]
  refine xLoop_r n (fun k vs w' => ∃ u, vs = [u, i64 ((at' : Int) + k)] ∧ Ext [] w w' ∧ w'.ownsRow w.heap.size 5 1 u k (bys (bytesW ws at' k))) ⟨_, by simp, E1, own_nil⟩ ?_ ?_
  · rintro k hk u v1 ⟨s, hu, F1, O1⟩ nxt hnx
    simp only [List.map_cons, List.map_nil, List.cons.injEq, and_true] at hu
    rw [hu.1, hu.2]
    have h1 := h.ext0 F1
    obtain ⟨b, o, rfl, hb, hc⟩ := h1.own.row.at (i := (at' + k) / 8) (by simp; omega)
    simp only [List.getElem_map] at hc
    have t1 : (((at' : Int) + k) / 8).toNat = (at' + k) / 8 := by omega
    have t2 : (8 * (((at' : Int) + k) % 8)).toNat = 8 * ((at' + k) % 8) := by omega
    unfold mem_Mem_Bytes_l1
    have eb : (ws[(at' + k) / 8] >>> (8 * ((at' + k) % 8))).setWidth 8 = byteW ws (at' + k) := by
      unfold byteW
      rw [List.getD_eq_getElem?_getD, List.getElem?_eq_getElem (by omega)]
      rfl
    simp (disch := (first | omega | decide | (simp only [rsD] <;> omega) | fail)) only [↓rsC, rsK, rsL, ↓rsMem_9, tick_eq, tickV_eq, ne_eq, Int.reduceAdd, Int.reduceSub, Int.reduceMul, Int.reduceEq, Int.reduceLT, Int.reduceLE, Int.reduceToNat, Nat.reduceMul, Nat.reduceAdd, Nat.reduceSub, ←decide_not, h.hd, hv, h1.hd, t1, hc, t2, eb]
    refine xAppend_own (e := 5) (base := w.heap.size) (news := bys [byteW ws (at' + k)]) (z := .int .u8 0) (bytes := 1) (by kernel_rfl) (by kernel_rfl) (by rfl) (own_ext O1 (Ext.alloc [] v1 _)) (by rfl) (lit_row v1 [byteW ws (at' + k)]) (by simp) bys_ok (by omega) (by omega) (Nat.le_trans F1.size (Ext.alloc [] v1 _).size) ?_
    intro v' w' hown hgr
    have F2 : Ext [] w w' := grownBy_new (F1.trans (Ext.alloc [] v1 _)) hgr (fun g hg => (O1.lt g hg).1)
    simp (disch := (first | omega | decide | (simp only [rsD] <;> omega) | fail)) only [↓rsC, rsK, rsL, ↓rsMem_9, tick_eq, tickV_eq, ne_eq, Int.reduceAdd, Int.reduceSub, Int.reduceMul, Int.reduceEq, Int.reduceLT, Int.reduceLE, Int.reduceToNat, Nat.reduceMul, Nat.reduceAdd, Nat.reduceSub, ←decide_not, h.hd, hv, h1.hd, t1, hc, t2, eb]
    refine hnx _ _ ⟨v', by simp [Int.add_assoc], F2, ?_⟩
    unfold bytesW
    rw [List.range_succ, List.map_append]
    simpa [bys, bytesW] using hown
  · rintro u v1 ⟨s, hu, F1, O1⟩ nxt
    simp only [List.map_cons, List.map_nil, List.cons.injEq, and_true] at hu
    rw [hu.1, hu.2]
    obtain ⟨a2, c2, rfl, hl2, hc2, hn2, R2⟩ := own_slice O1
    unfold mem_Mem_Bytes_l1
    simp (disch := (first | omega | decide | (simp only [rsD] <;> omega) | fail)) only [↓rsC, rsK, rsL, ↓rsMem_9, tick_eq, tickV_eq, ne_eq, Int.reduceAdd, Int.reduceSub, Int.reduceMul, Int.reduceEq, Int.reduceLT, Int.reduceLE, Int.reduceToNat, Nat.reduceMul, Nat.reduceAdd, Nat.reduceSub, ←decide_not, h.hd, hv]
    refine slices_Clip_byte_byte_call (Gives.to (ClipB_spec hc2) fun w2 F2 => ?_)
    simp (disch := (first | omega | decide | (simp only [rsD] <;> omega) | fail)) only [↓rsC, rsK, rsL, ↓rsMem_9, tick_eq, tickV_eq, ne_eq, Int.reduceAdd, Int.reduceSub, Int.reduceMul, Int.reduceEq, Int.reduceLT, Int.reduceLE, Int.reduceToNat, Nat.reduceMul, Nat.reduceAdd, Nat.reduceSub, ←decide_not, h.hd, hv]
    exact ⟨F1.trans F2, a2, n, by rw [bytesW_length], by rw [bytesW_length]; omega, R2.ext0 F2, fun x hx => by subst hx; exact (O1.lt x.block rfl).1⟩
theorem Words_spec (h : MemIs w base g a c ws) : Yld Try.prog n_mem_Mem_Words #[ptr g] w fun u w' => FreshW w w' u ws := by
  refine mem_Mem_Words_of ?_
  unfold mem_Mem_Words
  have hl := h.len
  simp (disch := (first | omega | decide | (simp only [rsD] <;> omega) | fail)) only [↓rsC, rsK, rsL, ↓ld_28, ↓fa_165_0, tick_eq, tickV_eq, ne_eq, Int.reduceAdd, Int.reduceSub, Int.reduceMul, Int.reduceEq, Int.reduceLT, Int.reduceLE, Int.reduceToNat, Nat.reduceMul, Nat.reduceAdd, Nat.reduceSub, ←decide_not, h.hd]
  refine slices_Clone_uint64_uint64_call (Yld.mono (Clone_spec ws a c w (by omega) h.own.row h.nil) ?_)
  rintro u w1 ⟨F1, a1, c1, rfl, hc1, hn1, O1, U1⟩
  simp (disch := (first | omega | decide | (simp only [rsD] <;> omega) | fail)) only [↓rsC, rsK, rsL, ↓ld_28, ↓fa_165_0, tick_eq, tickV_eq, ne_eq, Int.reduceAdd, Int.reduceSub, Int.reduceMul, Int.reduceEq, Int.reduceLT, Int.reduceLE, Int.reduceToNat, Nat.reduceMul, Nat.reduceAdd, Nat.reduceSub, ←decide_not, h.hd]
  refine slices_Clip_uint64_uint64_call (Gives.to (ClipW_spec hc1) fun w2 F2 => ?_)
  refine ⟨F1.trans F2, a1, ws.length, rfl, Nat.le_refl _, fun e => by have := hn1 e; omega, ?_, U1⟩
  rcases O1.ext F2 (by simp) with e | ⟨gs, rest, rfl, hb, hB, hc⟩
  · exact .inl e
  · exact .inr ⟨gs, rest, rfl, hb, hB, by omega⟩
abbrev rsMem_11 := (And.intro @xu8_add (And.intro @xu8_mul (And.intro @xu8_rem (And.intro @xu8_quo (And.intro @xu8_or (And.intro @xu8_andNot (And.intro @xu8_com (And.intro @xu8_shl (And.intro @xu8_lss (And.intro @xu16_add (And.intro @xu16_mul (And.intro @xu16_rem (And.intro @xu16_quo (And.intro @xu16_or (And.intro @xu16_andNot (And.intro @xu16_com 
  (And.intro @xu16_shl (And.intro @xu16_lss (And.intro @xu32_add (And.intro @xu32_mul (And.intro @xu32_rem (And.intro @xu32_quo (And.intro @xu32_or (And.intro @xu32_andNot (And.intro @xu32_com (And.intro @xu32_shl (And.intro @xu32_lss (And.intro @xu64_add (And.intro @xu64_mul (And.intro @xu64_rem (And.intro @xu64_quo (And.intro @xu64_or 
  (And.intro @xu64_andNot (And.intro @xu64_com (And.intro @xu64_shl (And.intro @xu64_lss (And.intro @xi64_lss (And.intro @xi64_or (And.intro @xi64_shl (And.intro @ld_5 (And.intro @ld_28 (And.intro @ld_69 (And.intro @fa_165_0 (And.intro @st_69 (And.intro @cv_5_69 (And.intro @ia_28 (And.intro @ia_70 (And.intro @ln_28 @ln_70))))))))))))))))))))))))))))))))))))))))))))))))
theorem SetBytes_ok (at' : Nat) (l : List (BitVec 8)) (ab : Option Addr) (cb : Nat) (h : MemIs w base g a c ws) (hb : RowAt w ab (bys l)) (hap : ws ≠ [] → l ≠ [] → ∀ b o, ab = some ⟨b, o, none⟩ → b ∉ blkOf a) (hi : at' + l.length ≤ 8 * ws.length) :
    Yld Try.prog n_mem_Mem_SetBytes #[ptr g, i64 at', .slice ab l.length cb] w fun u w' => u = i64 0 ∧ Ext (blkOf a) w w' ∧ MemIs w' base g a c (setBytesW ws at' l) := by
  refine mem_Mem_SetBytes_of ?_
  unfold mem_Mem_SetBytes
  have hl := h.len
  simp (disch := (first | omega | decide | (simp only [rsD] <;> omega) | fail)) only [↓rsC, rsK, rsL, ↓rsMem_11, tick_eq, tickV_eq, ne_eq, Int.reduceAdd, Int.reduceSub, Int.reduceMul, Int.reduceEq, Int.reduceLT, Int.reduceLE, Int.reduceToNat, Nat.reduceMul, Nat.reduceAdd, Nat.reduceSub, ←decide_not, h.hd]
  refine mem_in_call (Gives.to (min_spec _ _ _ _ (by omega) (by omega)) fun w1 E1 => ?_)
  have z1 := E1.size
  try simp only [World.size_alloc, World.size_setCell, World.size_drew] at z1
  have hv : decide (among (at' : Int) l.length (ws.length * 8)) = true := decide_eq_true (by unfold among; omega)
  simp (disch := (first | omega | decide | (simp only [rsD] <;> omega) | fail)) only [↓rsC, rsK, rsL, ↓rsMem_11, tick_eq, tickV_eq, ne_eq, Int.reduceAdd, Int.reduceSub, Int.reduceMul, Int.reduceEq, Int.reduceLT, Int.reduceLE, Int.reduceToNat, Nat.reduceMul, Nat.reduceAdd, Nat.reduceSub, ←decide_not, h.hd, hv]
  refine xLoop_n l.length (fun k => [i64 k]) (fun k w' => Ext (blkOf a) w w' ∧ MemIs w' base g a c (putBs ws at' l k)) ?_ ⟨E1.more (by simp), h.ext0 E1⟩ ?_ ?_
  · rfl
  · rintro k hk u v1 hu ⟨F1, M1⟩ nxt hnx
    simp only [List.map_cons, List.map_nil, List.cons.injEq, and_true] at hu
    rw [hu]
    have hw : ws ≠ [] := by intro e; rw [e, List.length_nil] at hi; omega
    have hlen : (putBs ws at' l k).length = ws.length := putBs_length k
    have hw' : putBs ws at' l k ≠ [] := by intro e; rw [e] at hlen; exact hw (List.eq_nil_of_length_eq_zero (by simpa using hlen.symm))
    have hj : (at' + k) / 8 < (putBs ws at' l k).length := by omega
    obtain ⟨b, o, hab, hbl, hcb⟩ := (hb.ext F1 (hap hw (by intro e; rw [e] at hk; cases hk))).at (i := k) (by simpa using hk)
    simp only [List.getElem_map] at hcb
    have hgn := M1.apart hw'
    rcases M1.own with e | ⟨gs, rest, rfl, hbs, hB, hc⟩
    · exact absurd e hw'
    subst hab
    have c1 : v1.cell? ⟨gs, (at' + k) / 8, none⟩ = some (u64 ((putBs ws at' l k).getD ((at' + k) / 8) c0)) := by
      rw [hB.cell, List.getElem?_append_left (by simpa using hj), List.getElem?_map, List.getD_eq_getElem?_getD]
      simp [hj]
    have f1 : v1.frozen? ⟨gs, (at' + k) / 8, none⟩ = false := hB.frozen
    have t1 : (((at' : Int) + k) / 8).toNat = (at' + k) / 8 := by omega
    have t2 : (8 * (((at' : Int) + k) % 8)).toNat = 8 * ((at' + k) % 8) := by omega
    unfold mem_Mem_SetBytes_l1
    have hm1 := M1.hd
    rw [hlen] at hm1
    simp (disch := (first | omega | decide | (simp only [rsD] <;> omega) | fail)) only [↓rsC, rsK, rsL, ↓rsMem_11, tick_eq, tickV_eq, ne_eq, Int.reduceAdd, Int.reduceSub, Int.reduceMul, Int.reduceEq, Int.reduceLT, Int.reduceLE, Int.reduceToNat, Nat.reduceMul, Nat.reduceAdd, Nat.reduceSub, ←decide_not, h.hd, hv, hcb, hm1, t1]
    refine xDraw_ext [] [] ?_
    have hlt := hB.lt
    simp (disch := (first | omega | decide | (simp only [rsD] <;> omega) | fail)) only [↓rsC, rsK, rsL, ↓rsMem_11, tick_eq, tickV_eq, ne_eq, Int.reduceAdd, Int.reduceSub, Int.reduceMul, Int.reduceEq, Int.reduceLT, Int.reduceLE, Int.reduceToNat, Nat.reduceMul, Nat.reduceAdd, Nat.reduceSub, ←decide_not, h.hd, hv, hcb, hm1, t1, c1, t2]
    refine xEnd_i fun v2 hw2 => ?_
    have E2 : Ext [] v1 v2 := (Ext.drew [] v1).trans hw2.ext
    have B2 := hB.ext E2 (by simp)
    have c2 : v2.cell? ⟨gs, (at' + k) / 8, none⟩ = some (u64 ((putBs ws at' l k).getD ((at' + k) / 8) c0)) := by rw [E2.cell (a := ⟨gs, (at' + k) / 8, none⟩) hlt (by simp)]; exact c1
    have f2 : v2.frozen? ⟨gs, (at' + k) / 8, none⟩ = false := B2.frozen
    simp (disch := (first | omega | decide | (simp only [rsD] <;> omega) | fail)) only [↓rsC, rsK, rsL, ↓rsMem_11, tick_eq, tickV_eq, ne_eq, Int.reduceAdd, Int.reduceSub, Int.reduceMul, Int.reduceEq, Int.reduceLT, Int.reduceLE, Int.reduceToNat, Nat.reduceMul, Nat.reduceAdd, Nat.reduceSub, ←decide_not, h.hd, hv, hcb, hm1, t1, c1, t2, c2, f2]
    have eput : putB (putBs ws at' l k) (at' + k) l[k] = putBs ws at' l (k + 1) := by
      rw [putBs, List.getD_eq_getElem?_getD, List.getElem?_eq_getElem hk]; rfl
    have B3 := B2.set (i := (at' + k) / 8) (v := u64 ((putBs ws at' l k).getD ((at' + k) / 8) c0 &&& ~~~(BitVec.ofNat 64 255 <<< (8 * ((at' + k) % 8))) ||| (l[k].setWidth 64 <<< (8 * ((at' + k) % 8)))))
    rw [List.set_append_left _ _ (by simpa using hj)] at B3
    have e2 : ∀ y, (wrds (putBs ws at' l k)).set ((at' + k) / 8) (u64 y) = wrds ((putBs ws at' l k).set ((at' + k) / 8) y) := fun y => by simp [wrds, List.map_set]
    rw [e2] at B3
    have e3 : (putBs ws at' l k).set ((at' + k) / 8) ((putBs ws at' l k).getD ((at' + k) / 8) c0 &&& ~~~(BitVec.ofNat 64 255 <<< (8 * ((at' + k) % 8))) ||| (l[k].setWidth 64 <<< (8 * ((at' + k) % 8)))) = putBs ws at' l (k + 1) := eput
    rw [e3] at B3
    have F3 : Ext [gs] v2 (v2.setCell ⟨gs, (at' + k) / 8, none⟩ (u64 ((putBs ws at' l k).getD ((at' + k) / 8) c0 &&& ~~~(BitVec.ofNat 64 255 <<< (8 * ((at' + k) % 8))) ||| (l[k].setWidth 64 <<< (8 * ((at' + k) % 8)))))) := Ext.set
    have hlen2 : (putBs ws at' l (k + 1)).length = ws.length := putBs_length (k + 1)
    refine hnx _ ⟨(F1.trans (E2.more (by simp))).trans F3, M1.lo, ?_, by rw [hlen2]; exact hl, by rw [hlen2]; exact h.cap, M1.nil, .inr ⟨gs, rest, rfl, hbs, B3, ?_⟩, fun _ => hgn, M1.up⟩
    · rw [F3.cell (a := ⟨g, 0, none⟩) (Nat.lt_of_lt_of_le M1.lt E2.size) hgn, E2.cell (a := ⟨g, 0, none⟩) M1.lt (by simp), hlen2]
      exact hm1
    · simp only [List.length_append, List.length_map, hlen] at hc
      simp only [List.length_append, List.length_map, hlen2]
      exact hc
  · rintro u v1 hu ⟨F1, M1⟩ nxt
    simp only [List.map_cons, List.map_nil, List.cons.injEq, and_true] at hu
    rw [hu]
    unfold mem_Mem_SetBytes_l1
    simp (disch := (first | omega | decide | (simp only [rsD] <;> omega) | fail)) only [↓rsC, rsK, rsL, ↓rsMem_11, tick_eq, tickV_eq, ne_eq, Int.reduceAdd, Int.reduceSub, Int.reduceMul, Int.reduceEq, Int.reduceLT, Int.reduceLE, Int.reduceToNat, Nat.reduceMul, Nat.reduceAdd, Nat.reduceSub, ←decide_not, h.hd, hv]
    exact ⟨by trivial, F1, M1⟩
end
end Go.Proofs.Ytdpmidgeipibbaa
end
section
set_option linter.unusedVariables false
set_option linter.unusedSimpArgs false
set_option maxHeartbeats 4000000
namespace Go.Proofs.Ytdpmidgeipibbaa
open Go.Sh Go.RowKit

abbrev OwnU (w : World) (v : Value) (l : List (BitVec 64)) : Prop := Own w 69 1 v l.length (wrds l)
/-- one word of an own row: what a load and a store need -/
theorem OwnU.at {w : World} {v : Value} {l : List (BitVec 64)} {i : Nat} (h : OwnU w v l) (hi : i < l.length) (x : BitVec 64) :
    ∃ g cap, v = .slice (some ⟨g, 0, none⟩) l.length cap ∧ w.cell? ⟨g, i, none⟩ = some (u64 l[i]) ∧ w.frozen? ⟨g, i, none⟩ = false ∧ OwnU (w.setCell ⟨g, i, none⟩ (u64 x)) v (l.set i x) ∧ Ext (blk v) w (w.setCell ⟨g, i, none⟩ (u64 x)) ∧ g < w.heap.size := by
  obtain ⟨g, cap, rest, rfl, hB, hnc, hm, hl⟩ := h.open (by omega)
  have c1 : w.cell? ⟨g, i, none⟩ = some (u64 l[i]) := by rw [hB.cell, List.getElem?_append_left (by simpa using hi)]; simp [hi]
  have B2 := hB.set (i := i) (v := u64 x)
  rw [List.set_append_left _ _ (by simpa using hi)] at B2
  have e2 : (wrds l).set i (u64 x) = wrds (l.set i x) := by simp [wrds, List.map_set]
  rw [e2] at B2
  refine ⟨g, cap, rfl, c1, hB.frozen, ?_, (Ext.set (w := w) (b := g)).more (by simp [blk, Value.ownBlock]), hB.lt⟩
  have := Own.close (n := l.length) (s := 1) B2 hnc hm (by simpa using hl) (by simp)
  show Own _ _ _ _ (l.set i x).length _
  rw [List.length_set]
  exact this
end Go.Proofs.Ytdpmidgeipibbaa
end
section
set_option linter.unusedVariables false
set_option linter.unusedSimpArgs false
set_option maxHeartbeats 4000000
namespace Go.Proofs.Ytdpmidgeipibbaa
open Go.Sh Go.RowKit

def szW (x : BitVec 64) : Nat := 1 + (uP x).toNat + ((uB x).toNat + 7) / 8
def okW (x : BitVec 64) : Prop := isHead x ∧ uM x = false
instance (x : BitVec 64) : Decidable (okW x) := by unfold okW isHead rightP; infer_instance
theorem okW_size {x : BitVec 64} (h : okW x) : sizeV (vP x) (vB x) (vM x) (vT x) = szW x ∧ unErr x = 0 ∧ vM x = false ∧ 1 ≤ szW x ∧ szW x ≤ 193 := by
  obtain ⟨h1, h2⟩ := h
  have h3 := h1.1
  have h4 := h3
  rw [h2, right_f] at h4
  refine ⟨?_, if_pos h1, by simp [vM, h1, h2], by unfold szW; omega, by unfold szW; omega⟩
  simp only [sizeV, vP, vB, vM, vT, if_pos h1, h2, and_true]
  rw [h2] at h3
  rw [if_pos h3]
  unfold szW
  omega
theorem okW_not {x : BitVec 64} (h : ¬ okW x) (he : unErr x = 0) : vM x = true := by
  have h1 : isHead x := by
    by_cases h1 : isHead x
    · exact h1
    · simp [unErr, h1] at he
  have : uM x = true := by
    cases hm : uM x
    · exact absurd ⟨h1, hm⟩ h
    · rfl
  simp [vM, h1, this]
theorem okW_pack {p b : Int} (h : rightP p b false 0) : okW (packW p b false 0) ∧ szW (packW p b false 0) = 1 + p.toNat + (b.toNat + 7) / 8 := by
  obtain ⟨h1, h2, h3, h4⟩ := un_pack h
  exact ⟨⟨un_pack_is h, h3⟩, by unfold szW; rw [h1, h2]⟩
def wat (ws : List (BitVec 64)) (i : Nat) : BitVec 64 := ws.getD i c0
def walk (ws : List (BitVec 64)) (t : Nat) : Nat → Nat → Option (List Nat)
  | 0, _ => some []
  | f + 1, o => if o < t then (if okW (wat ws o) ∧ o + szW (wat ws o) ≤ t then (walk ws t f (o + szW (wat ws o))).map (o :: ·) else none) else some []
def objs (ws : List (BitVec 64)) (b t : Nat) : Option (List Nat) := walk ws t t b
inductive Objs (ws : List (BitVec 64)) (t : Nat) : Nat → List Nat → Prop
  | nil : Objs ws t t []
  | cons {o : Nat} {l : List Nat} : okW (wat ws o) → o + szW (wat ws o) ≤ t → Objs ws t (o + szW (wat ws o)) l → Objs ws t o (o :: l)
theorem szW_pos {x : BitVec 64} : 1 ≤ szW x := by unfold szW; omega
theorem Objs.le {ws : List (BitVec 64)} {t o : Nat} {l : List Nat} (h : Objs ws t o l) : o ≤ t := by
  induction h with
  | nil => exact Nat.le_refl _
  | cons _ h2 _ _ => omega
theorem Objs.walk {ws : List (BitVec 64)} {t o : Nat} {l : List Nat} (h : Objs ws t o l) : ∀ f, t ≤ o + f → Go.Proofs.Ytdpmidgeipibbaa.walk ws t f o = some l := by
  induction h with
  | nil =>
    intro f hf
    cases f with
    | zero => rfl
    | succ f => unfold Go.Proofs.Ytdpmidgeipibbaa.walk; rw [if_neg (Nat.lt_irrefl _)]
  | @cons o l h1 h2 h3 ih =>
    intro f hf
    have hp := szW_pos (x := wat ws o)
    have hle := h3.le
    cases f with
    | zero => omega
    | succ f => unfold Go.Proofs.Ytdpmidgeipibbaa.walk; rw [if_pos (by omega), if_pos ⟨h1, h2⟩, ih f (by omega)]; rfl
theorem walk_objs {ws : List (BitVec 64)} {t : Nat} : ∀ (f o : Nat) (l : List Nat), t ≤ o + f → o ≤ t → walk ws t f o = some l → Objs ws t o l := by
  intro f
  induction f with
  | zero => intro o l h1 h2 h; have : o = t := by omega
            subst this; simp only [walk, Option.some.injEq] at h; subst h; exact .nil
  | succ f ih =>
    intro o l h1 h2 h
    unfold walk at h
    split at h
    · split at h
      · rename_i hk
        simp only [Option.map_eq_some_iff] at h
        obtain ⟨r, hr, rfl⟩ := h
        have hp := szW_pos (x := wat ws o)
        exact .cons hk.1 hk.2 (ih _ _ (by omega) hk.2 hr)
      · cases h
    · have : o = t := by omega
      subst this; simp only [Option.some.injEq] at h; subst h; exact .nil
theorem objs_some {ws : List (BitVec 64)} {b t : Nat} {l : List Nat} (hb : b ≤ t) : objs ws b t = some l ↔ Objs ws t b l := ⟨walk_objs _ _ _ (by omega) hb, fun h => h.walk _ (by omega)⟩
theorem Objs.more {ws ws' : List (BitVec 64)} {t n o : Nat} {l : List Nat} (h : Objs ws t o l) (hs : ∀ i, i < t → wat ws' i = wat ws i) (hk : okW (wat ws' t)) (hn : n = szW (wat ws' t)) : Objs ws' (t + n) o (l ++ [t]) := by
  induction h with
  | nil => subst hn; exact .cons hk (Nat.le_refl _) .nil
  | @cons o l h1 h2 h3 ih =>
    have hp := szW_pos (x := wat ws o)
    have hle := h3.le
    have e := hs o (by omega)
    rw [← e] at h1 h2 ih
    exact .cons h1 (by omega) ih
/-- nought from a place on -/
def zr (ws : List (BitVec 64)) (o n : Nat) : List (BitVec 64) := ws.mapIdx fun i x => if o ≤ i ∧ i < o + n then c0 else x
@[simp] theorem zr_length {ws : List (BitVec 64)} {o n : Nat} : (zr ws o n).length = ws.length := by simp [zr]
theorem zr_zero {ws : List (BitVec 64)} {o : Nat} : zr ws o 0 = ws := by
  apply List.ext_getElem?
  intro i
  simp only [zr, List.getElem?_mapIdx]
  cases ws[i]? <;> simp
  intro h1 h2
  omega
theorem zr_set {ws : List (BitVec 64)} {o n : Nat} : (zr ws o n).set (o + n) c0 = zr ws o (n + 1) := by
  apply List.ext_getElem?
  intro i
  simp only [zr, List.getElem?_set, List.getElem?_mapIdx, List.length_mapIdx]
  by_cases h : o + n = i
  · subst h
    by_cases h2 : o + n < ws.length
    · simp [h2]
    · simp [h2]
  · rw [if_neg h]
    cases ws[i]? with
    | none => rfl
    | some x =>
      simp only [Option.map_some, Option.some.injEq]
      by_cases h3 : o ≤ i ∧ i < o + n
      · rw [if_pos h3, if_pos (by omega)]
      · rw [if_neg h3, if_neg (by omega)]
def alW (ws : List (BitVec 64)) (t : Nat) (x : BitVec 64) (n : Nat) : List (BitVec 64) := zr (ws.set t x) (t + 1) (n - 1)
@[simp] theorem alW_length {ws : List (BitVec 64)} {t n : Nat} {x : BitVec 64} : (alW ws t x n).length = ws.length := by simp [alW]
theorem wat_zr {ws : List (BitVec 64)} {o n i : Nat} : wat (zr ws o n) i = if o ≤ i ∧ i < o + n then c0 else wat ws i := by
  unfold wat zr
  simp only [List.getD_eq_getElem?_getD, List.getElem?_mapIdx]
  cases ws[i]? with
  | none => simp
  | some x => simp
theorem wat_set {ws : List (BitVec 64)} {t i : Nat} {x : BitVec 64} (ht : t < ws.length) : wat (ws.set t x) i = if i = t then x else wat ws i := by
  unfold wat
  simp only [List.getD_eq_getElem?_getD, List.getElem?_set]
  by_cases h : t = i
  · subst h; simp [ht]
  · rw [if_neg h, if_neg (fun e => h e.symm)]
theorem wat_alW {ws : List (BitVec 64)} {t n i : Nat} {x : BitVec 64} (ht : t < ws.length) : wat (alW ws t x n) i = if i = t then x else if t + 1 ≤ i ∧ i < t + 1 + (n - 1) then c0 else wat ws i := by
  unfold alW
  rw [wat_zr, wat_set ht]
  by_cases h : i = t
  · subst h; rw [if_neg (by omega)]; simp
  · simp [h]
theorem Objs.alloc {ws : List (BitVec 64)} {b t n : Nat} {l : List Nat} {p bb : Int} (h : Objs ws t b l) (ht : t < ws.length) (hr : rightP p bb false 0) (hn : n = szW (packW p bb false 0)) : Objs (alW ws t (packW p bb false 0) n) (t + n) b (l ++ [t]) := by
  have e : wat (alW ws t (packW p bb false 0) n) t = packW p bb false 0 := by rw [wat_alW ht, if_pos rfl]
  refine h.more (fun i hi => ?_) (by rw [e]; exact (okW_pack hr).1) (by rw [e]; exact hn)
  rw [wat_alW ht, if_neg (by omega), if_neg (by omega)]
/-! rows of numbers and of words -/
abbrev nums (l : List Nat) : List Value := l.map fun (i : Nat) => i64 (i : Int)
abbrev OwnI (w : World) (v : Value) (l : List Nat) : Prop := Own w 3 1 v l.length (nums l)
theorem appIl {w : World} {K : K1} {v : Value} {l : List Nat} {o g : Nat} {cs : List Value} (hO : OwnI w v l) (hcs : cs = [i64 (o : Int)]) (hl : l.length ≤ 100000)
    (hK : ∀ v' w', OwnI w' v' (l ++ [o]) → Stp (blk v) (blk v') w w' → K v' w') (hg : g = w.heap.size := by first | rfl | (simp only [World.size_alloc, World.size_drew, World.size_setCell] <;> omega)) : xBuiltin Try.prog .append #[66, 66] 66 [false, false] [v, .slice (some ⟨g, 0, none⟩) 1 1] (w.alloc (.cells cs.toArray 3)) K := by
  subst hcs hg
  refine xAppL (bytes := 8) (z := .int .i64 0) (by kernel_rfl) (by kernel_rfl) (by rfl) (by decide) hO (by simp) (by simp [Value.oneCell']) (by omega) (by omega) fun v' w' h1 h2 => hK v' w' ?_ h2
  show Own w' 3 1 v' (l ++ [o]).length (nums (l ++ [o]))
  rw [List.length_append, nums, List.map_append]
  exact h1
end Go.Proofs.Ytdpmidgeipibbaa
end
section
set_option linter.unusedVariables false
set_option linter.unusedSimpArgs false
set_option maxHeartbeats 4000000
namespace Go.Proofs.Ytdpmidgeipibbaa
open Go.Sh Go.RowKit Go.ChangeShapes Go.WideShapes Go.ChangeAt

structure GN where
  p : List Int
  pa : Option Addr
  pc : Nat
  d : List (BitVec 8)
  da : Option Addr
  dc : Nat
structure GR where
  s : List (BitVec 8)
  to : Int
abbrev gnC (x : GN) : List Value := [.slice x.pa x.p.length x.pc, .slice x.da x.d.length x.dc]
abbrev grC (r : GR) : List Value := [.string (strOf r.s), i64 r.to]
abbrev its (l : List Int) : List Value := l.map fun i => i64 i
structure NOk (w : World) (x : GN) : Prop where
  pr : RowAt w x.pa (its x.p)
  pl : x.p.length ≤ x.pc
  pn : x.pa = none → x.pc = 0
  dr : RowAt w x.da (bys x.d)
  dl : x.d.length ≤ x.dc
  dn : x.da = none → x.dc = 0
theorem NOk.ext0 {w w' : World} {x : GN} (h : NOk w x) (hx : Ext [] w w') : NOk w' x := ⟨h.pr.ext0 hx, h.pl, h.pn, h.dr.ext0 hx, h.dl, h.dn⟩
/-- a graph's two rows -/
structure GIs (w : World) (na : Option Addr) (nc : Nat) (ra : Option Addr) (rc : Nat) (ns : List GN) (rs : List GR) : Prop where
  nr : RowAt w na (ns.flatMap gnC)
  nl : ns.length ≤ nc
  nn : na = none → nc = 0
  rr : RowAt w ra (rs.flatMap grC)
  rl : rs.length ≤ rc
  rn : ra = none → rc = 0
  ok : ∀ x ∈ ns, NOk w x
theorem GIs.ext0 {w w' : World} {na ra : Option Addr} {nc rc : Nat} {ns : List GN} {rs : List GR} (h : GIs w na nc ra rc ns rs) (hx : Ext [] w w') : GIs w' na nc ra rc ns rs :=
  ⟨h.nr.ext0 hx, h.nl, h.nn, h.rr.ext0 hx, h.rl, h.rn, fun x hm => (h.ok x hm).ext0 hx⟩
abbrev gV (na : Option Addr) (nc : Nat) (ra : Option Addr) (rc : Nat) (ns : List GN) (rs : List GR) : Value := .agg #[.slice na ns.length nc, .slice ra rs.length rc]
theorem pair_len {α : Type} {f : α → List Value} (hf : ∀ x, (f x).length = 2) (l : List α) : (l.flatMap f).length = l.length * 2 := by
  induction l with
  | nil => rfl
  | cons x l ih => rw [List.flatMap_cons, List.length_append, ih, List.length_cons, hf]; omega
theorem pair_cell {α : Type} {f : α → List Value} (hf : ∀ x, (f x).length = 2) : ∀ (l : List α) (k : Nat) (h : k < l.length) (j : Nat), j < 2 → (l.flatMap f)[k * 2 + j]? = (f l[k])[j]? := by
  intro l
  induction l with
  | nil => intro k h; simp at h
  | cons x l ih =>
    intro k h j hj
    rw [List.flatMap_cons]
    cases k with
    | zero => rw [List.getElem?_append_left (by rw [hf]; omega)]; simp
    | succ k =>
      rw [List.getElem?_append_right (by rw [hf]; omega), show (k + 1) * 2 + j - (f x).length = k * 2 + j by rw [hf]; omega]
      simpa using ih k (by simpa using h) j hj
theorem pair_at {α : Type} {f : α → List Value} (hf : ∀ x, (f x).length = 2) {w : World} {l : List α} {a : Option Addr} {k : Nat} (h : RowAt w a (l.flatMap f)) (hk : k < l.length) :
    ∃ b o, a = some ⟨b, o, none⟩ ∧ b < w.heap.size ∧ (∀ x, (f l[k])[0]? = some x → w.cell? ⟨b, o + k * 2, none⟩ = some x) ∧ ∀ x, (f l[k])[1]? = some x → w.cell? ⟨b, o + k * 2 + 1, none⟩ = some x := by
  obtain ⟨b, o, rfl, hb, hc⟩ := h.get (by intro e; have := congrArg List.length e; rw [pair_len hf] at this; simp only [List.length_nil] at this; omega)
  refine ⟨b, o, rfl, hb, fun x hx => ?_, fun x hx => ?_⟩
  · have := hc (k * 2 + 0) x ((pair_cell hf l k hk 0 (by omega)).trans hx); simpa using this
  · have := hc (k * 2 + 1) x ((pair_cell hf l k hk 1 (by omega)).trans hx); rw [Nat.add_assoc]; exact this
theorem gn_at {w : World} {l : List GN} {a : Option Addr} {k : Nat} (h : RowAt w a (l.flatMap gnC)) (hk : k < l.length) :
    ∃ b o, a = some ⟨b, o, none⟩ ∧ b < w.heap.size ∧ w.cell? ⟨b, o + k * 2, none⟩ = some (.slice l[k].pa l[k].p.length l[k].pc) ∧ w.cell? ⟨b, o + k * 2 + 1, none⟩ = some (.slice l[k].da l[k].d.length l[k].dc) := by
  obtain ⟨b, o, h1, h2, h3, h4⟩ := pair_at (fun _ => rfl) h hk
  exact ⟨b, o, h1, h2, h3 _ rfl, h4 _ rfl⟩
theorem gr_at {w : World} {l : List GR} {a : Option Addr} {k : Nat} (h : RowAt w a (l.flatMap grC)) (hk : k < l.length) :
    ∃ b o, a = some ⟨b, o, none⟩ ∧ b < w.heap.size ∧ w.cell? ⟨b, o + k * 2, none⟩ = some (.string (strOf l[k].s)) ∧ w.cell? ⟨b, o + k * 2 + 1, none⟩ = some (i64 l[k].to) := by
  obtain ⟨b, o, h1, h2, h3, h4⟩ := pair_at (fun _ => rfl) h hk
  exact ⟨b, o, h1, h2, h3 _ rfl, h4 _ rfl⟩
theorem list2 {α : Type} {l : List α} (h : l.length = 2) : ∃ a b, l = [a, b] := by
  match l, h with
  | [a, b], _ => exact ⟨a, b, rfl⟩
theorem gn_cells {W : World} {cs : List Value} (hl : cs.length = 2) (hc : ∀ (i : Nat) (d : Leaf) (c : Value), [Leaf.row .i64, .row .u8][i]? = some d → cs[i]? = some c → leafOk W d c) : ∃ x : GN, cs = gnC x ∧ NOk W x := by
  obtain ⟨c0, c1, rfl⟩ := list2 hl
  obtain ⟨a, n, c, zs, rfl, q1, q2, q3, q4, q5, q6⟩ := hc 0 _ _ rfl rfl
  obtain ⟨a', n', c', zs', rfl, r1, r2, r3, r4, r5, r6⟩ := hc 1 _ _ rfl rfl
  have B := bytesArg r1 r2 r3 r4 r5 r6
  refine ⟨⟨zs, a, c, zs'.map (BitVec.ofInt 8), a', c'⟩, ?_, ⟨q5, by simpa using (q1 ▸ q2), q4, B.row, by rw [← B.len]; exact r2, r4⟩⟩
  simp only [gnC]
  rw [← B.len, q1]
theorem gr_cells {W : World} {cs : List Value} (hl : cs.length = 2) (hc : ∀ (i : Nat) (d : Leaf) (c : Value), [Leaf.str, .int .i64][i]? = some d → cs[i]? = some c → leafOk W d c) : ∃ x : GR, cs = grC x := by
  obtain ⟨c0, c1, rfl⟩ := list2 hl
  obtain ⟨s, rfl⟩ := hc 0 _ _ rfl rfl
  obtain ⟨z, rfl, _⟩ := hc 1 _ _ rfl rfl
  have e : Go.Sh.strOf (s.data.toList.map UInt8.toBitVec) = s := by
    cases s with | mk d =>
    unfold Go.Sh.strOf
    congr 1
    rw [List.map_map]
    have : ∀ l : List UInt8, l.map (UInt8.ofBitVec ∘ UInt8.toBitVec) = l := fun l => (List.map_congr_left (g := id) fun x _ => rfl).trans (List.map_id _)
    rw [this]
  exact ⟨⟨s.data.toList.map UInt8.toBitVec, z⟩, by simp only [grC]; rw [e]⟩
set_option maxRecDepth 100000 in
theorem graph_open {H : Type} {enc : TypeId × Value → H} {W : World} {base : Nat} {v : Value} {d : DataW H} {p : List MemPlace} (hv : Value.okWide Try.prog W .any base 25 v) (h : DataW.Trod enc Try.prog W 0 (fun _ => true) true 25 v d p) :
    ∃ na nc ra rc ns rs, v = gV na nc ra rc ns rs ∧ GIs W na nc ra rc ns rs := by
  obtain ⟨a, n, c, b, m, k, C, D, rfl, ⟨h1, h2, h3⟩, ⟨g1, g2, g3⟩, hC, hR, hD, hR2⟩ := open_two (ea := 72) (eb := 74) (Fa := 2) (Fb := 2) (la := [.row .i64, .row .u8]) (lb := [.str, .int .i64]) (P := Try.prog) Try.underlying25 rfl rfl (by kernel_rfl) (by kernel_rfl) (by kernel_rfl) (by kernel_rfl) (by kernel_rfl) (by decide) (by kernel_rfl) (by kernel_rfl) (by kernel_rfl) (by decide) (by kernel_rfl) hv h
  have each : ∀ i, ∃ x : GN, i < n → C i = gnC x ∧ NOk W x := fun i => by
    by_cases hi : i < n
    · obtain ⟨x, h1, h2⟩ := gn_cells (hC i hi).1 (hC i hi).2
      exact ⟨x, fun _ => ⟨h1, h2⟩⟩
    · exact ⟨⟨[], none, 0, [], none, 0⟩, fun h => absurd h hi⟩
  have each2 : ∀ i, ∃ x : GR, i < m → D i = grC x := fun i => by
    by_cases hi : i < m
    · obtain ⟨x, h1⟩ := gr_cells (hD i hi).1 (hD i hi).2
      exact ⟨x, fun _ => h1⟩
    · exact ⟨⟨[], 0⟩, fun h => absurd h hi⟩
  obtain ⟨X, hX⟩ : ∃ X : Nat → GN, ∀ i, i < n → C i = gnC (X i) ∧ NOk W (X i) := ⟨fun i => Classical.choose (each i), fun i => Classical.choose_spec (each i)⟩
  obtain ⟨Y, hY⟩ : ∃ Y : Nat → GR, ∀ i, i < m → D i = grC (Y i) := ⟨fun i => Classical.choose (each2 i), fun i => Classical.choose_spec (each2 i)⟩
  refine ⟨a, c, b, k, (List.range n).map X, (List.range m).map Y, by simp [gV], ⟨?_, by simpa using h1, h3, ?_, by simpa using g1, g3, fun x hx => ?_⟩⟩
  · rw [flat_map (f := gnC) (X := X) fun i hi => (hX i hi).1] at hR
    exact hR
  · rw [flat_map (f := grC) (X := Y) fun i hi => hY i hi] at hR2
    exact hR2
  · obtain ⟨i, hi, rfl⟩ := List.mem_map.1 hx
    exact (hX i (List.mem_range.1 hi)).2
structure GP where
  na : Option Addr
  nc : Nat
  ra : Option Addr
  rc : Nat
  ns : List GN
  rs : List GR
abbrev gPV (a : GP) : Value := gV a.na a.nc a.ra a.rc a.ns a.rs
set_option maxRecDepth 100000 in
theorem graph_open1 {H : Type} {enc : TypeId × Value → H} {W : World} {base : Nat} {v : Value} {d : DataW H} {p : List MemPlace} (hv : Value.okWide Try.prog W .any base 25 v) (h : DataW.Trod enc Try.prog W 0 (fun _ => true) true 25 v d p) :
    ∃ a : GP, v = gPV a ∧ GIs W a.na a.nc a.ra a.rc a.ns a.rs := by
  obtain ⟨na, nc, ra, rc, ns, rs, h1, h2⟩ := graph_open hv h
  exact ⟨⟨na, nc, ra, rc, ns, rs⟩, h1, h2⟩
/-- a graph of which a play is worth its while -/
structure FewG (ns : List GN) (rs : List GR) : Prop where
  n : ns.length ≤ 60
  r : rs.length ≤ 80
  x : ∀ x ∈ ns, x.p.length ≤ 70 ∧ x.d.length ≤ 1100
  s : ∀ r ∈ rs, r.s.length ≤ 40
abbrev rsGrp_0 := (And.intro @xu8_add (And.intro @xu8_lss (And.intro @xu8_gtr (And.intro @xu16_add (And.intro @xu16_lss (And.intro @xu16_gtr (And.intro @xu32_add (And.intro @xu32_lss (And.intro @xu32_gtr (And.intro @xu64_add (And.intro @xu64_lss (And.intro @xu64_gtr (And.intro @xi64_lss (And.intro @xi64_gtr (And.intro @ld_9 (And.intro @ld_22 
  (And.intro @ld_23 (And.intro @ld_66 (And.intro @ld_70 (And.intro @fa_25_0 (And.intro @fa_25_1 (And.intro @fa_72_0 (And.intro @fa_72_1 (And.intro @fa_74_0 (And.intro @ia_22 (And.intro @ia_23 (And.intro @ln_22 (And.intro @ln_23 (And.intro @ln_66 (And.intro @ln_70 @ln_9))))))))))))))))))))))))))))))
theorem Few_spec {w : World} {na ra : Option Addr} {nc rc : Nat} {ns : List GN} {rs : List GR} (h : GIs w na nc ra rc ns rs) : Yld Try.prog n_loamlaw17_Few #[gV na nc ra rc ns rs] w fun u w' => (∃ b : Bool, u = .bool b ∧ (b = true → FewG ns rs)) ∧ Ext [] w w' := by
  refine loamlaw17_Few_of ?_
  unfold loamlaw17_Few
  simp (disch := (first | omega | decide | (simp only [rsD] <;> omega) | fail)) only [↓rsC, rsK, rsL, ↓rsGrp_0, tick_eq, tickV_eq, ne_eq, Int.reduceAdd, Int.reduceSub, Int.reduceMul, Int.reduceEq, Int.reduceLT, Int.reduceLE, Int.reduceToNat, Nat.reduceMul, Nat.reduceAdd, Nat.reduceSub, ←decide_not, eq_self]
  have B : Blk (w.alloc (.cells #[.slice na ns.length nc, .slice ra rs.length rc] 25)) w.heap.size 25 [.slice na ns.length nc, .slice ra rs.length rc] := Blk.at rfl
  have X : Ext [] w (w.alloc (.cells #[.slice na ns.length nc, .slice ra rs.length rc] 25)) := Ext.alloc _ _ _
  have hy := h.ext0 X
  by_cases h1 : 60 < ns.length
  · simp (disch := (first | omega | decide | (simp only [rsD] <;> omega) | fail)) only [↓rsC, rsK, rsL, ↓rsGrp_0, tick_eq, tickV_eq, ne_eq, Int.reduceAdd, Int.reduceSub, Int.reduceMul, Int.reduceEq, Int.reduceLT, Int.reduceLE, Int.reduceToNat, Nat.reduceMul, Nat.reduceAdd, Nat.reduceSub, ←decide_not, eq_self]
    exact ⟨⟨false, by trivial, fun h => by cases h⟩, X⟩
  by_cases h2 : 80 < rs.length
  · simp (disch := (first | omega | decide | (simp only [rsD] <;> omega) | fail)) only [↓rsC, rsK, rsL, ↓rsGrp_0, tick_eq, tickV_eq, ne_eq, Int.reduceAdd, Int.reduceSub, Int.reduceMul, Int.reduceEq, Int.reduceLT, Int.reduceLE, Int.reduceToNat, Nat.reduceMul, Nat.reduceAdd, Nat.reduceSub, ←decide_not, eq_self]
    exact ⟨⟨false, by trivial, fun h => by cases h⟩, X⟩
  simp (disch := (first | omega | decide | (simp only [rsD] <;> omega) | fail)) only [↓rsC, rsK, rsL, ↓rsGrp_0, tick_eq, tickV_eq, ne_eq, Int.reduceAdd, Int.reduceSub, Int.reduceMul, Int.reduceEq, Int.reduceLT, Int.reduceLE, Int.reduceToNat, Nat.reduceMul, Nat.reduceAdd, Nat.reduceSub, ←decide_not, eq_self]
  generalize w.heap.size = hb at *
  generalize w.alloc (.cells #[.slice na ns.length nc, .slice ra rs.length rc] 25) = y at *
  refine xLoop_n ns.length (fun j => [i64 (j : Int)]) (fun j w' => Ext [] y w' ∧ ∀ i (hi : i < ns.length), i < j → ns[i].p.length ≤ 70 ∧ ns[i].d.length ≤ 1100) rfl ⟨Ext.refl _ _, by intro i _ hi; omega⟩ ?_ ?_
  · intro j hj u v1 hu ⟨F, hq⟩ nxt hnx
    simp only [List.map_cons, List.map_nil, List.cons.injEq, and_true] at hu
    rw [hu]
    have k1 := fun i => (B.ext F (by simp)).cell (i := i)
    obtain ⟨b1, o1, rfl, z1, c1, c2⟩ := gn_at (hy.ext0 F).nr hj
    unfold loamlaw17_Few_l1
    by_cases g1 : 70 < ns[j].p.length
    · simp (disch := (first | omega | decide | (simp only [rsD] <;> omega) | fail)) only [↓rsC, rsK, rsL, ↓rsGrp_0, tick_eq, tickV_eq, ne_eq, Int.reduceAdd, Int.reduceSub, Int.reduceMul, Int.reduceEq, Int.reduceLT, Int.reduceLE, Int.reduceToNat, Nat.reduceMul, Nat.reduceAdd, Nat.reduceSub, ←decide_not, k1, c1, c2]
      exact ⟨⟨false, by trivial, fun h => by cases h⟩, X.trans F⟩
    by_cases g2 : 1100 < ns[j].d.length
    · simp (disch := (first | omega | decide | (simp only [rsD] <;> omega) | fail)) only [↓rsC, rsK, rsL, ↓rsGrp_0, tick_eq, tickV_eq, ne_eq, Int.reduceAdd, Int.reduceSub, Int.reduceMul, Int.reduceEq, Int.reduceLT, Int.reduceLE, Int.reduceToNat, Nat.reduceMul, Nat.reduceAdd, Nat.reduceSub, ←decide_not, k1, c1, c2]
      exact ⟨⟨false, by trivial, fun h => by cases h⟩, X.trans F⟩
    simp (disch := (first | omega | decide | (simp only [rsD] <;> omega) | fail)) only [↓rsC, rsK, rsL, ↓rsGrp_0, tick_eq, tickV_eq, ne_eq, Int.reduceAdd, Int.reduceSub, Int.reduceMul, Int.reduceEq, Int.reduceLT, Int.reduceLE, Int.reduceToNat, Nat.reduceMul, Nat.reduceAdd, Nat.reduceSub, ←decide_not, k1, c1, c2]
    refine hnx _ ⟨F, fun i hi hij => ?_⟩
    by_cases e : i = j
    · subst e; exact ⟨by omega, by omega⟩
    · exact hq i hi (by omega)
  · intro u v1 hu ⟨F, hq⟩ nxt
    simp only [List.map_cons, List.map_nil, List.cons.injEq, and_true] at hu
    rw [hu]
    have k1 := fun i => (B.ext F (by simp)).cell (i := i)
    unfold loamlaw17_Few_l1
    simp (disch := (first | omega | decide | (simp only [rsD] <;> omega) | fail)) only [↓rsC, rsK, rsL, ↓rsGrp_0, tick_eq, tickV_eq, ne_eq, Int.reduceAdd, Int.reduceSub, Int.reduceMul, Int.reduceEq, Int.reduceLT, Int.reduceLE, Int.reduceToNat, Nat.reduceMul, Nat.reduceAdd, Nat.reduceSub, ←decide_not, k1]
    refine xLoop_n rs.length (fun j => [i64 (j : Int)]) (fun j w' => Ext [] y w' ∧ ∀ i (hi : i < rs.length), i < j → rs[i].s.length ≤ 40) rfl ⟨F, by intro i _ hi; omega⟩ ?_ ?_
    · intro j hj u v2 hu ⟨F2, hq2⟩ nxt hnx
      simp only [List.map_cons, List.map_nil, List.cons.injEq, and_true] at hu
      rw [hu]
      have k2 := fun i => (B.ext F2 (by simp)).cell (i := i)
      obtain ⟨b1, o1, rfl, z1, c1, c2⟩ := gr_at (hy.ext0 F2).rr hj
      unfold loamlaw17_Few_l2
      have hsz := strOf_size (l := rs[j].s)
      by_cases g1 : 40 < (strOf rs[j].s).size
      · simp (disch := (first | omega | decide | (simp only [rsD] <;> omega) | fail)) only [↓rsC, rsK, rsL, ↓rsGrp_0, tick_eq, tickV_eq, ne_eq, Int.reduceAdd, Int.reduceSub, Int.reduceMul, Int.reduceEq, Int.reduceLT, Int.reduceLE, Int.reduceToNat, Nat.reduceMul, Nat.reduceAdd, Nat.reduceSub, ←decide_not, k1, k2, c1, c2]
        exact ⟨⟨false, by trivial, fun h => by cases h⟩, X.trans F2⟩
      simp (disch := (first | omega | decide | (simp only [rsD] <;> omega) | fail)) only [↓rsC, rsK, rsL, ↓rsGrp_0, tick_eq, tickV_eq, ne_eq, Int.reduceAdd, Int.reduceSub, Int.reduceMul, Int.reduceEq, Int.reduceLT, Int.reduceLE, Int.reduceToNat, Nat.reduceMul, Nat.reduceAdd, Nat.reduceSub, ←decide_not, k1, k2, c1, c2]
      refine hnx _ ⟨F2, fun i hi hij => ?_⟩
      by_cases e : i = j
      · subst e; omega
      · exact hq2 i hi (by omega)
    · intro u v2 hu ⟨F2, hq2⟩ nxt
      simp only [List.map_cons, List.map_nil, List.cons.injEq, and_true] at hu
      rw [hu]
      have k2 := fun i => (B.ext F2 (by simp)).cell (i := i)
      unfold loamlaw17_Few_l2
      simp (disch := (first | omega | decide | (simp only [rsD] <;> omega) | fail)) only [↓rsC, rsK, rsL, ↓rsGrp_0, tick_eq, tickV_eq, ne_eq, Int.reduceAdd, Int.reduceSub, Int.reduceMul, Int.reduceEq, Int.reduceLT, Int.reduceLE, Int.reduceToNat, Nat.reduceMul, Nat.reduceAdd, Nat.reduceSub, ←decide_not, k1, k2]
      refine ⟨⟨true, by trivial, fun _ => ⟨by omega, by omega, fun x hx => ?_, fun r hr => ?_⟩⟩, X.trans F2⟩
      · obtain ⟨i, hi, rfl⟩ := List.getElem_of_mem hx
        exact hq i hi hi
      · obtain ⟨i, hi, rfl⟩ := List.getElem_of_mem hr
        exact hq2 i hi hi
end Go.Proofs.Ytdpmidgeipibbaa
end
section
set_option linter.unusedVariables false
set_option linter.unusedSimpArgs false
set_option maxHeartbeats 4000000
namespace Go.Proofs.Ytdpmidgeipibbaa
open Go.Sh Go.RowKit

/-- a number that is a node's -/
abbrev okNo (n : Nat) (p : Int) : Prop := 1 ≤ p ∧ p ≤ n
inductive Rch (ns : List GN) (fr : List Int) : Int → Prop
  | base {p : Int} : p ∈ fr → okNo ns.length p → Rch ns fr p
  | step {i : Nat} {p : Int} (h : i < ns.length) : Rch ns fr ((i : Int) + 1) → p ∈ ns[i].p → okNo ns.length p → Rch ns fr p
theorem Rch.ok {ns : List GN} {fr : List Int} {p : Int} (h : Rch ns fr p) : okNo ns.length p := by
  cases h with
  | base _ h => exact h
  | step _ _ _ h => exact h
/-- which are reached, as a row -/
structure RchOk (ns : List GN) (fr : List Int) (bs : List Bool) : Prop where
  len : bs.length = ns.length
  iff : ∀ i (h : i < bs.length), bs[i] = true ↔ Rch ns fr ((i : Int) + 1)
theorem RchOk.uniq {ns : List GN} {fr : List Int} {bs bs' : List Bool} (h : RchOk ns fr bs) (h' : RchOk ns fr bs') : bs = bs' := by
  refine List.ext_getElem (by rw [h.len, h'.len]) fun i h1 h2 => ?_
  have := (h.iff i h1).trans (h'.iff i h2).symm
  cases e1 : bs[i] <;> cases e2 : bs'[i] <;> simp_all
/-- what stands while one goes over the nodes -/
structure RchI (ns : List GN) (fr : List Int) (out : List Bool) (l : List Int) : Prop where
  len : out.length = ns.length
  sound : ∀ i, out.getD i false = true → Rch ns fr ((i : Int) + 1)
  stack : ∀ p ∈ l, okNo ns.length p → Rch ns fr p
  base : ∀ p ∈ fr, okNo ns.length p → p ∈ l ∨ out.getD (p.toNat - 1) false = true
  clos : ∀ i (h : i < ns.length), out.getD i false = true → ∀ p ∈ ns[i].p, okNo ns.length p → p ∈ l ∨ out.getD (p.toNat - 1) false = true
def wtR : List GN → List Bool → Nat
  | x :: ns, b :: out => (if b then 0 else x.p.length + 1) + wtR ns out
  | _, _ => 0
theorem wtR_set : ∀ (ns : List GN) (out : List Bool) (i : Nat) (h : i < ns.length) (h' : i < out.length), out[i] = false → wtR ns (out.set i true) + (ns[i].p.length + 1) = wtR ns out
  | [], _, i, h, _, _ => by simp at h
  | _ :: _, [], i, _, h, _ => by simp at h
  | x :: ns, b :: out, 0, _, _, e => by
    simp only [List.getElem_cons_zero] at e
    subst e
    simp [wtR]
    omega
  | x :: ns, b :: out, i + 1, h, h', e => by
    simp only [List.getElem_cons_succ] at e
    have := wtR_set ns out i (by simpa using h) (by simpa using h') e
    simp only [List.set_cons_succ, wtR, List.getElem_cons_succ]
    omega
theorem wtR_le {B : Nat} : ∀ (ns : List GN) (out : List Bool), (∀ x ∈ ns, x.p.length ≤ B) → wtR ns out ≤ ns.length * (B + 1)
  | [], _, _ => by simp [wtR]
  | _ :: _, [], _ => by simp [wtR]
  | x :: ns, b :: out, h => by
    have h1 := wtR_le ns out fun y hy => h y (List.mem_cons_of_mem _ hy)
    have h2 := h x (List.mem_cons_self ..)
    rw [wtR, List.length_cons, Nat.add_mul]
    split <;> omega
section
variable {ns : List GN} {fr : List Int}
theorem rch_init : RchI ns fr (List.replicate ns.length false) fr := by
  have hz : ∀ i, (List.replicate ns.length false).getD i false = false := fun i => by
    rw [List.getD_eq_getElem?_getD, List.getElem?_replicate]
    split <;> rfl
  exact ⟨by simp, fun i h => (by rw [hz] at h; cases h), fun p hp ho => .base hp ho, fun p hp _ => .inl hp, fun i _ h => (by rw [hz] at h; cases h)⟩
theorem rch_done {out : List Bool} (I : RchI ns fr out []) : RchOk ns fr out := by
  refine ⟨I.len, fun i h => ⟨fun e => I.sound i (by rw [List.getD_eq_getElem?_getD, List.getElem?_eq_getElem h]; exact e), fun e => ?_⟩⟩
  have key : ∀ p, Rch ns fr p → out.getD (p.toNat - 1) false = true := by
    intro p hp
    induction hp with
    | base h1 h2 =>
      rcases I.base _ h1 h2 with h | h
      · cases h
      · exact h
    | @step i p hi h1 h2 h3 ih =>
      have e1 : ((i : Int) + 1).toNat - 1 = i := by omega
      rw [e1] at ih
      rcases I.clos i hi ih p h2 h3 with h | h
      · cases h
      · exact h
  have := key _ e
  rw [show ((i : Int) + 1).toNat - 1 = i by omega, List.getD_eq_getElem?_getD, List.getElem?_eq_getElem h] at this
  exact this
/-- a number that is not a node's, or one that is known -/
theorem rch_skip {out : List Bool} {l : List Int} {q : Int} (I : RchI ns fr out (l ++ [q])) (h : okNo ns.length q → out.getD (q.toNat - 1) false = true) : RchI ns fr out l := by
  have key : ∀ p : Int, okNo ns.length p → p ∈ l ++ [q] ∨ out.getD (p.toNat - 1) false = true → p ∈ l ∨ out.getD (p.toNat - 1) false = true := fun p ho hp => by
    rcases hp with hp | hp
    · rcases List.mem_append.1 hp with hp | hp
      · exact .inl hp
      · rw [List.mem_singleton] at hp
        subst hp
        exact .inr (h ho)
    · exact .inr hp
  exact ⟨I.len, I.sound, fun p hp ho => I.stack p (List.mem_append_left _ hp) ho, fun p hp ho => key p ho (I.base p hp ho), fun i hi hb p hp ho => key p ho (I.clos i hi hb p hp ho)⟩
theorem rch_new {out : List Bool} {l : List Int} {q : Int} (I : RchI ns fr out (l ++ [q])) (ho : okNo ns.length q) (hi : q.toNat - 1 < ns.length) : RchI ns fr (out.set (q.toNat - 1) true) (l ++ ns[q.toNat - 1].p) := by
  have hlen := I.len
  have hR : Rch ns fr q := I.stack q (List.mem_append_right _ (List.mem_singleton.2 rfl)) ho
  have hq : ((q.toNat - 1 : Nat) : Int) + 1 = q := by omega
  have hg : ∀ i, (out.set (q.toNat - 1) true).getD i false = if i = q.toNat - 1 then true else out.getD i false := fun i => by
    rw [List.getD_eq_getElem?_getD, List.getElem?_set, List.getD_eq_getElem?_getD]
    by_cases e : q.toNat - 1 = i
    · subst e
      rw [if_pos rfl, if_pos (by omega), if_pos rfl]
      rfl
    · rw [if_neg e, if_neg (fun h => e h.symm)]
  have keep : ∀ p : Int, okNo ns.length p → p ∈ l ++ [q] ∨ out.getD (p.toNat - 1) false = true → p ∈ l ++ ns[q.toNat - 1].p ∨ (out.set (q.toNat - 1) true).getD (p.toNat - 1) false = true := fun p hp h => by
    rw [hg]
    rcases h with h | h
    · rcases List.mem_append.1 h with h | h
      · exact .inl (List.mem_append_left _ h)
      · rw [List.mem_singleton] at h
        subst h
        exact .inr (if_pos rfl)
    · right
      split
      · rfl
      · exact h
  refine ⟨by simpa using hlen, fun i hb => ?_, fun p hp hpo => ?_, fun p hp hpo => keep p hpo (I.base p hp hpo), fun i h hb p hp hpo => ?_⟩
  · rw [hg] at hb
    split at hb
    · rename_i e
      subst e
      rw [hq]; exact hR
    · exact I.sound i hb
  · rcases List.mem_append.1 hp with hp | hp
    · exact I.stack p (List.mem_append_left _ hp) hpo
    · exact .step hi (by rw [hq]; exact hR) hp hpo
  · rw [hg] at hb
    split at hb
    · rename_i e
      subst e
      exact .inl (List.mem_append_right _ hp)
    · exact keep p hpo (I.clos i h hb p hp hpo)
end
end Go.Proofs.Ytdpmidgeipibbaa
end
section
set_option linter.unusedVariables false
set_option linter.unusedSimpArgs false
set_option maxHeartbeats 4000000
namespace Go.Proofs.Ytdpmidgeipibbaa
open Go.Sh Go.RowKit

abbrev OwnN (w : World) (v : Value) (l : List GN) : Prop := Own w 76 2 v l.length (l.flatMap gnC)
abbrev OwnRt (w : World) (v : Value) (l : List GR) : Prop := Own w 78 2 v l.length (l.flatMap grC)
theorem appN {w : World} {K : K1} {v : Value} {l : List GN} {x : GN} {g : Nat} {cs : List Value} (hO : OwnN w v l) (hcs : cs = gnC x) (hl : l.length ≤ 1000000)
    (hK : ∀ v' w', OwnN w' v' (l ++ [x]) → Stp (blk v) (blk v') w w' → K v' w') (hg : g = w.heap.size := by first | rfl | (simp only [World.size_alloc, World.size_drew, World.size_setCell] <;> omega)) : xBuiltin Try.prog .append #[31, 31] 31 [false, false] [v, .slice (some ⟨g, 0, none⟩) 1 1] (w.alloc (.cells cs.toArray 76)) K := by
  subst hcs hg
  refine xAppL (s := 2) (n := l.length) (m := 1) (xs := l.flatMap gnC) (news := gnC x) (bytes := 48) (z := .agg #[.slice none 0 0, .slice none 0 0]) (by kernel_rfl) (by kernel_rfl) (by rfl) (by decide) hO (by rfl) (by simp [gnC, Value.oneCell']) (by omega) (by omega) fun v' w' h1 h2 => hK v' w' ?_ h2
  show Own w' 76 2 v' (l ++ [x]).length ((l ++ [x]).flatMap gnC)
  rw [List.length_append, List.flatMap_append]
  simpa using h1
theorem appR {w : World} {K : K1} {v : Value} {l : List GR} {x : GR} {g : Nat} {cs : List Value} (hO : OwnRt w v l) (hcs : cs = grC x) (hl : l.length ≤ 1000000)
    (hK : ∀ v' w', OwnRt w' v' (l ++ [x]) → Stp (blk v) (blk v') w w' → K v' w') (hg : g = w.heap.size := by first | rfl | (simp only [World.size_alloc, World.size_drew, World.size_setCell] <;> omega)) : xBuiltin Try.prog .append #[32, 32] 32 [false, false] [v, .slice (some ⟨g, 0, none⟩) 1 1] (w.alloc (.cells cs.toArray 78)) K := by
  subst hcs hg
  refine xAppL (s := 2) (n := l.length) (m := 1) (xs := l.flatMap grC) (news := grC x) (bytes := 24) (z := .agg #[.string ⟨#[]⟩, .int .i64 0]) (by kernel_rfl) (by kernel_rfl) (by rfl) (by decide) hO (by rfl) (by simp [grC, Value.oneCell']) (by omega) (by omega) fun v' w' h1 h2 => hK v' w' ?_ h2
  show Own w' 78 2 v' (l ++ [x]).length ((l ++ [x]).flatMap grC)
  rw [List.length_append, List.flatMap_append]
  simpa using h1
abbrev rsGrp2_0 := (And.intro @xu8_add (And.intro @xu8_lss (And.intro @xu16_add (And.intro @xu16_lss (And.intro @xu32_add (And.intro @xu32_lss (And.intro @xu64_add (And.intro @xu64_lss (And.intro @xi64_lss (And.intro @ld_3 (And.intro @ld_9 (And.intro @ld_22 (And.intro @ld_23 (And.intro @ld_31 (And.intro @ld_32 (And.intro @ld_34 (And.intro @ld_66 (And.intro @ld_70 
  (And.intro @lr_34 (And.intro @fa_25_0 (And.intro @fa_25_1 (And.intro @fa_34_0 (And.intro @fa_34_1 (And.intro @fa_72_0 (And.intro @fa_72_1 (And.intro @fa_74_0 (And.intro @fa_74_1 (And.intro @al_34 (And.intro @st_31 (And.intro @st_32 (And.intro @st_34 (And.intro @bd_34 (And.intro @bd_76_0_1 (And.intro @bd_76_1 (And.intro @bd_78_0_1 (And.intro @ia_22 (And.intro @ia_23 
  (And.intro @ln_22 (And.intro @ln_23 (And.intro @bs_31_1 @bs_32_1))))))))))))))))))))))))))))))))))))))))
theorem Of_spec17 {w : World} {na ra : Option Addr} {nc rc : Nat} {ns : List GN} {rs : List GR} (h : GIs w na nc ra rc ns rs) (hn : ns.length ≤ 100000) (hr : rs.length ≤ 100000) :
    Yld Try.prog n_loamlaw17_Of #[gV na nc ra rc ns rs] w fun u w' => Ext [] w w' ∧ ∃ na' nc' ra' rc', u = gV na' nc' ra' rc' ns rs ∧ GIs w' na' nc' ra' rc' ns rs := by
  refine loamlaw17_Of_of ?_
  unfold loamlaw17_Of
  simp (disch := (first | omega | decide | (simp only [rsD] <;> omega) | fail)) only [↓rsC, rsK, rsL, ↓rsGrp2_0, tick_eq, tickV_eq, ne_eq, Int.reduceAdd, Int.reduceSub, Int.reduceMul, Int.reduceEq, Int.reduceLT, Int.reduceLE, Int.reduceToNat, Nat.reduceMul, Nat.reduceAdd, Nat.reduceSub, ←decide_not, eq_self]
  simp only [World.size_alloc]
  have Bg0 : Blk (w.alloc (.cells #[.slice na ns.length nc, .slice ra rs.length rc] 25)) w.heap.size 25 [.slice na ns.length nc, .slice ra rs.length rc] := Blk.at rfl
  have X0 : Ext [] w (w.alloc (.cells #[.slice na ns.length nc, .slice ra rs.length rc] 25)) := Ext.alloc _ _ _
  have zs1 : (w.alloc (.cells #[.slice na ns.length nc, .slice ra rs.length rc] 25)).heap.size = w.heap.size + 1 := World.size_alloc _ _
  generalize w.alloc (.cells #[.slice na ns.length nc, .slice ra rs.length rc] 25) = y1 at *
  have Bt0 : Blk (y1.alloc (.cells #[.slice none 0 0, .slice none 0 0] 34)) (w.heap.size + 1) 34 [.slice none 0 0, .slice none 0 0] := by
    have := Blk.at (w := y1) (e := 34) (cs := [.slice none 0 0, .slice none 0 0]) rfl
    rw [zs1] at this
    exact this
  have X1 : Ext [] y1 (y1.alloc (.cells #[.slice none 0 0, .slice none 0 0] 34)) := Ext.alloc _ _ _
  have zs2 : (y1.alloc (.cells #[.slice none 0 0, .slice none 0 0] 34)).heap.size = w.heap.size + 1 + 1 := by rw [World.size_alloc, zs1]
  generalize y1.alloc (.cells #[.slice none 0 0, .slice none 0 0] 34) = y2 at *
  have Bx0 : Blk (y2.alloc (.cells #[.slice none 0 0, .slice none 0 0] 34)) (w.heap.size + 1 + 1) 34 [.slice none 0 0, .slice none 0 0] := by
    have := Blk.at (w := y2) (e := 34) (cs := [.slice none 0 0, .slice none 0 0]) rfl
    rw [zs2] at this
    exact this
  have X2 : Ext [] y2 (y2.alloc (.cells #[.slice none 0 0, .slice none 0 0] 34)) := Ext.alloc _ _ _
  have zs3 : (y2.alloc (.cells #[.slice none 0 0, .slice none 0 0] 34)).heap.size = w.heap.size + 1 + 1 + 1 := by rw [World.size_alloc, zs2]
  generalize y2.alloc (.cells #[.slice none 0 0, .slice none 0 0] 34) = y at *
  have Xy : Ext [] w y := X0.trans (X1.trans X2)
  have Bg := (Bg0.ext X1 (by simp)).ext X2 (by simp)
  have Bt := Bt0.ext X2 (by simp)
  generalize hhx : w.heap.size + 1 + 1 = hx at *
  generalize hht : w.heap.size + 1 = ht at *
  have hg := h.ext0 Xy
  have fresh : ∀ {w' : World}, Ext [hx] y w' → Ext [] w w' := fun F => Xy.new F (fun z hz => by simp only [List.mem_singleton] at hz; omega)
  have nilb : ∀ z, z ∉ blk (.slice none 0 0) := by simp [blk, Value.ownBlock]
  refine xLoop_n ns.length (fun j => [i64 (j : Int)]) (fun j w' => Ext [hx] y w' ∧ ∃ v, OwnN w' v (ns.take j) ∧ Blk w' hx 34 [v, .slice none 0 0] ∧ ∀ z ∈ blk v, y.heap.size ≤ z) rfl ⟨Ext.refl _ _, _, Own.nil, Bx0, fun z hz => absurd hz (nilb z)⟩ ?_ ?_
  · rintro j hj u v1 hu ⟨F, v, O, B, U⟩ nxt hnx
    simp only [List.map_cons, List.map_nil, List.cons.injEq, and_true] at hu
    rw [hu]
    have kg := fun i => (Bg.ext F (by simp; omega)).cell (i := i)
    have kgd := fun i => ((Bg.ext F (by simp; omega)).ext (Ext.drew [] v1) (by simp)).cell (i := i)
    have kbd := fun i => (B.ext (Ext.drew [] v1) (by simp)).cell (i := i)
    have hgn := (h.ext0 ((fresh F).trans (Ext.drew [] v1))).nr
    obtain ⟨b1, o1, rfl, z1, c1, c2⟩ := gn_at hgn hj
    have hlen : (ns.take j).length = j := by rw [List.length_take]; omega
    have hsu : ns.take (j + 1) = ns.take j ++ [ns[j]] := by rw [List.take_add_one, List.getElem?_eq_getElem hj]; rfl
    obtain ⟨a0, c0, hv0, _⟩ := O.slice
    unfold loamlaw17_Of_l1
    subst hv0
    have Oa := O.ext0 (Ext.drew [] v1)
    have Ba := B.ext (Ext.drew [] v1) (by simp)
    have kba := fun i => (Ba.ext (Ext.alloc [] _ (.cells (gnC ns[j]).toArray 76)) (by simp)).cell (i := i)
    simp (disch := (first | omega | decide | (simp only [rsD] <;> omega) | fail)) only [↓rsC, rsK, rsL, ↓rsGrp2_0, tick_eq, tickV_eq, ne_eq, Int.reduceAdd, Int.reduceSub, Int.reduceMul, Int.reduceEq, Int.reduceLT, Int.reduceLE, Int.reduceToNat, Nat.reduceMul, Nat.reduceAdd, Nat.reduceSub, ←decide_not, kg, kgd, kbd, c1, c2, kba]
    refine appN Oa rfl (by omega) fun v' w2 O2 T2 => ?_
    have hv := fun hm => U hx hm
    have B2 := Ba.ext T2.ext (fun hm => by have := hv hm; omega)
    obtain ⟨a3, c3, hv3, _⟩ := O2.slice
    have k2 := fun i => B2.cell (i := i)
    have f2 := fun i => B2.frozen (i := i)
    have hxv : hx ∉ blk v' := fun hm => by
      rcases T2.at' hx hm with h1 | h1
      · have := hv h1; omega
      · have := F.size
        simp only [World.size_alloc, World.size_drew] at h1
        omega
    have up2 : ∀ z ∈ blk v', y.heap.size ≤ z := fun z hz => by
      rcases T2.at' z hz with h1 | h1
      · exact U z h1
      · have := F.size
        simp only [World.size_alloc, World.size_drew] at h1
        omega
    have F2 : Ext [hx] y w2 := ((F.trans (Ext.drew _ v1))).cut T2.ext (fun z hz => .inr (U z hz))
    subst hv3
    simp (disch := (first | omega | decide | (simp only [rsD] <;> omega) | fail)) only [↓rsC, rsK, rsL, ↓rsGrp2_0, tick_eq, tickV_eq, ne_eq, Int.reduceAdd, Int.reduceSub, Int.reduceMul, Int.reduceEq, Int.reduceLT, Int.reduceLE, Int.reduceToNat, Nat.reduceMul, Nat.reduceAdd, Nat.reduceSub, ←decide_not, kg, kgd, kbd, c1, c2, kba, k2, f2]
    have B3 := B2.set (i := 0) (v := .slice a3 (ns.take j ++ [ns[j]]).length c3)
    have O3 := O2.ext (Ext.set (w := w2) (b := hx) (o := 0) (v := .slice a3 (ns.take j ++ [ns[j]]).length c3)) (fun z hz hm => by simp only [List.mem_singleton] at hm; subst hm; exact hxv hz)
    rw [← hsu] at O3 B3 up2 ⊢
    exact hnx _ ⟨F2.set' (.inl (by simp)), _, O3, B3, up2⟩
  rintro u v1 hu ⟨F, v, O, B, U⟩ nxt
  simp only [List.map_cons, List.map_nil, List.cons.injEq, and_true] at hu
  rw [hu]
  rw [List.take_length] at O
  have kg := fun i => (Bg.ext F (by simp; omega)).cell (i := i)
  unfold loamlaw17_Of_l1
  simp (disch := (first | omega | decide | (simp only [rsD] <;> omega) | fail)) only [↓rsC, rsK, rsL, ↓rsGrp2_0, tick_eq, tickV_eq, ne_eq, Int.reduceAdd, Int.reduceSub, Int.reduceMul, Int.reduceEq, Int.reduceLT, Int.reduceLE, Int.reduceToNat, Nat.reduceMul, Nat.reduceAdd, Nat.reduceSub, ←decide_not, kg]
  refine xLoop_n rs.length (fun j => [i64 (j : Int)]) (fun j w' => Ext [hx] y w' ∧ OwnN w' v ns ∧ ∃ v2, OwnRt w' v2 (rs.take j) ∧ Blk w' hx 34 [v, v2] ∧ (∀ z ∈ blk v2, y.heap.size ≤ z) ∧ ∀ z ∈ blk v2, z ∉ blk v) rfl ⟨F, O, _, Own.nil, B, fun z hz => absurd hz (nilb z), fun z hz => absurd hz (nilb z)⟩ ?_ ?_
  · rintro j hj u v3 hu ⟨F3, O3, v2, R3, B3, U3, D3⟩ nxt hnx
    simp only [List.map_cons, List.map_nil, List.cons.injEq, and_true] at hu
    rw [hu]
    have kg3 := fun i => (Bg.ext F3 (by simp; omega)).cell (i := i)
    have kgd := fun i => ((Bg.ext F3 (by simp; omega)).ext (Ext.drew [] v3) (by simp)).cell (i := i)
    have hgr := (h.ext0 ((fresh F3).trans (Ext.drew [] v3))).rr
    obtain ⟨b1, o1, rfl, z1, c1, c2⟩ := gr_at hgr hj
    have hlen : (rs.take j).length = j := by rw [List.length_take]; omega
    have hsu : rs.take (j + 1) = rs.take j ++ [rs[j]] := by rw [List.take_add_one, List.getElem?_eq_getElem hj]; rfl
    obtain ⟨a0, c0, hv0, _⟩ := R3.slice
    unfold loamlaw17_Of_l2
    subst hv0
    have Ra := R3.ext0 (Ext.drew [] v3)
    have Ba := B3.ext (Ext.drew [] v3) (by simp)
    have kbd := fun i => Ba.cell (i := i)
    have kba := fun i => (Ba.ext (Ext.alloc [] _ (.cells (grC rs[j]).toArray 78)) (by simp)).cell (i := i)
    simp (disch := (first | omega | decide | (simp only [rsD] <;> omega) | fail)) only [↓rsC, rsK, rsL, ↓rsGrp2_0, tick_eq, tickV_eq, ne_eq, Int.reduceAdd, Int.reduceSub, Int.reduceMul, Int.reduceEq, Int.reduceLT, Int.reduceLE, Int.reduceToNat, Nat.reduceMul, Nat.reduceAdd, Nat.reduceSub, ←decide_not, kg, kg3, kgd, kbd, c1, c2, kba]
    refine appR Ra rfl (by omega) fun v' w2 O2 T2 => ?_
    have hv := fun hm => U3 hx hm
    have B2 := Ba.ext T2.ext (fun hm => by have := hv hm; omega)
    have N2 := (O3.ext0 (Ext.drew [] v3)).ext T2.ext (fun z hz hm => D3 z hm hz)
    obtain ⟨a3, c3, hv3, _⟩ := O2.slice
    have k2 := fun i => B2.cell (i := i)
    have f2 := fun i => B2.frozen (i := i)
    have zF := F3.size
    have hxv : hx ∉ blk v' := fun hm => by
      rcases T2.at' hx hm with h1 | h1
      · have := hv h1; omega
      · simp only [World.size_alloc, World.size_drew] at h1
        omega
    have up2 : ∀ z ∈ blk v', y.heap.size ≤ z := fun z hz => by
      rcases T2.at' z hz with h1 | h1
      · exact U3 z h1
      · simp only [World.size_alloc, World.size_drew] at h1
        omega
    have dd : ∀ z ∈ blk v', z ∉ blk v := fun z hz hm => by
      rcases T2.at' z hz with h1 | h1
      · exact D3 z h1 hm
      · have := O3.lt z hm
        simp only [World.size_alloc, World.size_drew] at h1
        omega
    have hxn : hx ∉ blk v := fun hm => by have := U hx hm; omega
    have F2 : Ext [hx] y w2 := ((F3.trans (Ext.drew _ v3))).cut T2.ext (fun z hz => .inr (U3 z hz))
    subst hv3
    simp (disch := (first | omega | decide | (simp only [rsD] <;> omega) | fail)) only [↓rsC, rsK, rsL, ↓rsGrp2_0, tick_eq, tickV_eq, ne_eq, Int.reduceAdd, Int.reduceSub, Int.reduceMul, Int.reduceEq, Int.reduceLT, Int.reduceLE, Int.reduceToNat, Nat.reduceMul, Nat.reduceAdd, Nat.reduceSub, ←decide_not, kg, kg3, kgd, kbd, c1, c2, kba, k2, f2]
    have B4 := B2.set (i := 1) (v := .slice a3 (rs.take j ++ [rs[j]]).length c3)
    have Xs : Ext [hx] w2 (w2.setCell ⟨hx, 1, none⟩ (.slice a3 (rs.take j ++ [rs[j]]).length c3)) := Ext.set (w := w2) (b := hx)
    have O4 := O2.ext Xs (fun z hz hm => by simp only [List.mem_singleton] at hm; subst hm; exact hxv hz)
    have N4 := N2.ext Xs (fun z hz hm => by simp only [List.mem_singleton] at hm; subst hm; exact hxn hz)
    rw [← hsu] at O4 B4 N4 up2 dd ⊢
    exact hnx _ ⟨F2.set' (.inl (by simp)), N4, _, O4, B4, up2, dd⟩
  · rintro u v3 hu ⟨F3, O3, v2, R3, B3, U3, D3⟩ nxt
    simp only [List.map_cons, List.map_nil, List.cons.injEq, and_true] at hu
    rw [hu]
    rw [List.take_length] at R3
    have kg3 := fun i => (Bg.ext F3 (by simp; omega)).cell (i := i)
    have kb3 := fun i => B3.cell (i := i)
    have Bt3 := Bt.ext F3 (by simp; omega)
    have kt3 := fun i => Bt3.cell (i := i)
    have ft3 := fun i => Bt3.frozen (i := i)
    obtain ⟨a4, c4, rfl, hc4, _, hn4, hr4, _⟩ := O3.slice
    obtain ⟨a5, c5, rfl, hc5, _, hn5, hr5, _⟩ := R3.slice
    have X4 := fresh F3
    have hok := fun x hx => (h.ok x hx).ext0 X4
    have blt := fun (z : Nat) (hz : z ∈ blk (.slice a4 ns.length c4)) => U z hz
    have blt2 := fun (z : Nat) (hz : z ∈ blk (.slice a5 rs.length c5)) => U3 z hz
    unfold loamlaw17_Of_l2
    simp (disch := (first | omega | decide | (simp only [rsD] <;> omega) | fail)) only [↓rsC, rsK, rsL, ↓rsGrp2_0, tick_eq, tickV_eq, ne_eq, Int.reduceAdd, Int.reduceSub, Int.reduceMul, Int.reduceEq, Int.reduceLT, Int.reduceLE, Int.reduceToNat, Nat.reduceMul, Nat.reduceAdd, Nat.reduceSub, ←decide_not, kg, kg3, kb3, kt3, ft3]
    have Xs : Ext [ht] v3 ((v3.setCell ⟨ht, 0, none⟩ (.slice a4 ns.length c4)).setCell ⟨ht, 1, none⟩ (.slice a5 rs.length c5)) := (Ext.set (w := v3) (b := ht)).trans Ext.set
    have hX : Ext [] w ((v3.setCell ⟨ht, 0, none⟩ (.slice a4 ns.length c4)).setCell ⟨ht, 1, none⟩ (.slice a5 rs.length c5)) := X4.new Xs (fun z hz => by simp only [List.mem_singleton] at hz; omega)
    refine ⟨hX, a4, c4, a5, c5, by trivial, ⟨hr4.ext Xs (fun z o hz hm => ?_), hc4, hn4, hr5.ext Xs (fun z o hz hm => ?_), hc5, hn5, fun x hx => (h.ok x hx).ext0 hX⟩⟩
    · have := blt z (by subst hz; simp [blk, Value.ownBlock])
      simp only [List.mem_singleton] at hm
      omega
    · have := blt2 z (by subst hz; simp [blk, Value.ownBlock])
      simp only [List.mem_singleton] at hm
      omega
end Go.Proofs.Ytdpmidgeipibbaa
end
section
set_option linter.unusedVariables false
set_option linter.unusedSimpArgs false
set_option maxHeartbeats 4000000
namespace Go.Proofs.Ytdpmidgeipibbaa
open Go.Sh Go.RowKit

theorem MemIs.blt {w : World} {base g : Nat} {a : Option Addr} {c : Nat} {ws : List (BitVec 64)} (h : MemIs w base g a c ws) (hw : ws ≠ []) : ∀ x ∈ blkOf a, x < w.heap.size := by
  rcases h.own with e | ⟨gs, rest, rfl, _, hB, _⟩
  · exact absurd e hw
  · simp [blkOf, hB.lt]
abbrev spC (g b t e : Nat) : List Value := [ptr g, i64 (b : Int), i64 (t : Int), i64 (e : Int)]
structure SpIs (w : World) (base s g : Nat) (a : Option Addr) (c : Nat) (ws : List (BitVec 64)) (b t e : Nat) : Prop where
  mem : MemIs w base g a c ws
  blk : Blk w s 102 (spC g b t e)
  sg : s ≠ g
  sa : ws ≠ [] → s ∉ blkOf a
  bt : b ≤ t
  te : t ≤ e
  el : e ≤ ws.length
section
variable {w : World} {base s g : Nat} {a : Option Addr} {c : Nat} {ws : List (BitVec 64)} {b t e : Nat}
theorem SpIs.ext {w' : World} {M : List Nat} (h : SpIs w base s g a c ws b t e) (hx : Ext M w w') (hs : s ∉ M) (hg : g ∉ M) (ha : ws ≠ [] → ∀ x ∈ blkOf a, x ∉ M) : SpIs w' base s g a c ws b t e :=
  ⟨h.mem.ext hx hg ha, h.blk.ext hx hs, h.sg, h.sa, h.bt, h.te, h.el⟩
theorem SpIs.ext0 {w' : World} (h : SpIs w base s g a c ws b t e) (hx : Ext [] w w') : SpIs w' base s g a c ws b t e := h.ext hx (by simp) (by simp) (by simp)
def mayP (b t e n : Int) : Prop := 0 ≤ b ∧ b ≤ t ∧ t ≤ e ∧ e ≤ n
instance (b t e n : Int) : Decidable (mayP b t e n) := by unfold mayP; infer_instance
abbrev rsSpc_0 := (And.intro @xu8_neq (And.intro @xu8_leq (And.intro @xu8_geq (And.intro @xu16_neq (And.intro @xu16_leq (And.intro @xu16_geq (And.intro @xu32_neq (And.intro @xu32_leq (And.intro @xu32_geq (And.intro @xu64_neq (And.intro @xu64_leq (And.intro @xu64_geq (And.intro @xi64_leq (And.intro @xi64_geq (And.intro @xi64_neq (And.intro @xi64_neg @nn_99))))))))))))))))
theorem may_spec (b t e : Int) (h : MemIs w base g a c ws) : Gives Try.prog n_space_may #[ptr g, i64 b, i64 t, i64 e] w (.bool (decide (mayP b t e ws.length))) := by
  refine space_may_of ?_
  unfold space_may
  simp (disch := (first | omega | decide | (simp only [rsD] <;> omega) | fail)) only [↓rsC, rsK, rsL, ↓rsSpc_0, tick_eq, tickV_eq, ne_eq, Int.reduceAdd, Int.reduceSub, Int.reduceMul, Int.reduceEq, Int.reduceLT, Int.reduceLE, Int.reduceToNat, Nat.reduceMul, Nat.reduceAdd, Nat.reduceSub, ←decide_not, eq_self]
  by_cases g1 : ¬ 0 ≤ b
  · have hv : decide (mayP b t e ws.length) = false := decide_eq_false (by unfold mayP; omega)
    simp (disch := (first | omega | decide | (simp only [rsD] <;> omega) | fail)) only [↓rsC, rsK, rsL, ↓rsSpc_0, tick_eq, tickV_eq, ne_eq, Int.reduceAdd, Int.reduceSub, Int.reduceMul, Int.reduceEq, Int.reduceLT, Int.reduceLE, Int.reduceToNat, Nat.reduceMul, Nat.reduceAdd, Nat.reduceSub, ←decide_not, eq_self, g1, hv]
    exact ⟨by trivial, by (repeat (first | with_reducible exact Ext.refl _ _ | with_reducible assumption | with_reducible refine Ext.alloc' ?_ _ | with_reducible refine Ext.drew' ?_ | with_reducible refine Ext.set' ?_ ?_ | exact .inr (by first | omega | (simp only [World.size_alloc, World.size_drew, World.size_setCell] <;> omega)) | refine Ext.trans ?_ (by with_reducible assumption)))⟩
  replace g1 := Decidable.not_not.1 g1
  by_cases g2 : ¬ b ≤ t
  · have hv : decide (mayP b t e ws.length) = false := decide_eq_false (by unfold mayP; omega)
    simp (disch := (first | omega | decide | (simp only [rsD] <;> omega) | fail)) only [↓rsC, rsK, rsL, ↓rsSpc_0, tick_eq, tickV_eq, ne_eq, Int.reduceAdd, Int.reduceSub, Int.reduceMul, Int.reduceEq, Int.reduceLT, Int.reduceLE, Int.reduceToNat, Nat.reduceMul, Nat.reduceAdd, Nat.reduceSub, ←decide_not, eq_true g1, g2, hv]
    exact ⟨by trivial, by (repeat (first | with_reducible exact Ext.refl _ _ | with_reducible assumption | with_reducible refine Ext.alloc' ?_ _ | with_reducible refine Ext.drew' ?_ | with_reducible refine Ext.set' ?_ ?_ | exact .inr (by first | omega | (simp only [World.size_alloc, World.size_drew, World.size_setCell] <;> omega)) | refine Ext.trans ?_ (by with_reducible assumption)))⟩
  replace g2 := Decidable.not_not.1 g2
  by_cases g3 : ¬ t ≤ e
  · have hv : decide (mayP b t e ws.length) = false := decide_eq_false (by unfold mayP; omega)
    simp (disch := (first | omega | decide | (simp only [rsD] <;> omega) | fail)) only [↓rsC, rsK, rsL, ↓rsSpc_0, tick_eq, tickV_eq, ne_eq, Int.reduceAdd, Int.reduceSub, Int.reduceMul, Int.reduceEq, Int.reduceLT, Int.reduceLE, Int.reduceToNat, Nat.reduceMul, Nat.reduceAdd, Nat.reduceSub, ←decide_not, eq_true g1, eq_true g2, g3, hv]
    exact ⟨by trivial, by (repeat (first | with_reducible exact Ext.refl _ _ | with_reducible assumption | with_reducible refine Ext.alloc' ?_ _ | with_reducible refine Ext.drew' ?_ | with_reducible refine Ext.set' ?_ ?_ | exact .inr (by first | omega | (simp only [World.size_alloc, World.size_drew, World.size_setCell] <;> omega)) | refine Ext.trans ?_ (by with_reducible assumption)))⟩
  replace g3 := Decidable.not_not.1 g3
  simp (disch := (first | omega | decide | (simp only [rsD] <;> omega) | fail)) only [↓rsC, rsK, rsL, ↓rsSpc_0, tick_eq, tickV_eq, ne_eq, Int.reduceAdd, Int.reduceSub, Int.reduceMul, Int.reduceEq, Int.reduceLT, Int.reduceLE, Int.reduceToNat, Nat.reduceMul, Nat.reduceAdd, Nat.reduceSub, ←decide_not, eq_true g1, eq_true g2, eq_true g3]
  refine mem_Mem_Len_call (Gives.to (Len_spec h) fun w1 E1 => ?_)
  have z1 := E1.size
  try simp only [World.size_alloc, World.size_setCell, World.size_drew] at z1
  by_cases g4 : ¬ e ≤ ws.length
  · have hv : decide (mayP b t e ws.length) = false := decide_eq_false (by unfold mayP; omega)
    simp (disch := (first | omega | decide | (simp only [rsD] <;> omega) | fail)) only [↓rsC, rsK, rsL, ↓rsSpc_0, tick_eq, tickV_eq, ne_eq, Int.reduceAdd, Int.reduceSub, Int.reduceMul, Int.reduceEq, Int.reduceLT, Int.reduceLE, Int.reduceToNat, Nat.reduceMul, Nat.reduceAdd, Nat.reduceSub, ←decide_not, eq_true g1, eq_true g2, eq_true g3, g4, hv]
    exact ⟨by trivial, by (repeat (first | with_reducible exact Ext.refl _ _ | with_reducible assumption | with_reducible refine Ext.alloc' ?_ _ | with_reducible refine Ext.drew' ?_ | with_reducible refine Ext.set' ?_ ?_ | exact .inr (by first | omega | (simp only [World.size_alloc, World.size_drew, World.size_setCell] <;> omega)) | refine Ext.trans ?_ (by with_reducible assumption)))⟩
  replace g4 := Decidable.not_not.1 g4
  have hv : decide (mayP b t e ws.length) = true := decide_eq_true (by unfold mayP; omega)
  simp (disch := (first | omega | decide | (simp only [rsD] <;> omega) | fail)) only [↓rsC, rsK, rsL, ↓rsSpc_0, tick_eq, tickV_eq, ne_eq, Int.reduceAdd, Int.reduceSub, Int.reduceMul, Int.reduceEq, Int.reduceLT, Int.reduceLE, Int.reduceToNat, Nat.reduceMul, Nat.reduceAdd, Nat.reduceSub, ←decide_not, eq_true g1, eq_true g2, eq_true g3, eq_true g4, hv]
  exact ⟨by trivial, by (repeat (first | with_reducible exact Ext.refl _ _ | with_reducible assumption | with_reducible refine Ext.alloc' ?_ _ | with_reducible refine Ext.drew' ?_ | with_reducible refine Ext.set' ?_ ?_ | exact .inr (by first | omega | (simp only [World.size_alloc, World.size_drew, World.size_setCell] <;> omega)) | refine Ext.trans ?_ (by with_reducible assumption)))⟩
abbrev rsSpc_1 := (And.intro @xu8_com (And.intro @xu16_com (And.intro @xu32_com (And.intro @xu64_com @bd_102_0_1_2_3))))
theorem SNew_ok {b e : Nat} (h : MemIs w base g a c ws) (hb : b ≤ e) (he : e ≤ ws.length) : Yld Try.prog n_space_New #[ptr g, i64 (b : Int), i64 (e : Int)] w fun u w' => Ext [] w w' ∧ ∃ s, u = .tuple #[ptr s, i64 0] ∧ w.heap.size ≤ s ∧ s < w'.heap.size ∧ SpIs w' base s g a c ws b b e := by
  refine space_New_of ?_
  unfold space_New
  have hv : decide (mayP b b e ws.length) = true := decide_eq_true (by unfold mayP; omega)
  simp (disch := (first | omega | decide | (simp only [rsD] <;> omega) | fail)) only [↓rsC, rsK, rsL, ↓rsSpc_1, tick_eq, tickV_eq, ne_eq, Int.reduceAdd, Int.reduceSub, Int.reduceMul, Int.reduceEq, Int.reduceLT, Int.reduceLE, Int.reduceToNat, Nat.reduceMul, Nat.reduceAdd, Nat.reduceSub, ←decide_not, eq_self]
  refine space_may_call (Gives.to (may_spec b b e h) fun w1 F1 => ?_)
  rw [hv]
  simp (disch := (first | omega | decide | (simp only [rsD] <;> omega) | fail)) only [↓rsC, rsK, rsL, ↓rsSpc_1, tick_eq, tickV_eq, ne_eq, Int.reduceAdd, Int.reduceSub, Int.reduceMul, Int.reduceEq, Int.reduceLT, Int.reduceLE, Int.reduceToNat, Nat.reduceMul, Nat.reduceAdd, Nat.reduceSub, ←decide_not, eq_self]
  have z1 := F1.size
  have hg := (h.ext0 F1).lt
  refine ⟨by (repeat (first | with_reducible exact Ext.refl _ _ | with_reducible assumption | with_reducible refine Ext.alloc' ?_ _ | with_reducible refine Ext.drew' ?_ | with_reducible refine Ext.set' ?_ ?_ | exact .inr (by first | omega | (simp only [World.size_alloc, World.size_drew, World.size_setCell] <;> omega)) | refine Ext.trans ?_ (by with_reducible assumption))), w1.heap.size, rfl, z1, by simp, (h.ext0 F1).ext0 (Ext.alloc [] _ _), Blk.at rfl, by omega, fun hw hm => ?_, Nat.le_refl _, hb, he⟩
  have := (h.ext0 F1).blt hw _ hm
  omega
abbrev rsSpc_2 := (And.intro @xu8_sub (And.intro @xu16_sub (And.intro @xu32_sub (And.intro @xu64_sub (And.intro @ld_3 (And.intro @fa_102_2 @fa_102_3))))))
theorem Free_spec (h : SpIs w base s g a c ws b t e) : Gives Try.prog n_space_Space_Free #[ptr s] w (i64 ((e : Int) - t)) := by
  refine space_Space_Free_of ?_
  unfold space_Space_Free
  have q1 := h.bt
  have q2 := h.te
  have q3 := h.el
  have q4 := h.mem.len
  have k := fun i => h.blk.cell (i := i)
  simp (disch := (first | omega | decide | (simp only [rsD] <;> omega) | fail)) only [↓rsC, rsK, rsL, ↓rsSpc_2, tick_eq, tickV_eq, ne_eq, Int.reduceAdd, Int.reduceSub, Int.reduceMul, Int.reduceEq, Int.reduceLT, Int.reduceLE, Int.reduceToNat, Nat.reduceMul, Nat.reduceAdd, Nat.reduceSub, ←decide_not, k]
  exact ⟨by trivial, by (repeat (first | with_reducible exact Ext.refl _ _ | with_reducible assumption | with_reducible refine Ext.alloc' ?_ _ | with_reducible refine Ext.drew' ?_ | with_reducible refine Ext.set' ?_ ?_ | exact .inr (by first | omega | (simp only [World.size_alloc, World.size_drew, World.size_setCell] <;> omega)) | refine Ext.trans ?_ (by with_reducible assumption)))⟩
theorem size_pack {p bb : Int} (h : rightP p bb false 0) : sizeV p bb false 0 = szW (packW p bb false 0) := by
  rw [(okW_pack h).2]
  have := right_f.1 h
  simp only [sizeV, h, and_self, if_true]
  omega
/-! a place's header -/
abbrev rsSpc_3 := (And.intro @xu8_neq (And.intro @xu8_lss (And.intro @xu8_geq (And.intro @xu16_neq (And.intro @xu16_lss (And.intro @xu16_geq (And.intro @xu32_neq (And.intro @xu32_lss (And.intro @xu32_geq (And.intro @xu64_neq (And.intro @xu64_lss (And.intro @xu64_geq (And.intro @xi64_lss (And.intro @xi64_geq (And.intro @xi64_neq (And.intro @xi64_neg 
  (And.intro @ld_3 (And.intro @ld_99 (And.intro @lr_123 (And.intro @fa_102_0 (And.intro @fa_102_1 (And.intro @fa_102_2 (And.intro @al_123 (And.intro @st_123 (And.intro @bd_123_0_1 (And.intro @bd_123_2_3 @bd_123))))))))))))))))))))))))))
theorem SHead_in {o : Nat} (h : SpIs w base s g a c ws b t e) (h1 : b ≤ o) (h2 : o < t) : Gives Try.prog n_space_Space_Head #[ptr s, i64 (o : Int)] w (.tuple #[hd (vP (wat ws o)) (vB (wat ws o)) (vM (wat ws o)) (vT (wat ws o)), i64 (unErr (wat ws o))]) := by
  have h3 := h.te
  have h4 := h.el
  refine space_Space_Head_of ?_
  unfold space_Space_Head
  have k := fun i => h.blk.cell (i := i)
  have z := h.blk.lt
  simp (disch := (first | omega | decide | (simp only [rsD] <;> omega) | fail)) only [↓rsC, rsK, rsL, ↓rsSpc_3, tick_eq, tickV_eq, ne_eq, Int.reduceAdd, Int.reduceSub, Int.reduceMul, Int.reduceEq, Int.reduceLT, Int.reduceLE, Int.reduceToNat, Nat.reduceMul, Nat.reduceAdd, Nat.reduceSub, ←decide_not, k]
  have B : Blk (w.alloc (.cells #[i64 0, i64 0, .bool false, i64 0] 123)) w.heap.size 123 [i64 0, i64 0, .bool false, i64 0] := Blk.at rfl
  have X : Ext [] w (w.alloc (.cells #[i64 0, i64 0, .bool false, i64 0] 123)) := Ext.alloc _ _ _
  generalize w.alloc (.cells #[i64 0, i64 0, .bool false, i64 0] 123) = y at *
  refine mem_Mem_Get_call (Gives.to (Get_ok o (h.mem.ext0 X) (by omega)) fun w1 F1 => ?_)
  simp (disch := (first | omega | decide | (simp only [rsD] <;> omega) | fail)) only [↓rsC, rsK, rsL, ↓rsSpc_3, tick_eq, tickV_eq, ne_eq, Int.reduceAdd, Int.reduceSub, Int.reduceMul, Int.reduceEq, Int.reduceLT, Int.reduceLE, Int.reduceToNat, Nat.reduceMul, Nat.reduceAdd, Nat.reduceSub, ←decide_not, k]
  refine head_Unpack_call (Gives.to (Unpack_spec _ _) fun w2 F2 => ?_)
  have k2 := fun i => ((B.ext F1 (by simp)).ext F2 (by simp)).cell (i := i)
  have f2 := fun i => ((B.ext F1 (by simp)).ext F2 (by simp)).frozen (i := i)
  simp (disch := (first | omega | decide | (simp only [rsD] <;> omega) | fail)) only [↓rsC, rsK, rsL, ↓rsSpc_3, tick_eq, tickV_eq, ne_eq, Int.reduceAdd, Int.reduceSub, Int.reduceMul, Int.reduceEq, Int.reduceLT, Int.reduceLE, Int.reduceToNat, Nat.reduceMul, Nat.reduceAdd, Nat.reduceSub, ←decide_not, k, k2, f2]
  exact ⟨by trivial, ((((X.trans (F1.trans F2)).set' (.inr (Nat.le_refl _))).set' (.inr (Nat.le_refl _))).set' (.inr (Nat.le_refl _))).set' (.inr (Nat.le_refl _))⟩
/-! a new object -/
abbrev rsSpc_5 := (And.intro @xu8_add (And.intro @xu8_neq (And.intro @xu8_lss (And.intro @xu8_gtr (And.intro @xu16_add (And.intro @xu16_neq (And.intro @xu16_lss (And.intro @xu16_gtr (And.intro @xu32_add (And.intro @xu32_neq (And.intro @xu32_lss (And.intro @xu32_gtr (And.intro @xu64_add (And.intro @xu64_neq (And.intro @xu64_lss (And.intro @xu64_gtr 
  (And.intro @xi64_lss (And.intro @xi64_gtr (And.intro @xi64_neq (And.intro @xi64_neg (And.intro @ld_3 (And.intro @ld_4 (And.intro @ld_99 (And.intro @ld_123 (And.intro @fa_102_0 (And.intro @fa_102_2 (And.intro @fa_123_2 @st_3)))))))))))))))))))))))))))
theorem SAlloc_ok {p bb : Int} {n : Nat} (S : SpIs w base s g a c ws b t e) (hr : rightP p bb false 0) (hn : n = szW (packW p bb false 0)) (hf : t + n ≤ e) :
    Yld Try.prog n_space_Space_Alloc #[ptr s, hd p bb false 0] w fun u w' => u = .tuple #[i64 (t : Int), i64 0] ∧ Ext (s :: blkOf a) w w' ∧ SpIs w' base s g a c (alW ws t (packW p bb false 0) n) b (t + n) e := by
  have q1 := S.bt
  have q2 := S.te
  have q3 := S.el
  have q4 := S.mem.len
  have q5 : 1 ≤ n := by rw [hn]; exact szW_pos
  have hw : ws ≠ [] := fun e => by subst e; simp at q3; omega
  have zs := S.blk.lt
  have za := S.mem.blt hw
  refine space_Space_Alloc_of ?_
  unfold space_Space_Alloc
  simp (disch := (first | omega | decide | (simp only [rsD] <;> omega) | fail)) only [↓rsC, rsK, rsL, ↓rsSpc_5, tick_eq, tickV_eq, ne_eq, Int.reduceAdd, Int.reduceSub, Int.reduceMul, Int.reduceEq, Int.reduceLT, Int.reduceLE, Int.reduceToNat, Nat.reduceMul, Nat.reduceAdd, Nat.reduceSub, ←decide_not, eq_self]
  have B : Blk (w.alloc (.cells #[i64 p, i64 bb, .bool false, i64 0] 123)) w.heap.size 123 [i64 p, i64 bb, .bool false, i64 0] := Blk.at rfl
  have X : Ext [] w (w.alloc (.cells #[i64 p, i64 bb, .bool false, i64 0] 123)) := Ext.alloc _ _ _
  generalize w.alloc (.cells #[i64 p, i64 bb, .bool false, i64 0] 123) = y at *
  refine head_Pack_call (Gives.to (Pack_spec p bb false 0 y) fun w1 F1 => ?_)
  have B1 := B.ext F1 (by simp)
  have k := fun i => B1.cell (i := i)
  simp (disch := (first | omega | decide | (simp only [rsD] <;> omega) | fail)) only [↓rsC, rsK, rsL, ↓rsSpc_5, tick_eq, tickV_eq, ne_eq, Int.reduceAdd, Int.reduceSub, Int.reduceMul, Int.reduceEq, Int.reduceLT, Int.reduceLE, Int.reduceToNat, Nat.reduceMul, Nat.reduceAdd, Nat.reduceSub, ←decide_not, packE, if_pos hr, k]
  refine head_Size_call (Gives.to (Size_spec p bb false 0 _) fun w2 F2 => ?_)
  rw [size_pack hr, ← hn]
  have S2 := S.ext0 (X.trans (F1.trans F2))
  refine space_Space_Free_call (Gives.to (Free_spec S2) fun w3 F3 => ?_)
  have S3 := S2.ext0 F3
  have k3 := fun i => S3.blk.cell (i := i)
  simp (disch := (first | omega | decide | (simp only [rsD] <;> omega) | fail)) only [↓rsC, rsK, rsL, ↓rsSpc_5, tick_eq, tickV_eq, ne_eq, Int.reduceAdd, Int.reduceSub, Int.reduceMul, Int.reduceEq, Int.reduceLT, Int.reduceLE, Int.reduceToNat, Nat.reduceMul, Nat.reduceAdd, Nat.reduceSub, ←decide_not, packE, if_pos hr, k, k3]
  have X3 : Ext [] w w3 := (X.trans F1).trans (F2.trans F3)
  have B3 := (B1.ext F2 (by simp)).ext F3 (by simp)
  refine mem_Mem_Set_call (Yld.mono (Set_ok t (packW p bb false 0) S3.mem (by omega)) ?_)
  rintro u w4 ⟨rfl, F4, M4⟩
  have S4 := S3.blk.ext F4 (S3.sa hw)
  have B4 := B3.ext F4 (fun hm => by have := za _ hm; omega)
  have k4 := fun i => S4.cell (i := i)
  have h4 := fun i => B4.cell (i := i)
  simp (disch := (first | omega | decide | (simp only [rsD] <;> omega) | fail)) only [↓rsC, rsK, rsL, ↓rsSpc_5, tick_eq, tickV_eq, ne_eq, Int.reduceAdd, Int.reduceSub, Int.reduceMul, Int.reduceEq, Int.reduceLT, Int.reduceLE, Int.reduceToNat, Nat.reduceMul, Nat.reduceAdd, Nat.reduceSub, ←decide_not, packE, if_pos hr, k, k3, k4, h4]
  refine head_Size_call (Gives.to (Size_spec p bb false 0 _) fun w5 F5d => ?_)
  have F5 := (Ext.drew [] w4).trans F5d
  rw [size_pack hr, ← hn]
  have S5 := S4.ext F5 (by simp)
  have k5 := fun i => S5.cell (i := i)
  have f5 := fun i => S5.frozen (i := i)
  simp (disch := (first | omega | decide | (simp only [rsD] <;> omega) | fail)) only [↓rsC, rsK, rsL, ↓rsSpc_5, tick_eq, tickV_eq, ne_eq, Int.reduceAdd, Int.reduceSub, Int.reduceMul, Int.reduceEq, Int.reduceLT, Int.reduceLE, Int.reduceToNat, Nat.reduceMul, Nat.reduceAdd, Nat.reduceSub, ←decide_not, packE, if_pos hr, k, k3, k4, h4, k5, f5]
  have S6 := S5.set (i := 2) (v := i64 ((t + n : Nat) : Int))
  have X6 : Ext (s :: blkOf a) w (w5.setCell ⟨s, 2, none⟩ (i64 ((t + n : Nat) : Int))) := (((X3.more (by simp)).trans (F4.more fun _ h => List.mem_cons_of_mem _ h)).trans (F5.more (by simp))).set' (.inl (by simp))
  have M6 := (M4.ext0 F5).ext (Ext.set (w := w5) (b := s) (o := 2) (v := i64 ((t + n : Nat) : Int))) (fun hm => S.sg (List.mem_singleton.1 hm).symm) (fun _ x hx hm => S.sa hw (List.mem_singleton.1 hm ▸ hx))
  have e6 : (t : Int) + n = ((t + n : Nat) : Int) := by omega
  rw [e6]
  generalize w5.setCell ⟨s, 2, none⟩ (i64 ((t + n : Nat) : Int)) = w6 at *
  have I6 : SpIs w6 base s g a c (ws.set t (packW p bb false 0)) b (t + n) e := ⟨M6, S6, S.sg, fun _ => S.sa hw, by omega, hf, by simpa using q3⟩
  refine xLoop_r (n - 1) (fun j vs w' => vs = [i64 ((t + 1 + j : Nat) : Int)] ∧ Ext (s :: blkOf a) w w' ∧ SpIs w' base s g a c (zr (ws.set t (packW p bb false 0)) (t + 1) j) b (t + n) e) ⟨by simp, X6, by rw [zr_zero]; exact I6⟩ ?_ ?_
  · rintro j hk u v1 ⟨hu, F, I⟩ nxt hnx
    simp only [List.map_cons, List.map_nil, List.cons.injEq, and_true] at hu
    rw [hu]
    have e2 : (((t + 1 + j : Nat) : Int) + 1) = ((t + 1 + (j + 1) : Nat) : Int) := by omega
    have hz := zr_set (ws := ws.set t (packW p bb false 0)) (o := t + 1) (n := j)
    have ho : t + 1 + j < t + n := by omega
    generalize t + 1 + j = o at *
    have ki := fun i => I.blk.cell (i := i)
    unfold space_Space_Alloc_l1
    simp (disch := (first | omega | decide | (simp only [rsD] <;> omega) | fail)) only [↓rsC, rsK, rsL, ↓rsSpc_5, tick_eq, tickV_eq, ne_eq, Int.reduceAdd, Int.reduceSub, Int.reduceMul, Int.reduceEq, Int.reduceLT, Int.reduceLE, Int.reduceToNat, Nat.reduceMul, Nat.reduceAdd, Nat.reduceSub, ←decide_not, packE, if_pos hr, k, k3, k4, h4, k5, f5, ki]
    refine mem_Mem_Set_call (Yld.mono (Set_ok o c0 I.mem (by simp; omega)) ?_)
    rintro u w7 ⟨rfl, F7, M7⟩
    rw [hz] at M7
    have hw' : zr (ws.set t (packW p bb false 0)) (t + 1) j ≠ [] := fun e => hw (by have := congrArg List.length e; simp at this; exact this)
    simp (disch := (first | omega | decide | (simp only [rsD] <;> omega) | fail)) only [↓rsC, rsK, rsL, ↓rsSpc_5, tick_eq, tickV_eq, ne_eq, Int.reduceAdd, Int.reduceSub, Int.reduceMul, Int.reduceEq, Int.reduceLT, Int.reduceLE, Int.reduceToNat, Nat.reduceMul, Nat.reduceAdd, Nat.reduceSub, ←decide_not, packE, if_pos hr, k, k3, k4, h4, k5, f5, ki]
    rw [e2]
    exact hnx _ _ ⟨rfl, F.trans (F7.more fun _ h => List.mem_cons_of_mem _ h), M7, I.blk.ext F7 (I.sa hw'), I.sg, fun _ => I.sa hw', by omega, hf, by simpa using q3⟩
  · rintro u v1 ⟨hu, F, I⟩ nxt
    simp only [List.map_cons, List.map_nil, List.cons.injEq, and_true] at hu
    rw [hu]
    have ki := fun i => I.blk.cell (i := i)
    unfold space_Space_Alloc_l1
    simp (disch := (first | omega | decide | (simp only [rsD] <;> omega) | fail)) only [↓rsC, rsK, rsL, ↓rsSpc_5, tick_eq, tickV_eq, ne_eq, Int.reduceAdd, Int.reduceSub, Int.reduceMul, Int.reduceEq, Int.reduceLT, Int.reduceLE, Int.reduceToNat, Nat.reduceMul, Nat.reduceAdd, Nat.reduceSub, ←decide_not, packE, if_pos hr, k, k3, k4, h4, k5, f5, ki]
    exact ⟨by trivial, F, I⟩
end
end Go.Proofs.Ytdpmidgeipibbaa
end
section
set_option linter.unusedVariables false
set_option linter.unusedSimpArgs false
set_option maxHeartbeats 4000000
namespace Go.Proofs.Ytdpmidgeipibbaa
open Go.Sh Go.RowKit

def IntsR (w w' : World) (v : Value) (l : List Nat) : Prop := Ext [] w w' ∧ ∃ a c, v = .slice a l.length c ∧ l.length ≤ c ∧ RowAt w' a (nums l)
def ObjR (e0 e1 : Value) (w w' : World) (u : Value) : Option (List Nat) → Prop
  | some l => ∃ v, u = .tuple #[v, e0] ∧ IntsR w w' v l
  | none => u = .tuple #[.slice none 0 0, e1] ∧ Ext [] w w'
theorem SizeW_spec {x : BitVec 64} (h : okW x) (w : World) : Gives Try.prog n_head_Size #[hd (vP x) (vB x) false (vT x)] w (i64 (szW x : Int)) := by
  have e := (okW_size h).1
  rw [(okW_size h).2.2.1] at e
  rw [← e]
  exact Size_spec _ _ _ _ w
abbrev rsSpc2_0 := (And.intro @ln_66 (And.intro @sh_66 @sm_66))
theorem ClipI_spec {w : World} {b : Option Addr} {n m : Nat} (hm : n ≤ m) : Gives Try.prog n_slices_Clip_int_int #[.slice b n m] w (.slice b n n) := by
  refine slices_Clip_int_int_of ?_
  unfold slices_Clip_int_int
  simp (disch := (first | omega | decide | (simp only [rsD] <;> omega) | fail)) only [↓rsC, rsK, rsL, ↓rsSpc2_0, tick_eq, tickV_eq, ne_eq, Int.reduceAdd, Int.reduceSub, Int.reduceMul, Int.reduceEq, Int.reduceLT, Int.reduceLE, Int.reduceToNat, Nat.reduceMul, Nat.reduceAdd, Nat.reduceSub, ←decide_not, eq_self]
  exact ⟨by trivial, by (repeat (first | with_reducible exact Ext.refl _ _ | with_reducible assumption | with_reducible refine Ext.alloc' ?_ _ | with_reducible refine Ext.drew' ?_ | with_reducible refine Ext.set' ?_ ?_ | exact .inr (by first | omega | (simp only [World.size_alloc, World.size_drew, World.size_setCell] <;> omega)) | refine Ext.trans ?_ (by with_reducible assumption)))⟩
abbrev NewI (w w' : World) (v : Value) (l : List Nat) : Prop := NewR 3 1 w w' v l.length (nums l)
/-- what the walk has seen, and what is left -/
def Mid (ws : List (BitVec 64)) (b t : Nat) (w : World) (j : Nat) (vs : List Value) (w' : World) : Prop :=
  ∃ v o p f, vs = [v, i64 ((o : Nat) : Int)] ∧ b + j ≤ o ∧ o ≤ t ∧ t ≤ o + f ∧ objs ws b t = (walk ws t f o).map (p ++ ·) ∧ p.length = j ∧ NewI w w' v p
section
variable {w : World} {base s g : Nat} {a : Option Addr} {c : Nat} {ws : List (BitVec 64)} {b t e : Nat}
abbrev rsSpc2_1 := (And.intro @xu8_add (And.intro @xu8_sub (And.intro @xu8_neq (And.intro @xu8_lss (And.intro @xu8_gtr (And.intro @xu16_add (And.intro @xu16_sub (And.intro @xu16_neq (And.intro @xu16_lss (And.intro @xu16_gtr (And.intro @xu32_add (And.intro @xu32_sub (And.intro @xu32_neq (And.intro @xu32_lss (And.intro @xu32_gtr (And.intro @xu64_add 
  (And.intro @xu64_sub (And.intro @xu64_neq (And.intro @xu64_lss (And.intro @xu64_gtr (And.intro @xi64_lss (And.intro @xi64_gtr (And.intro @xi64_neq (And.intro @xi64_neg (And.intro @ld_3 (And.intro @ld_4 (And.intro @ld_123 (And.intro @fa_102_1 (And.intro @fa_102_2 (And.intro @fa_123_2 (And.intro @al_123 (And.intro @st_123 (And.intro @bs_66_0 @bs_66_1)))))))))))))))))))))))))))))))))
theorem SObjects_spec (S : SpIs w base s g a c ws b t e) : Yld Try.prog n_space_Space_Objects #[ptr s] w fun u w' => ObjR (i64 0) (i64 2) w w' u (objs ws b t) := by
  have q1 := S.bt
  have q2 := S.te
  have q3 := S.el
  have q4 := S.mem.len
  refine space_Space_Objects_of ?_
  unfold space_Space_Objects
  have k := fun i => S.blk.cell (i := i)
  simp (disch := (first | omega | decide | (simp only [rsD] <;> omega) | fail)) only [↓rsC, rsK, rsL, ↓rsSpc2_1, tick_eq, tickV_eq, ne_eq, Int.reduceAdd, Int.reduceSub, Int.reduceMul, Int.reduceEq, Int.reduceLT, Int.reduceLE, Int.reduceToNat, Nat.reduceMul, Nat.reduceAdd, Nat.reduceSub, ←decide_not, k]
  refine xLoop_r (t - b + 1) (Mid ws b t w) ⟨_, b, [], t, rfl, Nat.le_refl _, q1, by omega, by simp [objs], rfl, NewR.nil (Ext.refl _ _)⟩ ?_ ?_
  · rintro j hj u v1 ⟨v, o, p, f, hu, h1, h2, h3, h4, h5, N⟩ nxt hnx
    simp only [List.map_cons, List.map_nil, List.cons.injEq, and_true] at hu
    rw [hu.1, hu.2]
    have S1 := S.ext0 N.1
    have k1 := fun i => S1.blk.cell (i := i)
    have zv := N.2.1.lt
    have N1 := N.1
    unfold space_Space_Objects_l1
    simp (disch := (first | omega | decide | (simp only [rsD] <;> omega) | fail)) only [↓rsC, rsK, rsL, ↓rsSpc2_1, tick_eq, tickV_eq, ne_eq, Int.reduceAdd, Int.reduceSub, Int.reduceMul, Int.reduceEq, Int.reduceLT, Int.reduceLE, Int.reduceToNat, Nat.reduceMul, Nat.reduceAdd, Nat.reduceSub, ←decide_not, k, k1]
    by_cases ho : o < t
    · simp (disch := (first | omega | decide | (simp only [rsD] <;> omega) | fail)) only [↓rsC, rsK, rsL, ↓rsSpc2_1, tick_eq, tickV_eq, ne_eq, Int.reduceAdd, Int.reduceSub, Int.reduceMul, Int.reduceEq, Int.reduceLT, Int.reduceLE, Int.reduceToNat, Nat.reduceMul, Nat.reduceAdd, Nat.reduceSub, ←decide_not, k, k1]
      have hf : ∃ f', f = f' + 1 := ⟨f - 1, by omega⟩
      obtain ⟨f', rfl⟩ := hf
      unfold walk at h4
      rw [if_pos ho] at h4
      have hh := SHead_in S1 (by omega) ho
      by_cases hk : okW (wat ws o)
      · obtain ⟨e1, e2, e3, e4, e5⟩ := okW_size hk
        rw [e2, e3] at hh
        refine space_Space_Head_call (Gives.to hh fun w2 F2 => ?_)
        have S2 := S1.ext0 F2
        simp (disch := (first | omega | decide | (simp only [rsD] <;> omega) | fail)) only [↓rsC, rsK, rsL, ↓rsSpc2_1, tick_eq, tickV_eq, ne_eq, Int.reduceAdd, Int.reduceSub, Int.reduceMul, Int.reduceEq, Int.reduceLT, Int.reduceLE, Int.reduceToNat, Nat.reduceMul, Nat.reduceAdd, Nat.reduceSub, ←decide_not, k, k1]
        have B : Blk (w2.alloc (.cells #[i64 (vP (wat ws o)), i64 (vB (wat ws o)), .bool false, i64 (vT (wat ws o))] 123)) w2.heap.size 123 [i64 (vP (wat ws o)), i64 (vB (wat ws o)), .bool false, i64 (vT (wat ws o))] := Blk.at rfl
        have X : Ext [] w2 (w2.alloc (.cells #[i64 (vP (wat ws o)), i64 (vB (wat ws o)), .bool false, i64 (vT (wat ws o))] 123)) := Ext.alloc _ _ _
        have kS := fun i => (S2.ext0 X).blk.cell (i := i)
        simp (disch := (first | omega | decide | (simp only [rsD] <;> omega) | fail)) only [↓rsC, rsK, rsL, ↓rsSpc2_1, tick_eq, tickV_eq, ne_eq, Int.reduceAdd, Int.reduceSub, Int.reduceMul, Int.reduceEq, Int.reduceLT, Int.reduceLE, Int.reduceToNat, Nat.reduceMul, Nat.reduceAdd, Nat.reduceSub, ←decide_not, k, k1, kS]
        refine head_Size_call (Gives.to (SizeW_spec hk _) fun w3 F3d => ?_)
        have F3 := (Ext.drew [] _).trans F3d
        have S3 := (S2.ext0 X).ext0 F3
        have B3 := B.ext F3 (by simp)
        have N3 := N.ext (F2.trans (X.trans F3))
        have k3 := fun i => S3.blk.cell (i := i)
        have z2 := F2.size
        by_cases hs : o + szW (wat ws o) ≤ t
        · rw [if_pos ⟨hk, hs⟩] at h4
          simp (disch := (first | omega | decide | (simp only [rsD] <;> omega) | fail)) only [↓rsC, rsK, rsL, ↓rsSpc2_1, tick_eq, tickV_eq, ne_eq, Int.reduceAdd, Int.reduceSub, Int.reduceMul, Int.reduceEq, Int.reduceLT, Int.reduceLE, Int.reduceToNat, Nat.reduceMul, Nat.reduceAdd, Nat.reduceSub, ←decide_not, k, k1, kS, k3]
          refine appIl N3.2.1 rfl (by omega) fun v' w4 O4 F4 => ?_
          have B4 := B3.ext F4.ext (fun hm => by have := zv _ hm; omega)
          have k4 := fun i => B4.cell (i := i)
          simp (disch := (first | omega | decide | (simp only [rsD] <;> omega) | fail)) only [↓rsC, rsK, rsL, ↓rsSpc2_1, tick_eq, tickV_eq, ne_eq, Int.reduceAdd, Int.reduceSub, Int.reduceMul, Int.reduceEq, Int.reduceLT, Int.reduceLE, Int.reduceToNat, Nat.reduceMul, Nat.reduceAdd, Nat.reduceSub, ←decide_not, k, k1, kS, k3, k4]
          refine head_Size_call (Gives.to (SizeW_spec hk _) fun w5 F5 => ?_)
          simp (disch := (first | omega | decide | (simp only [rsD] <;> omega) | fail)) only [↓rsC, rsK, rsL, ↓rsSpc2_1, tick_eq, tickV_eq, ne_eq, Int.reduceAdd, Int.reduceSub, Int.reduceMul, Int.reduceEq, Int.reduceLT, Int.reduceLE, Int.reduceToNat, Nat.reduceMul, Nat.reduceAdd, Nat.reduceSub, ←decide_not, k, k1, kS, k3, k4]
          have e6 : (o : Int) + szW (wat ws o) = ((o + szW (wat ws o) : Nat) : Int) := by omega
          rw [e6]
          refine hnx _ _ ⟨v', o + szW (wat ws o), p ++ [o], f', rfl, by omega, hs, by omega, ?_, by simp [h5], (N3.app O4 F4).ext F5⟩
          rw [h4, Option.map_map]
          congr 1
          funext r
          simp
        · rw [if_neg (fun h => hs h.2)] at h4
          rw [h4]
          simp (disch := (first | omega | decide | (simp only [rsD] <;> omega) | fail)) only [↓rsC, rsK, rsL, ↓rsSpc2_1, tick_eq, tickV_eq, ne_eq, Int.reduceAdd, Int.reduceSub, Int.reduceMul, Int.reduceEq, Int.reduceLT, Int.reduceLE, Int.reduceToNat, Nat.reduceMul, Nat.reduceAdd, Nat.reduceSub, ←decide_not, k, k1, kS, k3]
          exact ⟨by trivial, N.1.trans (F2.trans (X.trans F3))⟩
      · rw [if_neg (fun h => hk h.1)] at h4
        rw [h4]
        by_cases he : unErr (wat ws o) = 0
        · rw [he, okW_not hk he] at hh
          refine space_Space_Head_call (Gives.to hh fun w2 F2 => ?_)
          simp (disch := (first | omega | decide | (simp only [rsD] <;> omega) | fail)) only [↓rsC, rsK, rsL, ↓rsSpc2_1, tick_eq, tickV_eq, ne_eq, Int.reduceAdd, Int.reduceSub, Int.reduceMul, Int.reduceEq, Int.reduceLT, Int.reduceLE, Int.reduceToNat, Nat.reduceMul, Nat.reduceAdd, Nat.reduceSub, ←decide_not, k, k1]
          exact ⟨by trivial, by (repeat (first | with_reducible exact Ext.refl _ _ | with_reducible assumption | with_reducible refine Ext.alloc' ?_ _ | with_reducible refine Ext.drew' ?_ | with_reducible refine Ext.set' ?_ ?_ | exact .inr (by first | omega | (simp only [World.size_alloc, World.size_drew, World.size_setCell] <;> omega)) | refine Ext.trans ?_ (by with_reducible assumption)))⟩
        · refine space_Space_Head_call (Gives.to hh fun w2 F2 => ?_)
          simp (disch := (first | omega | decide | (simp only [rsD] <;> omega) | fail)) only [↓rsC, rsK, rsL, ↓rsSpc2_1, tick_eq, tickV_eq, ne_eq, Int.reduceAdd, Int.reduceSub, Int.reduceMul, Int.reduceEq, Int.reduceLT, Int.reduceLE, Int.reduceToNat, Nat.reduceMul, Nat.reduceAdd, Nat.reduceSub, ←decide_not, k, k1]
          exact ⟨by trivial, by (repeat (first | with_reducible exact Ext.refl _ _ | with_reducible assumption | with_reducible refine Ext.alloc' ?_ _ | with_reducible refine Ext.drew' ?_ | with_reducible refine Ext.set' ?_ ?_ | exact .inr (by first | omega | (simp only [World.size_alloc, World.size_drew, World.size_setCell] <;> omega)) | refine Ext.trans ?_ (by with_reducible assumption)))⟩
    · have e1 : o = t := by omega
      subst e1
      have h6 : objs ws b o = some p := by
        rw [h4]
        cases f with
        | zero => simp [walk]
        | succ f => simp [walk]
      rw [h6]
      obtain ⟨a2, c2, rfl, hc2, _, hn2, hr2, _⟩ := N.2.1.slice
      simp (disch := (first | omega | decide | (simp only [rsD] <;> omega) | fail)) only [↓rsC, rsK, rsL, ↓rsSpc2_1, tick_eq, tickV_eq, ne_eq, Int.reduceAdd, Int.reduceSub, Int.reduceMul, Int.reduceEq, Int.reduceLT, Int.reduceLE, Int.reduceToNat, Nat.reduceMul, Nat.reduceAdd, Nat.reduceSub, ←decide_not, k, k1]
      refine slices_Clip_int_int_call (Gives.to (ClipI_spec hc2) fun w2 F2 => ?_)
      simp (disch := (first | omega | decide | (simp only [rsD] <;> omega) | fail)) only [↓rsC, rsK, rsL, ↓rsSpc2_1, tick_eq, tickV_eq, ne_eq, Int.reduceAdd, Int.reduceSub, Int.reduceMul, Int.reduceEq, Int.reduceLT, Int.reduceLE, Int.reduceToNat, Nat.reduceMul, Nat.reduceAdd, Nat.reduceSub, ←decide_not, k, k1]
      exact ⟨_, rfl, N.1.trans F2, a2, p.length, rfl, Nat.le_refl _, hr2.ext0 F2⟩
  · rintro u v1 ⟨v, o, p, f, hu, h1, h2, h3, h4, h5, N⟩ nxt
    omega
abbrev rsSpc2_2 := (And.intro @xu8_com (And.intro @xu8_neq (And.intro @xu16_com (And.intro @xu16_neq (And.intro @xu32_com (And.intro @xu32_neq (And.intro @xu64_com (And.intro @xu64_neq (And.intro @xi64_neq (And.intro @xi64_neg @bd_102_0_1_2_3))))))))))
theorem SOf_spec {b t e : Nat} (h : MemIs w base g a c ws) (hb : b ≤ t) (ht : t ≤ e) (he : e ≤ ws.length) : Yld Try.prog n_space_Of #[ptr g, i64 (b : Int), i64 (t : Int), i64 (e : Int)] w fun u w' => Ext [] w w' ∧
    match objs ws b t with
    | some _ => ∃ s, u = .tuple #[ptr s, i64 0] ∧ w.heap.size ≤ s ∧ SpIs w' base s g a c ws b t e
    | none => u = .tuple #[.pointer none, i64 2] := by
  refine space_Of_of ?_
  unfold space_Of
  have hv : decide (mayP b t e ws.length) = true := decide_eq_true (by unfold mayP; omega)
  simp (disch := (first | omega | decide | (simp only [rsD] <;> omega) | fail)) only [↓rsC, rsK, rsL, ↓rsSpc2_2, tick_eq, tickV_eq, ne_eq, Int.reduceAdd, Int.reduceSub, Int.reduceMul, Int.reduceEq, Int.reduceLT, Int.reduceLE, Int.reduceToNat, Nat.reduceMul, Nat.reduceAdd, Nat.reduceSub, ←decide_not, eq_self]
  refine space_may_call (Gives.to (may_spec b t e h) fun w1 F1 => ?_)
  rw [hv]
  simp (disch := (first | omega | decide | (simp only [rsD] <;> omega) | fail)) only [↓rsC, rsK, rsL, ↓rsSpc2_2, tick_eq, tickV_eq, ne_eq, Int.reduceAdd, Int.reduceSub, Int.reduceMul, Int.reduceEq, Int.reduceLT, Int.reduceLE, Int.reduceToNat, Nat.reduceMul, Nat.reduceAdd, Nat.reduceSub, ←decide_not, eq_self]
  have z1 := F1.size
  have hg := (h.ext0 F1).lt
  have S : SpIs (w1.alloc (.cells #[ptr g, i64 (b : Int), i64 (t : Int), i64 (e : Int)] 102)) base w1.heap.size g a c ws b t e := ⟨(h.ext0 F1).ext0 (Ext.alloc [] _ _), Blk.at rfl, by omega, fun hw hm => by
    have := (h.ext0 F1).blt hw _ hm
    omega, hb, ht, he⟩
  have X : Ext [] w (w1.alloc (.cells #[ptr g, i64 (b : Int), i64 (t : Int), i64 (e : Int)] 102)) := F1.trans (Ext.alloc _ _ _)
  generalize w1.alloc (.cells #[ptr g, i64 (b : Int), i64 (t : Int), i64 (e : Int)] 102) = y at *
  refine space_Space_Objects_call (Yld.mono (SObjects_spec S) ?_)
  intro u w2 hu
  cases ho : objs ws b t with
  | some l =>
    rw [ho] at hu
    obtain ⟨v, rfl, F2, _⟩ := hu
    simp (disch := (first | omega | decide | (simp only [rsD] <;> omega) | fail)) only [↓rsC, rsK, rsL, ↓rsSpc2_2, tick_eq, tickV_eq, ne_eq, Int.reduceAdd, Int.reduceSub, Int.reduceMul, Int.reduceEq, Int.reduceLT, Int.reduceLE, Int.reduceToNat, Nat.reduceMul, Nat.reduceAdd, Nat.reduceSub, ←decide_not, eq_self]
    exact ⟨X.trans F2, w1.heap.size, rfl, z1, S.ext0 F2⟩
  | none =>
    rw [ho] at hu
    obtain ⟨rfl, F2⟩ := hu
    simp (disch := (first | omega | decide | (simp only [rsD] <;> omega) | fail)) only [↓rsC, rsK, rsL, ↓rsSpc2_2, tick_eq, tickV_eq, ne_eq, Int.reduceAdd, Int.reduceSub, Int.reduceMul, Int.reduceEq, Int.reduceLT, Int.reduceLE, Int.reduceToNat, Nat.reduceMul, Nat.reduceAdd, Nat.reduceSub, ←decide_not, eq_self]
    exact ⟨X.trans F2, by trivial⟩
end
end Go.Proofs.Ytdpmidgeipibbaa
end
section
set_option linter.unusedVariables false
set_option linter.unusedSimpArgs false
set_option maxHeartbeats 4000000
namespace Go.Proofs.Ytdpmidgeipibbaa
open Go.Sh Go.RowKit

abbrev rfC (r : Option Addr) (n c b t e : Nat) : List Value := [.slice r n c, i64 (b : Int), i64 (t : Int), i64 (e : Int)]
structure RfIs (w : World) (m : Nat) (r : Option Addr) (c : Nat) (ws : List (BitVec 64)) (b t e : Nat) : Prop where
  blk : Blk w m 46 (rfC r ws.length c b t e)
  row : RowAt w r (wrds ws)
  cap : ws.length ≤ c
  nil : r = none → c = 0
  mr : ws ≠ [] → m ∉ blkOf r
  len : ws.length ≤ 8192
  bt : b ≤ t
  te : t ≤ e
  el : e ≤ ws.length
theorem row_not {w : World} {r : Option Addr} {cs : List Value} {M : List Nat} (h : ∀ x ∈ blkOf r, x ∉ M) : ∀ b o, r = some ⟨b, o, none⟩ → b ∉ M := fun b o e => h b (by subst e; simp [blkOf])
section
variable {w : World} {m : Nat} {r : Option Addr} {c : Nat} {ws : List (BitVec 64)} {b t e : Nat}
theorem RfIs.ext {w' : World} {M : List Nat} (h : RfIs w m r c ws b t e) (hx : Ext M w w') (hm : m ∉ M) (hr : ws ≠ [] → ∀ x ∈ blkOf r, x ∉ M) : RfIs w' m r c ws b t e := by
  refine ⟨h.blk.ext hx hm, ?_, h.cap, h.nil, h.mr, h.len, h.bt, h.te, h.el⟩
  by_cases hw : ws = []
  · subst hw; exact RowAt.nil
  · exact h.row.ext hx (row_not (cs := []) (w := w) (hr hw))
theorem RfIs.ext0 {w' : World} (h : RfIs w m r c ws b t e) (hx : Ext [] w w') : RfIs w' m r c ws b t e := h.ext hx (by simp) (by simp)
end
end Go.Proofs.Ytdpmidgeipibbaa
end
section
set_option linter.unusedVariables false
set_option linter.unusedSimpArgs false
set_option maxHeartbeats 4000000
namespace Go.Proofs.Ytdpmidgeipibbaa
open Go.Sh Go.RowKit

theorem geS {cx cy : Bool} (a b : ByteArray) (w : World) (K : K1) : xBin Try.prog .geq 9 cx (.string a) cy (.string b) w K = K (.bool (!Op.bytesLess a.toList b.toList)) w := xBin_ok (by simp [eqGuard, binOp, Op.stringOp])
theorem ixS (l : List (BitVec 8)) {j : Nat} (hj : j < l.length) (w : World) (K : K1) : xIndex Try.prog 9 (.string (strOf l)) (i64 (j : Int)) w K = K (u8 l[j]) w := by
  refine xIndex_ok ?_
  have h := run_index_string (P := Try.prog) (w := w) 9 (strOf l) .i64 (j : Int) (by kernel_rfl)
  have hs := strOf_size (l := l)
  rw [h, dif_pos ⟨by omega, by omega⟩]
  have e : (strOf l)[((j : Int)).toNat]'(by omega) = UInt8.ofBitVec l[j] := by
    simp [strOf, ByteArray.getElem_eq_getElem_data]
  exact congrArg (fun z : UInt8 => Result.ok (Value.int .u8 (z.toNat : Int)) w) e
structure GoodG (ns : List GN) (rs : List GR) : Prop where
  x : ∀ x ∈ ns, (∀ p ∈ x.p, 0 ≤ p ∧ p ≤ ns.length) ∧ x.p.length ≤ 64 ∧ x.d.length ≤ 1024
  r : rs.length ≤ 64
  s : ∀ r ∈ rs, (1 ≤ r.s.length ∧ r.s.length ≤ 32 ∧ ∀ c ∈ r.s, c ≠ BitVec.ofNat 8 0) ∧ 0 ≤ r.to ∧ r.to ≤ ns.length
  o : ∀ i (h : i + 1 < rs.length), Op.bytesLess (strOf rs[i].s).toList (strOf rs[i + 1].s).toList = true
theorem its_at {w : World} {l : List Int} {a : Option Addr} {k : Nat} (h : RowAt w a (its l)) (hk : k < l.length) : ∃ b o, a = some ⟨b, o, none⟩ ∧ b < w.heap.size ∧ w.cell? ⟨b, o + k, none⟩ = some (i64 l[k]) := by
  obtain ⟨b, o, h1, h2, h3⟩ := h.at (i := k) (by simpa using hk)
  simp only [List.getElem_map] at h3
  exact ⟨b, o, h1, h2, h3⟩
/-- a node's words -/
def gsz (x : GN) : Nat := 1 + x.p.length + (x.d.length + 7) / 8
end Go.Proofs.Ytdpmidgeipibbaa
end
section
set_option linter.unusedVariables false
set_option linter.unusedSimpArgs false
set_option maxHeartbeats 4000000
namespace Go.Proofs.Ytdpmidgeipibbaa
open Go.Sh Go.RowKit

section
end
end Go.Proofs.Ytdpmidgeipibbaa
end
section
set_option linter.unusedVariables false
set_option linter.unusedSimpArgs false
set_option maxHeartbeats 4000000
namespace Go.Proofs.Ytdpmidgeipibbaa
open Go.Sh Go.RowKit

theorem RowAt.apart {w0 w w' : World} {a : Option Addr} {cs : List Value} {M : List Nat} (h : RowAt w0 a cs) (h0 : Ext [] w0 w) (hx : Ext M w w') (hm : ∀ g ∈ M, w0.heap.size ≤ g) : RowAt w' a cs := by
  by_cases hc : cs = []
  · rw [hc]; exact RowAt.nil
  · obtain ⟨b, o, rfl, hb, _⟩ := h.get hc
    refine (h.ext0 h0).ext hx fun b' o' e hmem => ?_
    cases e
    have := hm b hmem
    omega
section
end
end Go.Proofs.Ytdpmidgeipibbaa
end
section
set_option linter.unusedVariables false
set_option linter.unusedSimpArgs false
set_option maxHeartbeats 4000000
namespace Go.Proofs.Ytdpmidgeipibbaa
open Go.Sh Go.RowKit Go.ChangeShapes Go.WideShapes Go.ChangeAt

end Go.Proofs.Ytdpmidgeipibbaa
end
section
set_option linter.unusedVariables false
set_option linter.unusedSimpArgs false
set_option maxHeartbeats 4000000
namespace Go.Proofs.Ytdpmidgeipibbaa
open Go.Sh Go.RowKit

abbrev z8 : BitVec 8 := BitVec.ofNat 8 0
def cutN (l : List (BitVec 8)) : List (BitVec 8) := l.takeWhile fun c => decide (c ≠ z8)
def idxN (l : List (BitVec 8)) : Int := if z8 ∈ l then ((cutN l).length : Int) else -1
theorem cutN_le (l : List (BitVec 8)) : (cutN l).length ≤ l.length := (List.takeWhile_prefix _).length_le
theorem cutN_no (l : List (BitVec 8)) : z8 ∉ cutN l := fun h => by
  have := List.all_takeWhile (p := fun c : BitVec 8 => decide (c ≠ z8)) (l := l)
  have h2 := List.all_eq_true.1 this z8 h
  simp at h2
theorem cutN_take (l : List (BitVec 8)) : l.take (cutN l).length = cutN l := (List.prefix_iff_eq_take.1 (List.takeWhile_prefix _)).symm
theorem cutN_self {l : List (BitVec 8)} (h : z8 ∉ l) : cutN l = l := by
  induction l with
  | nil => rfl
  | cons c l ih =>
    have h1 : c ≠ z8 := fun e => h (e ▸ List.mem_cons_self ..)
    have := ih fun h2 => h (List.mem_cons_of_mem _ h2)
    unfold cutN at this ⊢
    rw [List.takeWhile_cons, if_pos (decide_eq_true h1), this]
theorem idx_lib : ∀ l : List (BitVec 8), Lib.indexByte (l.map UInt8.ofBitVec) 0 = idxN l
  | [] => rfl
  | c :: l => by
    have ih := idx_lib l
    rw [List.map_cons, Lib.indexByte]
    by_cases hc : c = z8
    · subst hc
      rw [if_pos (by decide)]
      unfold idxN cutN
      simp
    · rw [if_neg (by
        intro h
        have h2 : UInt8.ofBitVec c = 0 := eq_of_beq h
        exact hc (congrArg UInt8.toBitVec h2)), ih]
      have hcut : cutN (c :: l) = c :: cutN l := by
        unfold cutN
        rw [List.takeWhile_cons, if_pos (decide_eq_true hc)]
      unfold idxN
      by_cases hm : z8 ∈ l
      · rw [if_pos hm, if_pos (List.mem_cons_of_mem _ hm), hcut, if_neg (by
          intro h
          have h2 : ((cutN l).length : Int) = -1 := eq_of_beq h
          omega)]
        simp
      · have h3 : z8 ∉ c :: l := by
          rintro h
          rcases List.mem_cons.1 h with h | h
          · exact hc h.symm
          · exact hm h
        rw [if_neg hm, if_neg h3]
        rfl
theorem idxN_lt (l : List (BitVec 8)) : idxN l ≤ l.length := by
  have := cutN_le l
  unfold idxN
  split <;> omega
theorem call_ix (l : List (BitVec 8)) {w : World} {K : K1} (h : K (i64 (idxN l)) w) : xCall Try.prog (fnv n_internal_bytealg_IndexByteString) [.string (strOf l), c8 0] w K := by
  refine ⟨?_⟩
  have hr := run_callFunc_extern (P := Try.prog) (f := n_internal_bytealg_IndexByteString) (fn := ((Try.prog).funcs[n_internal_bytealg_IndexByteString]?).get (by kernel_rfl)) (by kernel_rfl) (by kernel_rfl) (by kernel_rfl) (by kernel_rfl) (e := Extern.BytealgIndexByte.indexByte) (by kernel_rfl) #[.string (strOf l), c8 0] w
  have hx := Lib.run_indexByteString (P := Try.prog) (strOf l) 0 w
  have e : Lib.indexByte (strOf l).data.toList ((0 : Int).toNat.toUInt8) = idxN l := by
    rw [← idx_lib]
    simp [strOf]
  rw [e] at hx
  have : ((do let d ← Deferred.ofValue (fnv n_internal_bytealg_IndexByteString) #[.string (strOf l), c8 0]; invoke d.target d.args : Sem Next)).run Try.prog w = .ok (.value (i64 (idxN l))) w := by
    have h3 : ((do let d ← Deferred.ofValue (fnv n_internal_bytealg_IndexByteString) #[.string (strOf l), c8 0]; invoke d.target d.args : Sem Next)).run Try.prog w = (callFunc n_internal_bytealg_IndexByteString #[.string (strOf l), c8 0]).run Try.prog w := by
      simp [Deferred.ofValue, invoke, Sem.run]
    rw [h3, hr]
    have hx2 : (Extern.BytealgIndexByte.indexByte #[.string (strOf l), c8 0]).run Try.prog w = .ok (i64 (idxN l)) w := hx
    rw [hx2]
    rfl
  show okN Try.prog _ K
  rw [show ([.string (strOf l), c8 0] : List Value).toArray = #[.string (strOf l), c8 0] from rfl, this]
  exact h
theorem byIx_spec (l : List (BitVec 8)) (w : World) : Gives Try.prog n_internal_stringslite_IndexByte #[.string (strOf l), c8 0] w (i64 (idxN l)) := by
  refine internal_stringslite_IndexByte_of ?_
  unfold internal_stringslite_IndexByte
  refine call_ix l ?_
  simp (disch := (first | omega | decide | (simp only [rsD] <;> omega) | fail)) only [↓rsC, rsK, rsL, tick_eq, tickV_eq, ne_eq, Int.reduceAdd, Int.reduceSub, Int.reduceMul, Int.reduceEq, Int.reduceLT, Int.reduceLE, Int.reduceToNat, Nat.reduceMul, Nat.reduceAdd, Nat.reduceSub, ←decide_not, eq_self]
  exact ⟨by trivial, by (repeat (first | with_reducible exact Ext.refl _ _ | with_reducible assumption | with_reducible refine Ext.alloc' ?_ _ | with_reducible refine Ext.drew' ?_ | with_reducible refine Ext.set' ?_ ?_ | exact .inr (by first | omega | (simp only [World.size_alloc, World.size_drew, World.size_setCell] <;> omega)) | refine Ext.trans ?_ (by with_reducible assumption)))⟩
theorem strZ : ({ data := #[0] } : ByteArray) = strOf [z8] := by decide +kernel
abbrev rsNm_0 := (And.intro @xu8_add (And.intro @xu8_sub (And.intro @xu8_eql (And.intro @xu8_leq (And.intro @xu8_geq (And.intro @xu16_add (And.intro @xu16_sub (And.intro @xu16_eql (And.intro @xu16_leq (And.intro @xu16_geq (And.intro @xu32_add (And.intro @xu32_sub (And.intro @xu32_eql (And.intro @xu32_leq (And.intro @xu32_geq (And.intro @xu64_add 
  (And.intro @xu64_sub (And.intro @xu64_eql (And.intro @xu64_leq (And.intro @xu64_geq (And.intro @xi64_leq (And.intro @xi64_geq (And.intro @xi64_eql (And.intro @ld_3 @ln_9))))))))))))))))))))))))
theorem sIndex_spec (l : List (BitVec 8)) (w : World) : Gives Try.prog n_internal_stringslite_Index #[.string (strOf l), .string ⟨#[0]⟩] w (i64 (idxN l)) := by
  have hi := idxN_lt l
  have h1 : (strOf [z8]).size = 1 := by decide +kernel
  have hix := fun (w : World) (K : K1) => ixS [z8] (j := 0) (by decide) w K
  have hix2 : ∀ (w : World) (K : K1), xIndex Try.prog 9 (.string (strOf [z8])) (.int .i64 0) w K = K (c8 0) w := hix
  rw [strZ]
  refine internal_stringslite_Index_of ?_
  unfold internal_stringslite_Index
  by_cases hl : strOf [z8] = strOf l
  · have : l = [z8] := (strOf_inj.1 hl).symm
    subst this
    have e : idxN [z8] = 0 := by decide +kernel
    rw [e]
    simp (disch := (first | omega | decide | (simp only [rsD] <;> omega) | fail)) only [↓rsC, rsK, rsL, ↓rsNm_0, tick_eq, tickV_eq, ne_eq, Int.reduceAdd, Int.reduceSub, Int.reduceMul, Int.reduceEq, Int.reduceLT, Int.reduceLE, Int.reduceToNat, Nat.reduceMul, Nat.reduceAdd, Nat.reduceSub, ←decide_not, h1]
    exact ⟨by trivial, by (repeat (first | with_reducible exact Ext.refl _ _ | with_reducible assumption | with_reducible refine Ext.alloc' ?_ _ | with_reducible refine Ext.drew' ?_ | with_reducible refine Ext.set' ?_ ?_ | exact .inr (by first | omega | (simp only [World.size_alloc, World.size_drew, World.size_setCell] <;> omega)) | refine Ext.trans ?_ (by with_reducible assumption)))⟩
  · simp (disch := (first | omega | decide | (simp only [rsD] <;> omega) | fail)) only [↓rsC, rsK, rsL, ↓rsNm_0, tick_eq, tickV_eq, ne_eq, Int.reduceAdd, Int.reduceSub, Int.reduceMul, Int.reduceEq, Int.reduceLT, Int.reduceLE, Int.reduceToNat, Nat.reduceMul, Nat.reduceAdd, Nat.reduceSub, ←decide_not, h1, decide_eq_false hl, hix2]
    refine internal_stringslite_IndexByte_call (Gives.to (byIx_spec l w) fun w1 F1 => ?_)
    simp (disch := (first | omega | decide | (simp only [rsD] <;> omega) | fail)) only [↓rsC, rsK, rsL, ↓rsNm_0, tick_eq, tickV_eq, ne_eq, Int.reduceAdd, Int.reduceSub, Int.reduceMul, Int.reduceEq, Int.reduceLT, Int.reduceLE, Int.reduceToNat, Nat.reduceMul, Nat.reduceAdd, Nat.reduceSub, ←decide_not, h1, decide_eq_false hl, hix2]
    exact ⟨by trivial, F1⟩
theorem Index_spec (l : List (BitVec 8)) (w : World) : Gives Try.prog n_strings_Index #[.string (strOf l), .string ⟨#[0]⟩] w (i64 (idxN l)) := by
  refine strings_Index_of ?_
  unfold strings_Index
  refine internal_stringslite_Index_call (Gives.to (sIndex_spec l w) fun w1 F1 => ?_)
  simp (disch := (first | omega | decide | (simp only [rsD] <;> omega) | fail)) only [↓rsC, rsK, rsL, tick_eq, tickV_eq, ne_eq, Int.reduceAdd, Int.reduceSub, Int.reduceMul, Int.reduceEq, Int.reduceLT, Int.reduceLE, Int.reduceToNat, Nat.reduceMul, Nat.reduceAdd, Nat.reduceSub, ←decide_not, eq_self]
  exact ⟨by trivial, F1⟩
abbrev rsNm_1 := (And.intro @xu8_geq (And.intro @xu16_geq (And.intro @xu32_geq (And.intro @xu64_geq @xi64_geq))))
theorem Contains_spec (l : List (BitVec 8)) (w : World) : Gives Try.prog n_strings_Contains #[.string (strOf l), .string ⟨#[0]⟩] w (.bool (decide (z8 ∈ l))) := by
  refine strings_Contains_of ?_
  unfold strings_Contains
  refine strings_Index_call (Gives.to (Index_spec l w) fun w1 F1 => ?_)
  by_cases h : z8 ∈ l
  · have e : 0 ≤ idxN l := by unfold idxN; rw [if_pos h]; omega
    simp (disch := (first | omega | decide | (simp only [rsD] <;> omega) | fail)) only [↓rsC, rsK, rsL, ↓rsNm_1, tick_eq, tickV_eq, ne_eq, Int.reduceAdd, Int.reduceSub, Int.reduceMul, Int.reduceEq, Int.reduceLT, Int.reduceLE, Int.reduceToNat, Nat.reduceMul, Nat.reduceAdd, Nat.reduceSub, ←decide_not, eq_self]
    exact ⟨by rw [decide_eq_true h], F1⟩
  · have e : ¬ 0 ≤ idxN l := by unfold idxN; rw [if_neg h]; decide
    simp (disch := (first | omega | decide | (simp only [rsD] <;> omega) | fail)) only [↓rsC, rsK, rsL, ↓rsNm_1, tick_eq, tickV_eq, ne_eq, Int.reduceAdd, Int.reduceSub, Int.reduceMul, Int.reduceEq, Int.reduceLT, Int.reduceLE, Int.reduceToNat, Nat.reduceMul, Nat.reduceAdd, Nat.reduceSub, ←decide_not, eq_self]
    exact ⟨by rw [decide_eq_false h], F1⟩
abbrev rsNm_2 := (And.intro @xu8_add (And.intro @xu8_geq (And.intro @xu16_add (And.intro @xu16_geq (And.intro @xu32_add (And.intro @xu32_geq (And.intro @xu64_add (And.intro @xu64_geq (And.intro @xi64_geq @ln_9)))))))))
theorem sCut_spec (l : List (BitVec 8)) (hlen : l.length ≤ 1000000) (w : World) : Yld Try.prog n_internal_stringslite_Cut #[.string (strOf l), .string ⟨#[0]⟩] w fun u w' => (∃ x b, u = .tuple #[.string (strOf (cutN l)), .string x, .bool b]) ∧ Ext [] w w' := by
  refine internal_stringslite_Cut_of ?_
  unfold internal_stringslite_Cut
  refine internal_stringslite_Index_call (Gives.to (sIndex_spec l w) fun w1 F1 => ?_)
  have h1 : ((({ data := #[0] } : ByteArray).size : Nat) : Int) = 1 := by decide +kernel
  have hcl := cutN_le l
  by_cases h : z8 ∈ l
  · have e : idxN l = ((cutN l).length : Int) := by unfold idxN; rw [if_pos h]
    have hlt : (cutN l).length < l.length := by
      rcases Nat.lt_or_ge (cutN l).length l.length with h5 | h5
      · exact h5
      · have h6 : cutN l = l := by
          have := cutN_take l
          rw [List.take_of_length_le (by omega)] at this
          exact this.symm
        have h7 := cutN_no l
        rw [h6] at h7
        exact absurd h h7
    have hsh := fun (w : World) (K : K1) => xSlice_sh (P := Try.prog) (t := 9) (w := w) (K := K) (k := .i64) (l := l) (h := ((cutN l).length : Int)) (by kernel_rfl) (by omega) (by omega)
    have hsl := fun (w : World) (K : K1) => xSlice_sl (P := Try.prog) (t := 9) (w := w) (K := K) (k := .i64) (l := l) (h := ((cutN l).length : Int) + 1) (by kernel_rfl) (by omega) (by omega)
    have ht : l.take (((cutN l).length : Int)).toNat = cutN l := by rw [Int.toNat_natCast]; exact cutN_take l
    rw [ht] at hsh
    rw [e]
    simp (disch := (first | omega | decide | (simp only [rsD] <;> omega) | fail)) only [↓rsC, rsK, rsL, ↓rsNm_2, tick_eq, tickV_eq, ne_eq, Int.reduceAdd, Int.reduceSub, Int.reduceMul, Int.reduceEq, Int.reduceLT, Int.reduceLE, Int.reduceToNat, Nat.reduceMul, Nat.reduceAdd, Nat.reduceSub, ←decide_not, hsh, h1, hsl]
    exact ⟨⟨_, _, by trivial⟩, F1.trans (Ext.drew _ _)⟩
  · have e : idxN l = -1 := by unfold idxN; rw [if_neg h]
    have ec : cutN l = l := cutN_self h
    rw [e, ec]
    simp (disch := (first | omega | decide | (simp only [rsD] <;> omega) | fail)) only [↓rsC, rsK, rsL, ↓rsNm_2, tick_eq, tickV_eq, ne_eq, Int.reduceAdd, Int.reduceSub, Int.reduceMul, Int.reduceEq, Int.reduceLT, Int.reduceLE, Int.reduceToNat, Nat.reduceMul, Nat.reduceAdd, Nat.reduceSub, ←decide_not, eq_self]
    exact ⟨⟨_, _, by trivial⟩, F1⟩
theorem Cut_spec (l : List (BitVec 8)) (hlen : l.length ≤ 1000000) (w : World) : Yld Try.prog n_strings_Cut #[.string (strOf l), .string ⟨#[0]⟩] w fun u w' => (∃ x b, u = .tuple #[.string (strOf (cutN l)), .string x, .bool b]) ∧ Ext [] w w' := by
  refine strings_Cut_of ?_
  unfold strings_Cut
  refine internal_stringslite_Cut_call (Yld.mono (sCut_spec l hlen w) ?_)
  rintro u w1 ⟨⟨x, b, rfl⟩, F1⟩
  simp (disch := (first | omega | decide | (simp only [rsD] <;> omega) | fail)) only [↓rsC, rsK, rsL, tick_eq, tickV_eq, ne_eq, Int.reduceAdd, Int.reduceSub, Int.reduceMul, Int.reduceEq, Int.reduceLT, Int.reduceLE, Int.reduceToNat, Nat.reduceMul, Nat.reduceAdd, Nat.reduceSub, ←decide_not, eq_self]
  exact ⟨⟨_, _, by trivial⟩, F1⟩
theorem z32 : (#[c8 0, c8 0, c8 0, c8 0, c8 0, c8 0, c8 0, c8 0, c8 0, c8 0, c8 0, c8 0, c8 0, c8 0, c8 0, c8 0, c8 0, c8 0, c8 0, c8 0, c8 0, c8 0, c8 0, c8 0, c8 0, c8 0, c8 0, c8 0, c8 0, c8 0, c8 0, c8 0] : Array Value) = (bys (List.replicate 32 z8)).toArray := rfl
abbrev arV (l : List (BitVec 8)) : Value := .agg (bys l).toArray
theorem String_spec (l : List (BitVec 8)) (hl : l.length = 32) (w : World) : Gives Try.prog n_table_Name_String #[arV l] w (.string (strOf (cutN l))) := by
  refine table_Name_String_of ?_
  unfold table_Name_String
  have hsl := fun (a : Addr) (w : World) (K : K1) => xSlice_arr (P := Try.prog) (t := 157) (n := 32) (a := a) (w := w) (K := K) (by kernel_rfl) (by kernel_rfl) (by kernel_rfl) (by decide)
  have B : Blk (w.alloc (.cells (bys l).toArray 157)) w.heap.size 157 (bys l) := Blk.at rfl
  have hcv := fun (K : K1) => xConv_str (P := Try.prog) (s := 70) (d := 9) (e := 5) (a := some ⟨w.heap.size, 0, none⟩) (n := 32) (c := 32) (K := K) (by kernel_rfl) (by kernel_rfl) (by kernel_rfl) hl.symm B.row
  simp (disch := (first | omega | decide | (simp only [rsD] <;> omega) | fail)) only [↓rsC, rsK, rsL, tick_eq, tickV_eq, ne_eq, Int.reduceAdd, Int.reduceSub, Int.reduceMul, Int.reduceEq, Int.reduceLT, Int.reduceLE, Int.reduceToNat, Nat.reduceMul, Nat.reduceAdd, Nat.reduceSub, ←decide_not, hsl, hcv]
  refine strings_Cut_call (Yld.mono (Cut_spec l (by omega) _) ?_)
  rintro u w1 ⟨⟨x, b, rfl⟩, F1⟩
  simp (disch := (first | omega | decide | (simp only [rsD] <;> omega) | fail)) only [↓rsC, rsK, rsL, tick_eq, tickV_eq, ne_eq, Int.reduceAdd, Int.reduceSub, Int.reduceMul, Int.reduceEq, Int.reduceLT, Int.reduceLE, Int.reduceToNat, Nat.reduceMul, Nat.reduceAdd, Nat.reduceSub, ←decide_not, hsl, hcv]
  exact ⟨by trivial, (Ext.alloc _ _ _).trans F1⟩
def nmOk (l : List (BitVec 8)) : Prop := 1 ≤ l.length ∧ l.length ≤ 32 ∧ z8 ∉ l
instance (l : List (BitVec 8)) : Decidable (nmOk l) := by unfold nmOk; infer_instance
def fixN (l : List (BitVec 8)) : List (BitVec 8) := if nmOk l then l ++ List.replicate (32 - l.length) z8 else List.replicate 32 z8
theorem fixN_len (l : List (BitVec 8)) : (fixN l).length = 32 := by
  unfold fixN
  by_cases h : nmOk l
  · rw [if_pos h, List.length_append, List.length_replicate]
    have := h.2.1
    omega
  · rw [if_neg h, List.length_replicate]
abbrev rsNm_3 := (And.intro @xu8_lss (And.intro @xu8_gtr (And.intro @xu16_lss (And.intro @xu16_gtr (And.intro @xu32_lss (And.intro @xu32_gtr (And.intro @xu64_lss (And.intro @xu64_gtr (And.intro @xi64_lss (And.intro @xi64_gtr (And.intro @al_157 (And.intro @bd_157 @ln_9))))))))))))
theorem Fix_spec (l : List (BitVec 8)) (w : World) : Gives Try.prog n_table_Fix #[.string (strOf l)] w (.tuple #[arV (fixN l), i64 (if nmOk l then 0 else 4 : Int)]) := by
  have hs := strOf_size (l := l)
  have hsl := fun (a : Addr) (w : World) (K : K1) => xSlice_arr (P := Try.prog) (t := 157) (n := 32) (a := a) (w := w) (K := K) (by kernel_rfl) (by kernel_rfl) (by kernel_rfl) (by decide)
  refine table_Fix_of ?_
  unfold table_Fix
  have bz : ∀ (y : World) (K : K1), xBuild Try.prog 157 [] y K = K (arV (List.replicate 32 z8)) y := fun y K => xBuild_ok (by kernel_rfl)
  have al : ∀ (y : World) (K : K1), xAlloc Try.prog 157 y K = K (ptr y.heap.size) (y.alloc (.cells (bys (List.replicate 32 z8)).toArray 157)) := fun y K => xAlloc_r (by kernel_rfl)
  rw [al, al]
  have B1 : Blk (w.alloc (.cells (bys (List.replicate 32 z8)).toArray 157)) w.heap.size 157 (bys (List.replicate 32 z8)) := Blk.at rfl
  have X1 : Ext [] w (w.alloc (.cells (bys (List.replicate 32 z8)).toArray 157)) := Ext.alloc _ _ _
  have zw : w.heap.size ≤ w.heap.size := Nat.le_refl _
  generalize w.alloc (.cells (bys (List.replicate 32 z8)).toArray 157) = y1 at *
  generalize hg : w.heap.size = g1 at B1 zw ⊢
  have B2 : Blk (y1.alloc (.cells (bys (List.replicate 32 z8)).toArray 157)) y1.heap.size 157 (bys (List.replicate 32 z8)) := Blk.at rfl
  have X2 : Ext [] y1 (y1.alloc (.cells (bys (List.replicate 32 z8)).toArray 157)) := Ext.alloc _ _ _
  have B12 := B1.ext X2 (by simp)
  have z1 := B1.lt
  generalize y1.alloc (.cells (bys (List.replicate 32 z8)).toArray 157) = y2 at *
  generalize hg2 : y1.heap.size = g2 at *
  have X12 := X1.trans X2
  have lst : ∀ l' : List (BitVec 8), l'.length = 32 → (((Try.prog).info? 157).map (·.size) = some (bys l').length) := fun l' h => by
    rw [List.length_map, h]; kernel_rfl
  have lag : ∀ l' : List (BitVec 8), l'.length = 32 → (aggN Try.prog 157 = some (bys l').length) := fun l' h => by
    rw [List.length_map, h]; kernel_rfl
  have one : ∀ l' : List (BitVec 8), ∀ v ∈ bys l', v.oneCell' = true := fun l' v hv => by
    obtain ⟨c, _, rfl⟩ := List.mem_map.1 hv; rfl
  have bad : ∀ y3 : World, Ext [] y2 y3 → ¬ nmOk l → xStore Try.prog 157 (ptr g1) (arV (List.replicate 32 z8)) y3 (fun _ w' => xLoadR Try.prog 157 (ptr g1) w' fun r0 => Value.tuple #[r0, .int .i64 4] = Value.tuple #[arV (fixN l), i64 (if nmOk l then 0 else 4 : Int)] ∧ Ext [] w w') := by
    intro y3 F3 hn
    have B3 := B12.ext F3 (by simp)
    rw [xStore_arr (lst _ (by simp)) B3 (by simp) (one _)]
    refine xLoadR_arr (lag _ (by simp)) (B3.put (by simp)) ?_
    refine ⟨?_, ?_⟩
    · unfold fixN
      rw [if_neg hn, if_neg hn]
    · exact (X12.trans F3).sets (.inr (by omega))
  by_cases h1 : l.length < 1
  · simp (disch := (first | omega | decide | (simp only [rsD] <;> omega) | fail)) only [↓rsC, rsK, rsL, ↓rsNm_3, tick_eq, tickV_eq, ne_eq, Int.reduceAdd, Int.reduceSub, Int.reduceMul, Int.reduceEq, Int.reduceLT, Int.reduceLE, Int.reduceToNat, Nat.reduceMul, Nat.reduceAdd, Nat.reduceSub, ←decide_not, bz]
    exact bad y2 (Ext.refl _ _) (fun h => by have := h.1; omega)
  by_cases h2 : 32 < l.length
  · simp (disch := (first | omega | decide | (simp only [rsD] <;> omega) | fail)) only [↓rsC, rsK, rsL, ↓rsNm_3, tick_eq, tickV_eq, ne_eq, Int.reduceAdd, Int.reduceSub, Int.reduceMul, Int.reduceEq, Int.reduceLT, Int.reduceLE, Int.reduceToNat, Nat.reduceMul, Nat.reduceAdd, Nat.reduceSub, ←decide_not, bz]
    exact bad y2 (Ext.refl _ _) (fun h => by have := h.2.1; omega)
  simp (disch := (first | omega | decide | (simp only [rsD] <;> omega) | fail)) only [↓rsC, rsK, rsL, ↓rsNm_3, tick_eq, tickV_eq, ne_eq, Int.reduceAdd, Int.reduceSub, Int.reduceMul, Int.reduceEq, Int.reduceLT, Int.reduceLE, Int.reduceToNat, Nat.reduceMul, Nat.reduceAdd, Nat.reduceSub, ←decide_not, eq_self]
  refine strings_Contains_call (Gives.to (Contains_spec l y2) fun y3 F3 => ?_)
  by_cases h3 : z8 ∈ l
  · rw [decide_eq_true h3]
    simp (disch := (first | omega | decide | (simp only [rsD] <;> omega) | fail)) only [↓rsC, rsK, rsL, ↓rsNm_3, tick_eq, tickV_eq, ne_eq, Int.reduceAdd, Int.reduceSub, Int.reduceMul, Int.reduceEq, Int.reduceLT, Int.reduceLE, Int.reduceToNat, Nat.reduceMul, Nat.reduceAdd, Nat.reduceSub, ←decide_not, bz]
    exact bad y3 F3 (fun h => h.2.2 h3)
  rw [decide_eq_false h3]
  have B3 := B2.ext F3 (by simp)
  have hcp := fun (K : K1) => xCopy_str (P := Try.prog) (w := y3) (K := K) (t := 70) (e := 5) (t2 := 9) (ty := 3) (c1 := false) (c2 := false) (b := g2) (o := 0) (n := 32) (c := 32) (l := l) (by kernel_rfl) (by kernel_rfl) (by omega) (B3.roomy (by simp; omega) (one l))
  have B4 := B3.sets (l := bys l) (o := 0) (by simp; omega)
  have X4 : Ext [] w (y3.setCells g2 0 (bys l)) := (X12.trans F3).sets (.inr (by omega))
  have B5 := (B12.ext F3 (by simp)).ext (Ext.sets (g := g2) (o := 0) (l := bys l) (Ext.refl [g2] y3) (.inl (by simp))) (by simp only [List.mem_singleton]; omega)
  have hok : nmOk l := ⟨by omega, by omega, h3⟩
  have e4 : (bys (List.replicate 32 z8)).take 0 ++ bys l ++ (bys (List.replicate 32 z8)).drop (0 + (bys l).length) = bys (fixN l) := by
    unfold fixN
    rw [if_pos hok, List.take_zero, List.nil_append, List.length_map, Nat.zero_add]
    show List.map _ l ++ List.drop l.length (List.map _ (List.replicate 32 z8)) = List.map _ (l ++ List.replicate (32 - l.length) z8)
    rw [List.map_replicate, List.drop_replicate, List.map_append, List.map_replicate]
  rw [e4] at B4
  have hld := fun (K : K1) => xLoad_arr (P := Try.prog) (K := K) (lag _ (fixN_len l)) B4
  have hst := fun (K : K1) => xStore_arr (P := Try.prog) (K := K) (lst _ (fixN_len l)) B5 (by simp [fixN_len]) (one _)
  simp (disch := (first | omega | decide | (simp only [rsD] <;> omega) | fail)) only [↓rsC, rsK, rsL, ↓rsNm_3, tick_eq, tickV_eq, ne_eq, Int.reduceAdd, Int.reduceSub, Int.reduceMul, Int.reduceEq, Int.reduceLT, Int.reduceLE, Int.reduceToNat, Nat.reduceMul, Nat.reduceAdd, Nat.reduceSub, ←decide_not, hsl, hcp, hld, hst]
  refine xLoadR_arr (lag _ (fixN_len l)) (B5.put (by simp [fixN_len])) ?_
  exact ⟨by rw [if_pos hok], X4.sets (.inr (by omega))⟩
end Go.Proofs.Ytdpmidgeipibbaa
end
section
set_option linter.unusedVariables false
set_option linter.unusedSimpArgs false
set_option maxHeartbeats 4000000
namespace Go.Proofs.Ytdpmidgeipibbaa
open Go.Sh Go.RowKit

/-- a graph that is not too big to be looked at -/
structure FewH (ns : List GN) (rs : List GR) : Prop where
  n : ns.length ≤ 9000
  r : rs.length ≤ 9000
  x : ∀ x ∈ ns, x.p.length ≤ 9000 ∧ x.d.length ≤ 9000
theorem FewG.h {ns : List GN} {rs : List GR} (h : FewG ns rs) : FewH ns rs := ⟨by have := h.n; omega, by have := h.r; omega, fun x hx => by have := h.x x hx; omega⟩
def firstE : List Int → Int
  | [] => 0
  | e :: l => if e = 0 then firstE l else e
theorem firstE_app {l m : List Int} (h : ∀ e ∈ l, e = 0) : firstE (l ++ m) = firstE m := by
  induction l with
  | nil => rfl
  | cons e l ih =>
    rw [List.cons_append, firstE, if_pos (h e (by simp))]
    exact ih fun x hx => h x (by simp [hx])
theorem firstE_at {l : List Int} {j : Nat} {e : Int} (hj : l[j]? = some e) (hq : ∀ i x, i < j → l[i]? = some x → x = 0) (he : e ≠ 0) : firstE l = e := by
  induction l generalizing j with
  | nil => simp at hj
  | cons x l ih =>
    cases j with
    | zero =>
      simp only [List.getElem?_cons_zero, Option.some.injEq] at hj
      subst hj
      rw [firstE, if_neg he]
    | succ j =>
      rw [firstE, if_pos (hq 0 x (by omega) rfl)]
      exact ih hj fun i y hi hy => hq (i + 1) y (by omega) hy
theorem firstE_zero {l : List Int} : firstE l = 0 ↔ ∀ e ∈ l, e = 0 := by
  induction l with
  | nil => simp [firstE]
  | cons e l ih =>
    rw [firstE]
    by_cases h : e = 0
    · rw [if_pos h, ih]
      simp [h]
    · rw [if_neg h]
      simp [h]
def ndE (n : Nat) (x : GN) : Int := if ∀ p ∈ x.p, 0 ≤ p ∧ p ≤ n then (if x.p.length ≤ 64 ∧ x.d.length ≤ 1024 then 0 else 3) else 1
def prevL (rs : List GR) (i : Nat) : Bool := match rs[i - 1]?, rs[i]? with
  | some a, some b => Op.bytesLess (strOf a.s).toList (strOf b.s).toList
  | _, _ => false
def rtE (n : Nat) (rs : List GR) (i : Nat) : Int := match rs[i]? with
  | none => 0
  | some r => if nmOk r.s ∧ (i = 0 ∨ prevL rs i = true) then (if 0 ≤ r.to ∧ r.to ≤ n then 0 else 1) else 4
def chkV (ns : List GN) (rs : List GR) : Int := firstE (ns.map (ndE ns.length) ++ ((if rs.length ≤ 64 then (0 : Int) else 3) :: (List.range rs.length).map (rtE ns.length rs)))
theorem prevL_get {rs : List GR} {i : Nat} (h0 : i ≠ 0) (hi : i < rs.length) : prevL rs i = Op.bytesLess (strOf (rs[i - 1]'(by omega)).s).toList (strOf rs[i].s).toList := by
  unfold prevL
  rw [List.getElem?_eq_getElem hi, List.getElem?_eq_getElem (show i - 1 < rs.length by omega)]
theorem rtE_get {n : Nat} {rs : List GR} {i : Nat} (hi : i < rs.length) : rtE n rs i = if nmOk rs[i].s ∧ (i = 0 ∨ prevL rs i = true) then (if 0 ≤ rs[i].to ∧ rs[i].to ≤ n then 0 else 1) else 4 := by
  unfold rtE
  rw [List.getElem?_eq_getElem hi]
section
variable {ns : List GN} {rs : List GR}
theorem chk_node {j : Nat} {e : Int} (hj : j < ns.length) (hq : ∀ i (hi : i < ns.length), i < j → ndE ns.length ns[i] = 0) (he : ndE ns.length ns[j] = e) (hne : e ≠ 0) : chkV ns rs = e := by
  unfold chkV
  refine firstE_at (j := j) ?_ (fun i x hi hx => ?_) hne
  · rw [List.getElem?_append_left (by simpa using hj), List.getElem?_map, List.getElem?_eq_getElem hj, Option.map_some, he]
  · rw [List.getElem?_append_left (by rw [List.length_map]; omega), List.getElem?_map, List.getElem?_eq_getElem (by omega)] at hx
    simp only [Option.map_some, Option.some.injEq] at hx
    rw [← hx]
    exact hq i (by omega) hi
theorem chk_nodes (hq : ∀ i (hi : i < ns.length), ndE ns.length ns[i] = 0) : chkV ns rs = firstE ((if rs.length ≤ 64 then (0 : Int) else 3) :: (List.range rs.length).map (rtE ns.length rs)) := by
  unfold chkV
  refine firstE_app fun e he => ?_
  obtain ⟨x, hx, rfl⟩ := List.mem_map.1 he
  obtain ⟨i, hi, rfl⟩ := List.getElem_of_mem hx
  exact hq i hi
theorem chk_len (hq : ∀ i (hi : i < ns.length), ndE ns.length ns[i] = 0) (h : 64 < rs.length) : chkV ns rs = 3 := by
  rw [chk_nodes hq, if_neg (by omega), firstE, if_neg (by decide)]
theorem chk_root {j : Nat} {e : Int} (hq : ∀ i (hi : i < ns.length), ndE ns.length ns[i] = 0) (h : ¬ 64 < rs.length) (hr : ∀ i, i < j → rtE ns.length rs i = 0) (hj : j < rs.length) (he : rtE ns.length rs j = e) (hne : e ≠ 0) : chkV ns rs = e := by
  rw [chk_nodes hq, if_pos (by omega), firstE, if_pos rfl]
  refine firstE_at (j := j) ?_ (fun i x hi hx => ?_) hne
  · rw [List.getElem?_map, List.getElem?_range hj, Option.map_some, he]
  · rw [List.getElem?_map, List.getElem?_range (by omega)] at hx
    simp only [Option.map_some, Option.some.injEq] at hx
    rw [← hx]
    exact hr i hi
theorem chk_ok (hq : ∀ i (hi : i < ns.length), ndE ns.length ns[i] = 0) (h : ¬ 64 < rs.length) (hr : ∀ i, i < rs.length → rtE ns.length rs i = 0) : chkV ns rs = 0 := by
  rw [chk_nodes hq, if_pos (by omega), firstE, if_pos rfl, firstE_zero]
  intro e he
  obtain ⟨i, hi, rfl⟩ := List.mem_map.1 he
  exact hr i (List.mem_range.1 hi)
theorem ndE_zero {n : Nat} {x : GN} : ndE n x = 0 ↔ (∀ p ∈ x.p, 0 ≤ p ∧ p ≤ n) ∧ x.p.length ≤ 64 ∧ x.d.length ≤ 1024 := by
  unfold ndE
  by_cases h1 : ∀ p ∈ x.p, 0 ≤ p ∧ p ≤ n
  · rw [if_pos h1]
    by_cases h2 : x.p.length ≤ 64 ∧ x.d.length ≤ 1024
    · rw [if_pos h2]; exact ⟨fun _ => ⟨h1, h2⟩, fun _ => rfl⟩
    · rw [if_neg h2]; exact ⟨fun h => by omega, fun h => absurd h.2 h2⟩
  · rw [if_neg h1]; exact ⟨fun h => by omega, fun h => absurd h.1 h1⟩
theorem nmOk_iff {s : List (BitVec 8)} : nmOk s ↔ 1 ≤ s.length ∧ s.length ≤ 32 ∧ ∀ c ∈ s, c ≠ BitVec.ofNat 8 0 := by
  unfold nmOk
  constructor
  · rintro ⟨h1, h2, h3⟩; exact ⟨h1, h2, fun c hc e => h3 (by rw [← (show c = z8 from e)]; exact hc)⟩
  · rintro ⟨h1, h2, h3⟩; exact ⟨h1, h2, fun h => h3 _ h rfl⟩
theorem chk_zero : chkV ns rs = 0 ↔ GoodG ns rs := by
  constructor
  · intro h
    unfold chkV at h
    rw [firstE_zero] at h
    have h1 : ∀ x ∈ ns, ndE ns.length x = 0 := fun x hx => h _ (List.mem_append_left _ (List.mem_map.2 ⟨x, hx, rfl⟩))
    have h2 : (if rs.length ≤ 64 then (0 : Int) else 3) = 0 := h _ (List.mem_append_right _ (List.mem_cons_self ..))
    have h3 : ∀ i, i < rs.length → rtE ns.length rs i = 0 := fun i hi => h _ (List.mem_append_right _ (List.mem_cons_of_mem _ (List.mem_map.2 ⟨i, List.mem_range.2 hi, rfl⟩)))
    have h4 : ∀ i (hi : i < rs.length), (nmOk rs[i].s ∧ (i = 0 ∨ prevL rs i = true)) ∧ 0 ≤ rs[i].to ∧ rs[i].to ≤ ns.length := fun i hi => by
      have := h3 i hi
      rw [rtE_get hi] at this
      by_cases q : nmOk rs[i].s ∧ (i = 0 ∨ prevL rs i = true)
      · rw [if_pos q] at this
        by_cases q2 : 0 ≤ rs[i].to ∧ rs[i].to ≤ ns.length
        · exact ⟨q, q2⟩
        · rw [if_neg q2] at this; omega
      · rw [if_neg q] at this; omega
    refine ⟨fun x hx => ndE_zero.1 (h1 x hx), ?_, fun r hr => ?_, fun i hi => ?_⟩
    · split at h2
      · assumption
      · omega
    · obtain ⟨i, hi, rfl⟩ := List.getElem_of_mem hr
      exact ⟨nmOk_iff.1 (h4 i hi).1.1, (h4 i hi).2⟩
    · have := (h4 (i + 1) hi).1.2
      rcases this with h5 | h5
      · omega
      · rw [prevL_get (by omega) hi] at h5
        exact h5
  · intro hg
    refine chk_ok (fun i hi => ndE_zero.2 (hg.x _ (List.getElem_mem hi))) (by have := hg.r; omega) fun i hi => ?_
    obtain ⟨h1, h2, h3⟩ := hg.s _ (List.getElem_mem hi)
    rw [rtE_get hi, if_pos, if_pos ⟨h2, h3⟩]
    refine ⟨nmOk_iff.2 h1, ?_⟩
    by_cases h0 : i = 0
    · exact .inl h0
    · right
      rw [prevL_get h0 hi]
      have := hg.o (i - 1) (by omega)
      have e : rs[i - 1 + 1]'(by omega) = rs[i] := by congr 1; omega
      rw [e] at this
      exact this
end
abbrev rsGck_0 := (And.intro @xu8_add (And.intro @xu8_eql (And.intro @xu8_lss (And.intro @xu8_gtr (And.intro @xu16_add (And.intro @xu16_eql (And.intro @xu16_lss (And.intro @xu16_gtr (And.intro @xu32_add (And.intro @xu32_eql (And.intro @xu32_lss (And.intro @xu32_gtr (And.intro @xu64_add (And.intro @xu64_eql (And.intro @xu64_lss (And.intro @xu64_gtr 
  (And.intro @xi64_lss (And.intro @xi64_gtr (And.intro @xi64_eql @ln_9)))))))))))))))))))
theorem GoodX_spec (l : List (BitVec 8)) (w : World) : Gives Try.prog n_loamref17_Good #[.string (strOf l)] w (.bool (decide (nmOk l))) := by
  have hs := strOf_size (l := l)
  refine loamref17_Good_of ?_
  unfold loamref17_Good
  by_cases h1 : (strOf l).size < 1
  · simp (disch := (first | omega | decide | (simp only [rsD] <;> omega) | fail)) only [↓rsC, rsK, rsL, ↓rsGck_0, tick_eq, tickV_eq, ne_eq, Int.reduceAdd, Int.reduceSub, Int.reduceMul, Int.reduceEq, Int.reduceLT, Int.reduceLE, Int.reduceToNat, Nat.reduceMul, Nat.reduceAdd, Nat.reduceSub, ←decide_not, eq_self]
    exact ⟨by rw [decide_eq_false (fun h => by have := h.1; omega)], Ext.refl _ _⟩
  by_cases h2 : 32 < (strOf l).size
  · simp (disch := (first | omega | decide | (simp only [rsD] <;> omega) | fail)) only [↓rsC, rsK, rsL, ↓rsGck_0, tick_eq, tickV_eq, ne_eq, Int.reduceAdd, Int.reduceSub, Int.reduceMul, Int.reduceEq, Int.reduceLT, Int.reduceLE, Int.reduceToNat, Nat.reduceMul, Nat.reduceAdd, Nat.reduceSub, ←decide_not, eq_self]
    exact ⟨by rw [decide_eq_false (fun h => by have := h.2.1; omega)], Ext.refl _ _⟩
  simp (disch := (first | omega | decide | (simp only [rsD] <;> omega) | fail)) only [↓rsC, rsK, rsL, ↓rsGck_0, tick_eq, tickV_eq, ne_eq, Int.reduceAdd, Int.reduceSub, Int.reduceMul, Int.reduceEq, Int.reduceLT, Int.reduceLE, Int.reduceToNat, Nat.reduceMul, Nat.reduceAdd, Nat.reduceSub, ←decide_not, eq_self]
  refine xLoop_n l.length (fun j => [i64 (j : Int)]) (fun j w' => Ext [] w w' ∧ ∀ i (hi : i < l.length), i < j → l[i] ≠ BitVec.ofNat 8 0) rfl ⟨Ext.refl _ _, by intro i _ hi; omega⟩ ?_ ?_
  · intro j hj u v1 hu ⟨F, hq⟩ nxt hnx
    simp only [List.map_cons, List.map_nil, List.cons.injEq, and_true] at hu
    rw [hu]
    have hix := fun w K => ixS l hj w K
    unfold loamref17_Good_l1
    by_cases hz : l[j] = BitVec.ofNat 8 0
    · have hno : ¬ nmOk l := fun h => h.2.2 (by show BitVec.ofNat 8 0 ∈ l; rw [← hz]; exact List.getElem_mem hj)
      rw [hz] at hix
      simp (disch := (first | omega | decide | (simp only [rsD] <;> omega) | fail)) only [↓rsC, rsK, rsL, ↓rsGck_0, tick_eq, tickV_eq, ne_eq, Int.reduceAdd, Int.reduceSub, Int.reduceMul, Int.reduceEq, Int.reduceLT, Int.reduceLE, Int.reduceToNat, Nat.reduceMul, Nat.reduceAdd, Nat.reduceSub, ←decide_not, hix]
      exact ⟨by rw [decide_eq_false hno], F⟩
    · generalize hy : l[j] = y at *
      simp (disch := (first | omega | decide | (simp only [rsD] <;> omega) | fail)) only [↓rsC, rsK, rsL, ↓rsGck_0, tick_eq, tickV_eq, ne_eq, Int.reduceAdd, Int.reduceSub, Int.reduceMul, Int.reduceEq, Int.reduceLT, Int.reduceLE, Int.reduceToNat, Nat.reduceMul, Nat.reduceAdd, Nat.reduceSub, ←decide_not, hix, decide_eq_false hz]
      refine hnx _ ⟨F, fun i hi hij => ?_⟩
      by_cases e : i = j
      · subst e; rw [hy]; exact hz
      · exact hq i hi (by omega)
  · intro u v1 hu ⟨F, hq⟩ nxt
    simp only [List.map_cons, List.map_nil, List.cons.injEq, and_true] at hu
    rw [hu]
    unfold loamref17_Good_l1
    simp (disch := (first | omega | decide | (simp only [rsD] <;> omega) | fail)) only [↓rsC, rsK, rsL, ↓rsGck_0, tick_eq, tickV_eq, ne_eq, Int.reduceAdd, Int.reduceSub, Int.reduceMul, Int.reduceEq, Int.reduceLT, Int.reduceLE, Int.reduceToNat, Nat.reduceMul, Nat.reduceAdd, Nat.reduceSub, ←decide_not, eq_self]
    refine ⟨?_, F⟩
    rw [decide_eq_true]
    refine nmOk_iff.2 ⟨by omega, by omega, fun c hc => ?_⟩
    obtain ⟨i, hi, rfl⟩ := List.getElem_of_mem hc
    exact hq i hi hi
/-- one node, by the program -/
abbrev rsGck_1 := (And.intro @xu8_add (And.intro @xu8_lss (And.intro @xu8_gtr (And.intro @xu16_add (And.intro @xu16_lss (And.intro @xu16_gtr (And.intro @xu32_add (And.intro @xu32_lss (And.intro @xu32_gtr (And.intro @xu64_add (And.intro @xu64_lss (And.intro @xu64_gtr (And.intro @xi64_lss (And.intro @xi64_gtr (And.intro @ld_3 (And.intro @ld_22 
  (And.intro @ld_66 (And.intro @ld_70 (And.intro @fa_25_0 (And.intro @fa_72_0 (And.intro @fa_72_1 (And.intro @ia_66 (And.intro @ln_22 (And.intro @ln_66 @ln_70))))))))))))))))))))))))
theorem gnode_spec {w : World} {na ra : Option Addr} {nc rc : Nat} {ns : List GN} {rs : List GR} {x : GN} (hx : NOk w x) (hxl : x.p.length ≤ 1000000) : Gives Try.prog n_graph_Graph_node #[gV na nc ra rc ns rs, .agg (gnC x).toArray] w (i64 (ndE ns.length x)) := by
  refine graph_Graph_node_of ?_
  unfold graph_Graph_node
  simp (disch := (first | omega | decide | (simp only [rsD] <;> omega) | fail)) only [↓rsC, rsK, rsL, ↓rsGck_1, tick_eq, tickV_eq, ne_eq, Int.reduceAdd, Int.reduceSub, Int.reduceMul, Int.reduceEq, Int.reduceLT, Int.reduceLE, Int.reduceToNat, Nat.reduceMul, Nat.reduceAdd, Nat.reduceSub, ←decide_not, eq_self]
  simp only [World.size_alloc]
  have B : Blk (w.alloc (.cells #[.slice na ns.length nc, .slice ra rs.length rc] 25)) w.heap.size 25 [.slice na ns.length nc, .slice ra rs.length rc] := Blk.at rfl
  have X : Ext [] w (w.alloc (.cells #[.slice na ns.length nc, .slice ra rs.length rc] 25)) := Ext.alloc _ _ _
  have z1 := World.size_alloc w (.cells #[.slice na ns.length nc, .slice ra rs.length rc] 25)
  generalize hy1 : w.alloc (.cells #[.slice na ns.length nc, .slice ra rs.length rc] 25) = y1 at *
  have C : Blk (y1.alloc (.cells #[.slice x.pa x.p.length x.pc, .slice x.da x.d.length x.dc] 72)) y1.heap.size 72 [.slice x.pa x.p.length x.pc, .slice x.da x.d.length x.dc] := Blk.at rfl
  have X1 : Ext [] y1 (y1.alloc (.cells #[.slice x.pa x.p.length x.pc, .slice x.da x.d.length x.dc] 72)) := Ext.alloc _ _ _
  have B1 := B.ext X1 (by simp)
  have X2 := X.trans X1
  have hx2 := hx.ext0 X2
  rw [z1] at C
  generalize hy2 : y1.alloc (.cells #[.slice x.pa x.p.length x.pc, .slice x.da x.d.length x.dc] 72) = y2 at *
  generalize w.heap.size + 1 = g2 at *
  generalize w.heap.size = g1 at *
  refine xLoop_n x.p.length (fun k => [i64 (k : Int)]) (fun k w' => Ext [] y2 w' ∧ ∀ i (hi : i < x.p.length), i < k → 0 ≤ x.p[i] ∧ x.p[i] ≤ ns.length) rfl ⟨Ext.refl _ _, by intro i _ hi; omega⟩ ?_ ?_
  · intro k hk u v2 hu ⟨F2, hp⟩ nxt2 hnx2
    simp only [List.map_cons, List.map_nil, List.cons.injEq, and_true] at hu
    rw [hu]
    have k2 := fun i => (B1.ext F2 (by simp)).cell (i := i)
    obtain ⟨b3, o3, ha3, z3, c3⟩ := its_at (hx2.ext0 F2).pr hk
    have bad : ¬ (0 ≤ x.p[k] ∧ x.p[k] ≤ ns.length) → i64 1 = i64 (ndE ns.length x) := fun h => by
      unfold ndE
      rw [if_neg fun h2 => h (h2 _ (List.getElem_mem hk))]
    unfold graph_Graph_node_l1
    by_cases g1 : x.p[k] < 0
    · simp (disch := (first | omega | decide | (simp only [rsD] <;> omega) | fail)) only [↓rsC, rsK, rsL, ↓rsGck_1, tick_eq, tickV_eq, ne_eq, Int.reduceAdd, Int.reduceSub, Int.reduceMul, Int.reduceEq, Int.reduceLT, Int.reduceLE, Int.reduceToNat, Nat.reduceMul, Nat.reduceAdd, Nat.reduceSub, ←decide_not, k2, ha3, c3]
      exact ⟨bad (by omega), X2.trans F2⟩
    by_cases g2 : (ns.length : Int) < x.p[k]
    · simp (disch := (first | omega | decide | (simp only [rsD] <;> omega) | fail)) only [↓rsC, rsK, rsL, ↓rsGck_1, tick_eq, tickV_eq, ne_eq, Int.reduceAdd, Int.reduceSub, Int.reduceMul, Int.reduceEq, Int.reduceLT, Int.reduceLE, Int.reduceToNat, Nat.reduceMul, Nat.reduceAdd, Nat.reduceSub, ←decide_not, k2, ha3, c3]
      exact ⟨bad (by omega), X2.trans F2⟩
    simp (disch := (first | omega | decide | (simp only [rsD] <;> omega) | fail)) only [↓rsC, rsK, rsL, ↓rsGck_1, tick_eq, tickV_eq, ne_eq, Int.reduceAdd, Int.reduceSub, Int.reduceMul, Int.reduceEq, Int.reduceLT, Int.reduceLE, Int.reduceToNat, Nat.reduceMul, Nat.reduceAdd, Nat.reduceSub, ←decide_not, k2, ha3, c3]
    refine hnx2 _ ⟨F2, fun i hi hik => ?_⟩
    by_cases e : i = k
    · subst e; exact ⟨by omega, by omega⟩
    · exact hp i hi (by omega)
  · intro u v2 hu ⟨F2, hp⟩ nxt2
    simp only [List.map_cons, List.map_nil, List.cons.injEq, and_true] at hu
    rw [hu]
    have k2 := fun i => (C.ext F2 (by simp)).cell (i := i)
    have hpp : ∀ p ∈ x.p, 0 ≤ p ∧ p ≤ (ns.length : Int) := fun p hp2 => by
      obtain ⟨i, hi, rfl⟩ := List.getElem_of_mem hp2
      exact hp i hi hi
    have hE : ndE ns.length x = if x.p.length ≤ 64 ∧ x.d.length ≤ 1024 then 0 else 3 := by unfold ndE; rw [if_pos hpp]
    rw [hE]
    unfold graph_Graph_node_l1
    by_cases g1 : 64 < x.p.length
    · rw [if_neg (by omega)]
      simp (disch := (first | omega | decide | (simp only [rsD] <;> omega) | fail)) only [↓rsC, rsK, rsL, ↓rsGck_1, tick_eq, tickV_eq, ne_eq, Int.reduceAdd, Int.reduceSub, Int.reduceMul, Int.reduceEq, Int.reduceLT, Int.reduceLE, Int.reduceToNat, Nat.reduceMul, Nat.reduceAdd, Nat.reduceSub, ←decide_not, k2]
      exact ⟨by trivial, X2.trans F2⟩
    by_cases g2 : 1024 < x.d.length
    · rw [if_neg (by omega)]
      simp (disch := (first | omega | decide | (simp only [rsD] <;> omega) | fail)) only [↓rsC, rsK, rsL, ↓rsGck_1, tick_eq, tickV_eq, ne_eq, Int.reduceAdd, Int.reduceSub, Int.reduceMul, Int.reduceEq, Int.reduceLT, Int.reduceLE, Int.reduceToNat, Nat.reduceMul, Nat.reduceAdd, Nat.reduceSub, ←decide_not, k2]
      exact ⟨by trivial, X2.trans F2⟩
    rw [if_pos (by omega)]
    simp (disch := (first | omega | decide | (simp only [rsD] <;> omega) | fail)) only [↓rsC, rsK, rsL, ↓rsGck_1, tick_eq, tickV_eq, ne_eq, Int.reduceAdd, Int.reduceSub, Int.reduceMul, Int.reduceEq, Int.reduceLT, Int.reduceLE, Int.reduceToNat, Nat.reduceMul, Nat.reduceAdd, Nat.reduceSub, ←decide_not, k2]
    exact ⟨by trivial, X2.trans F2⟩
/-- one name, by the program -/
abbrev rsGck_2 := (And.intro @xu8_sub (And.intro @xu8_lss (And.intro @xu8_gtr (And.intro @xu8_geq (And.intro @xu16_sub (And.intro @xu16_lss (And.intro @xu16_gtr (And.intro @xu16_geq (And.intro @xu32_sub (And.intro @xu32_lss (And.intro @xu32_gtr (And.intro @xu32_geq (And.intro @xu64_sub (And.intro @xu64_lss (And.intro @xu64_gtr (And.intro @xu64_geq 
  (And.intro @xi64_lss (And.intro @xi64_gtr (And.intro @xi64_geq (And.intro @ld_3 (And.intro @ld_9 (And.intro @ld_22 (And.intro @ld_23 (And.intro @ld_74 (And.intro @fa_25_0 (And.intro @fa_25_1 (And.intro @fa_74_0 (And.intro @fa_74_1 (And.intro @al_74 (And.intro @st_74 (And.intro @ia_23 (And.intro @ln_22 @ln_9))))))))))))))))))))))))))))))))
theorem groot_spec {w : World} {na ra : Option Addr} {nc rc : Nat} {ns : List GN} {rs : List GR} (h : GIs w na nc ra rc ns rs) {j : Nat} (hj : j < rs.length) (hrl : rs.length ≤ 1000000) : Gives Try.prog n_graph_Graph_root #[gV na nc ra rc ns rs, i64 (j : Int)] w (i64 (rtE ns.length rs j)) := by
  have hrt := rtE_get (n := ns.length) hj
  have hsz := strOf_size (l := rs[j].s)
  obtain ⟨b1, o1, ha1, z1, c1, c2⟩ := gr_at h.rr hj
  subst ha1
  refine graph_Graph_root_of ?_
  unfold graph_Graph_root
  simp (disch := (first | omega | decide | (simp only [rsD] <;> omega) | fail)) only [↓rsC, rsK, rsL, ↓rsGck_2, tick_eq, tickV_eq, ne_eq, Int.reduceAdd, Int.reduceSub, Int.reduceMul, Int.reduceEq, Int.reduceLT, Int.reduceLE, Int.reduceToNat, Nat.reduceMul, Nat.reduceAdd, Nat.reduceSub, ←decide_not, c1, c2]
  simp only [World.size_alloc]
  have B : Blk (w.alloc (.cells #[.slice na ns.length nc, .slice (some ⟨b1, o1, none⟩) rs.length rc] 25)) w.heap.size 25 [.slice na ns.length nc, .slice (some ⟨b1, o1, none⟩) rs.length rc] := Blk.at rfl
  have X : Ext [] w (w.alloc (.cells #[.slice na ns.length nc, .slice (some ⟨b1, o1, none⟩) rs.length rc] 25)) := Ext.alloc _ _ _
  have s1 := World.size_alloc w (.cells #[.slice na ns.length nc, .slice (some ⟨b1, o1, none⟩) rs.length rc] 25)
  generalize w.alloc (.cells #[.slice na ns.length nc, .slice (some ⟨b1, o1, none⟩) rs.length rc] 25) = y1 at *
  have C : Blk (y1.alloc (.cells #[.string (strOf rs[j].s), i64 rs[j].to] 74)) y1.heap.size 74 [.string (strOf rs[j].s), i64 rs[j].to] := Blk.at rfl
  have X1 : Ext [] y1 (y1.alloc (.cells #[.string (strOf rs[j].s), i64 rs[j].to] 74)) := Ext.alloc _ _ _
  have B1 := B.ext X1 (by simp)
  have X2 := X.trans X1
  have hy := h.ext0 X2
  rw [s1] at C
  generalize y1.alloc (.cells #[.string (strOf rs[j].s), i64 rs[j].to] 74) = y2 at *
  generalize w.heap.size + 1 = g2 at *
  generalize w.heap.size = g1 at *
  have kc := fun i => C.cell (i := i)
  by_cases h1 : rs[j].s.length < 1
  · rw [hrt, if_neg (fun q => by have := q.1.1; omega)]
    simp (disch := (first | omega | decide | (simp only [rsD] <;> omega) | fail)) only [↓rsC, rsK, rsL, ↓rsGck_2, tick_eq, tickV_eq, ne_eq, Int.reduceAdd, Int.reduceSub, Int.reduceMul, Int.reduceEq, Int.reduceLT, Int.reduceLE, Int.reduceToNat, Nat.reduceMul, Nat.reduceAdd, Nat.reduceSub, ←decide_not, c1, c2, kc]
    exact ⟨by trivial, X2⟩
  by_cases h2 : 32 < rs[j].s.length
  · rw [hrt, if_neg (fun q => by have := q.1.2.1; omega)]
    simp (disch := (first | omega | decide | (simp only [rsD] <;> omega) | fail)) only [↓rsC, rsK, rsL, ↓rsGck_2, tick_eq, tickV_eq, ne_eq, Int.reduceAdd, Int.reduceSub, Int.reduceMul, Int.reduceEq, Int.reduceLT, Int.reduceLE, Int.reduceToNat, Nat.reduceMul, Nat.reduceAdd, Nat.reduceSub, ←decide_not, c1, c2, kc]
    exact ⟨by trivial, X2⟩
  simp (disch := (first | omega | decide | (simp only [rsD] <;> omega) | fail)) only [↓rsC, rsK, rsL, ↓rsGck_2, tick_eq, tickV_eq, ne_eq, Int.reduceAdd, Int.reduceSub, Int.reduceMul, Int.reduceEq, Int.reduceLT, Int.reduceLE, Int.reduceToNat, Nat.reduceMul, Nat.reduceAdd, Nat.reduceSub, ←decide_not, c1, c2, kc]
  refine strings_Contains_call (Gives.to (Contains_spec rs[j].s y2) fun y3 F3 => ?_)
  have X3 := X2.trans F3
  by_cases h3 : z8 ∈ rs[j].s
  · rw [decide_eq_true h3, hrt, if_neg (fun q => q.1.2.2 h3)]
    simp (disch := (first | omega | decide | (simp only [rsD] <;> omega) | fail)) only [↓rsC, rsK, rsL, ↓rsGck_2, tick_eq, tickV_eq, ne_eq, Int.reduceAdd, Int.reduceSub, Int.reduceMul, Int.reduceEq, Int.reduceLT, Int.reduceLE, Int.reduceToNat, Nat.reduceMul, Nat.reduceAdd, Nat.reduceSub, ←decide_not, c1, c2, kc]
    exact ⟨by trivial, X3⟩
  rw [decide_eq_false h3]
  have hok : nmOk rs[j].s := ⟨by omega, by omega, h3⟩
  have F3d := F3.trans (Ext.drew [] y3)
  have X4 := X2.trans F3d
  have kc4 := fun i => (C.ext F3d (by simp)).cell (i := i)
  have kb4 := fun i => (B1.ext F3d (by simp)).cell (i := i)
  have hlast : ∀ (b : Bool), (j = 0 ∨ prevL rs j = true ↔ b = true) → rtE ns.length rs j = if b = true then (if 0 ≤ rs[j].to ∧ rs[j].to ≤ ns.length then 0 else 1) else 4 := fun b hb => by
    rw [hrt]
    by_cases q : b = true
    · rw [if_pos ⟨hok, hb.2 q⟩, if_pos q]
    · rw [if_neg (fun q2 => q (hb.1 q2.2)), if_neg q]
  by_cases hj0 : j = 0
  · rw [hlast true ⟨fun _ => rfl, fun _ => .inl hj0⟩, if_pos rfl]
    by_cases t1 : rs[j].to < 0
    · rw [if_neg (by omega)]
      simp (disch := (first | omega | decide | (simp only [rsD] <;> omega) | fail)) only [↓rsC, rsK, rsL, ↓rsGck_2, tick_eq, tickV_eq, ne_eq, Int.reduceAdd, Int.reduceSub, Int.reduceMul, Int.reduceEq, Int.reduceLT, Int.reduceLE, Int.reduceToNat, Nat.reduceMul, Nat.reduceAdd, Nat.reduceSub, ←decide_not, c1, c2, kc, kc4, kb4]
      exact ⟨by trivial, X4⟩
    by_cases t2 : (ns.length : Int) < rs[j].to
    · rw [if_neg (by omega)]
      simp (disch := (first | omega | decide | (simp only [rsD] <;> omega) | fail)) only [↓rsC, rsK, rsL, ↓rsGck_2, tick_eq, tickV_eq, ne_eq, Int.reduceAdd, Int.reduceSub, Int.reduceMul, Int.reduceEq, Int.reduceLT, Int.reduceLE, Int.reduceToNat, Nat.reduceMul, Nat.reduceAdd, Nat.reduceSub, ←decide_not, c1, c2, kc, kc4, kb4]
      exact ⟨by trivial, X4⟩
    rw [if_pos (by omega)]
    simp (disch := (first | omega | decide | (simp only [rsD] <;> omega) | fail)) only [↓rsC, rsK, rsL, ↓rsGck_2, tick_eq, tickV_eq, ne_eq, Int.reduceAdd, Int.reduceSub, Int.reduceMul, Int.reduceEq, Int.reduceLT, Int.reduceLE, Int.reduceToNat, Nat.reduceMul, Nat.reduceAdd, Nat.reduceSub, ←decide_not, c1, c2, kc, kc4, kb4]
    exact ⟨by trivial, X4⟩
  · obtain ⟨b5, o5, ha5, z5, c5, c6⟩ := gr_at (hy.ext0 F3d).rr (k := j - 1) (by omega)
    cases ha5
    have t3 : ((j : Int) - 1).toNat = j - 1 := by omega
    have hgs := fun w K => geS (cx := false) (cy := false) (strOf rs[j - 1].s) (strOf rs[j].s) w K
    have hpl := prevL_get hj0 hj
    cases hlt : Op.bytesLess (strOf rs[j - 1].s).toList (strOf rs[j].s).toList with
    | true =>
      rw [hlt] at hgs hpl
      rw [hlast true ⟨fun _ => rfl, fun _ => .inr hpl⟩, if_pos rfl]
      by_cases t1 : rs[j].to < 0
      · rw [if_neg (by omega)]
        simp (disch := (first | omega | decide | (simp only [rsD] <;> omega) | fail)) only [↓rsC, rsK, rsL, ↓rsGck_2, tick_eq, tickV_eq, ne_eq, Int.reduceAdd, Int.reduceSub, Int.reduceMul, Int.reduceEq, Int.reduceLT, Int.reduceLE, Int.reduceToNat, Nat.reduceMul, Nat.reduceAdd, Nat.reduceSub, ←decide_not, c1, c2, kc, kc4, kb4, t3, c5, hgs]
        exact ⟨by trivial, X4⟩
      by_cases t2 : (ns.length : Int) < rs[j].to
      · rw [if_neg (by omega)]
        simp (disch := (first | omega | decide | (simp only [rsD] <;> omega) | fail)) only [↓rsC, rsK, rsL, ↓rsGck_2, tick_eq, tickV_eq, ne_eq, Int.reduceAdd, Int.reduceSub, Int.reduceMul, Int.reduceEq, Int.reduceLT, Int.reduceLE, Int.reduceToNat, Nat.reduceMul, Nat.reduceAdd, Nat.reduceSub, ←decide_not, c1, c2, kc, kc4, kb4, t3, c5, hgs]
        exact ⟨by trivial, X4⟩
      rw [if_pos (by omega)]
      simp (disch := (first | omega | decide | (simp only [rsD] <;> omega) | fail)) only [↓rsC, rsK, rsL, ↓rsGck_2, tick_eq, tickV_eq, ne_eq, Int.reduceAdd, Int.reduceSub, Int.reduceMul, Int.reduceEq, Int.reduceLT, Int.reduceLE, Int.reduceToNat, Nat.reduceMul, Nat.reduceAdd, Nat.reduceSub, ←decide_not, c1, c2, kc, kc4, kb4, t3, c5, hgs]
      exact ⟨by trivial, X4⟩
    | false =>
      rw [hlt] at hgs hpl
      rw [hlast false ⟨fun q => by rcases q with q | q; exact absurd q hj0; rw [hpl] at q; exact q, fun q => by cases q⟩, if_neg (by simp)]
      simp (disch := (first | omega | decide | (simp only [rsD] <;> omega) | fail)) only [↓rsC, rsK, rsL, ↓rsGck_2, tick_eq, tickV_eq, ne_eq, Int.reduceAdd, Int.reduceSub, Int.reduceMul, Int.reduceEq, Int.reduceLT, Int.reduceLE, Int.reduceToNat, Nat.reduceMul, Nat.reduceAdd, Nat.reduceSub, ←decide_not, c1, c2, kc, kc4, kb4, t3, c5, hgs]
      exact ⟨by trivial, X4⟩
/-- all, by the program -/
abbrev rsGck_3 := (And.intro @xu8_add (And.intro @xu8_neq (And.intro @xu8_lss (And.intro @xu8_gtr (And.intro @xu16_add (And.intro @xu16_neq (And.intro @xu16_lss (And.intro @xu16_gtr (And.intro @xu32_add (And.intro @xu32_neq (And.intro @xu32_lss (And.intro @xu32_gtr (And.intro @xu64_add (And.intro @xu64_neq (And.intro @xu64_lss (And.intro @xu64_gtr 
  (And.intro @xi64_lss (And.intro @xi64_gtr (And.intro @xi64_neq (And.intro @xi64_neg (And.intro @ld_22 (And.intro @ld_23 (And.intro @ld_25 (And.intro @ld_72 (And.intro @fa_25_0 (And.intro @fa_25_1 (And.intro @al_72 (And.intro @st_72 (And.intro @ia_22 (And.intro @ln_22 @ln_23))))))))))))))))))))))))))))))
theorem gcheck_spec {w : World} {na ra : Option Addr} {nc rc : Nat} {ns : List GN} {rs : List GR} (h : GIs w na nc ra rc ns rs) (hf : FewH ns rs) : Gives Try.prog n_graph_Check #[gV na nc ra rc ns rs] w (i64 (chkV ns rs)) := by
  have hfn := hf.n
  have hfr := hf.r
  refine graph_Check_of ?_
  unfold graph_Check
  simp (disch := (first | omega | decide | (simp only [rsD] <;> omega) | fail)) only [↓rsC, rsK, rsL, ↓rsGck_3, tick_eq, tickV_eq, ne_eq, Int.reduceAdd, Int.reduceSub, Int.reduceMul, Int.reduceEq, Int.reduceLT, Int.reduceLE, Int.reduceToNat, Nat.reduceMul, Nat.reduceAdd, Nat.reduceSub, ←decide_not, eq_self]
  have B : Blk (w.alloc (.cells #[.slice na ns.length nc, .slice ra rs.length rc] 25)) w.heap.size 25 [.slice na ns.length nc, .slice ra rs.length rc] := Blk.at rfl
  have X : Ext [] w (w.alloc (.cells #[.slice na ns.length nc, .slice ra rs.length rc] 25)) := Ext.alloc _ _ _
  have hy := h.ext0 X
  generalize w.heap.size = hb at *
  generalize w.alloc (.cells #[.slice na ns.length nc, .slice ra rs.length rc] 25) = y at *
  refine xLoop_n ns.length (fun j => [i64 (j : Int)]) (fun j w' => Ext [] y w' ∧ ∀ i (hi : i < ns.length), i < j → ndE ns.length ns[i] = 0) rfl ⟨Ext.refl _ _, by intro i _ hi; omega⟩ ?_ ?_
  · intro j hj u v1 hu ⟨F, hq⟩ nxt hnx
    simp only [List.map_cons, List.map_nil, List.cons.injEq, and_true] at hu
    rw [hu]
    have k1 := fun i => (B.ext F (by simp)).cell (i := i)
    obtain ⟨b1, o1, ha1, z1, c1, c2⟩ := gn_at (hy.ext0 F).nr hj
    have hm := List.getElem_mem hj
    have hok := (hy.ext0 F).ok _ hm
    have hfx := hf.x _ hm
    have zb := (B.ext F (by simp)).lt
    unfold graph_Check_l1
    simp (disch := (first | omega | decide | (simp only [rsD] <;> omega) | fail)) only [↓rsC, rsK, rsL, ↓rsGck_3, tick_eq, tickV_eq, ne_eq, Int.reduceAdd, Int.reduceSub, Int.reduceMul, Int.reduceEq, Int.reduceLT, Int.reduceLE, Int.reduceToNat, Nat.reduceMul, Nat.reduceAdd, Nat.reduceSub, ←decide_not, k1, ha1, c1, c2]
    simp only [← ha1]
    have X1 : Ext [] v1 (v1.alloc (.cells #[.slice ns[j].pa ns[j].p.length ns[j].pc, .slice ns[j].da ns[j].d.length ns[j].dc] 72)) := Ext.alloc _ _ _
    refine graph_Graph_node_call (Gives.to (gnode_spec (na := na) (nc := nc) (ra := ra) (rc := rc) (ns := ns) (rs := rs) (hok.ext0 X1) (by omega)) fun v2 F2 => ?_)
    have F3 := F.trans (X1.trans F2)
    by_cases he : ndE ns.length ns[j] = 0
    · rw [he]
      simp (disch := (first | omega | decide | (simp only [rsD] <;> omega) | fail)) only [↓rsC, rsK, rsL, ↓rsGck_3, tick_eq, tickV_eq, ne_eq, Int.reduceAdd, Int.reduceSub, Int.reduceMul, Int.reduceEq, Int.reduceLT, Int.reduceLE, Int.reduceToNat, Nat.reduceMul, Nat.reduceAdd, Nat.reduceSub, ←decide_not, k1, ha1, c1, c2]
      refine hnx _ ⟨F3, fun i hi hij => ?_⟩
      by_cases e : i = j
      · subst e; exact he
      · exact hq i hi (by omega)
    · have hc := chk_node (rs := rs) hj hq rfl he
      simp (disch := (first | omega | decide | (simp only [rsD] <;> omega) | fail)) only [↓rsC, rsK, rsL, ↓rsGck_3, tick_eq, tickV_eq, ne_eq, Int.reduceAdd, Int.reduceSub, Int.reduceMul, Int.reduceEq, Int.reduceLT, Int.reduceLE, Int.reduceToNat, Nat.reduceMul, Nat.reduceAdd, Nat.reduceSub, ←decide_not, k1, ha1, c1, c2]
      exact ⟨by rw [hc], X.trans F3⟩
  intro u v1 hu ⟨F, hq⟩ nxt
  simp only [List.map_cons, List.map_nil, List.cons.injEq, and_true] at hu
  rw [hu]
  have hq' : ∀ i (hi : i < ns.length), ndE ns.length ns[i] = 0 := fun i hi => hq i hi hi
  have k1 := fun i => (B.ext F (by simp)).cell (i := i)
  unfold graph_Check_l1
  by_cases g0 : 64 < rs.length
  · simp (disch := (first | omega | decide | (simp only [rsD] <;> omega) | fail)) only [↓rsC, rsK, rsL, ↓rsGck_3, tick_eq, tickV_eq, ne_eq, Int.reduceAdd, Int.reduceSub, Int.reduceMul, Int.reduceEq, Int.reduceLT, Int.reduceLE, Int.reduceToNat, Nat.reduceMul, Nat.reduceAdd, Nat.reduceSub, ←decide_not, k1]
    exact ⟨by rw [chk_len hq' g0], X.trans F⟩
  simp (disch := (first | omega | decide | (simp only [rsD] <;> omega) | fail)) only [↓rsC, rsK, rsL, ↓rsGck_3, tick_eq, tickV_eq, ne_eq, Int.reduceAdd, Int.reduceSub, Int.reduceMul, Int.reduceEq, Int.reduceLT, Int.reduceLE, Int.reduceToNat, Nat.reduceMul, Nat.reduceAdd, Nat.reduceSub, ←decide_not, k1]
  refine xLoop_n rs.length (fun j => [i64 (j : Int)]) (fun j w' => Ext [] y w' ∧ ∀ i, i < j → rtE ns.length rs i = 0) rfl ⟨F, by intro i hi; omega⟩ ?_ ?_
  · intro j hj u v2 hu ⟨F2, hr⟩ nxt2 hnx2
    simp only [List.map_cons, List.map_nil, List.cons.injEq, and_true] at hu
    rw [hu]
    have k2 := fun i => (B.ext F2 (by simp)).cell (i := i)
    unfold graph_Check_l2
    simp (disch := (first | omega | decide | (simp only [rsD] <;> omega) | fail)) only [↓rsC, rsK, rsL, ↓rsGck_3, tick_eq, tickV_eq, ne_eq, Int.reduceAdd, Int.reduceSub, Int.reduceMul, Int.reduceEq, Int.reduceLT, Int.reduceLE, Int.reduceToNat, Nat.reduceMul, Nat.reduceAdd, Nat.reduceSub, ←decide_not, k1, k2]
    refine graph_Graph_root_call (Gives.to (groot_spec (hy.ext0 F2) hj (by omega)) fun v3 F3 => ?_)
    by_cases he : rtE ns.length rs j = 0
    · rw [he]
      simp (disch := (first | omega | decide | (simp only [rsD] <;> omega) | fail)) only [↓rsC, rsK, rsL, ↓rsGck_3, tick_eq, tickV_eq, ne_eq, Int.reduceAdd, Int.reduceSub, Int.reduceMul, Int.reduceEq, Int.reduceLT, Int.reduceLE, Int.reduceToNat, Nat.reduceMul, Nat.reduceAdd, Nat.reduceSub, ←decide_not, k1, k2]
      refine hnx2 _ ⟨F2.trans F3, fun i hij => ?_⟩
      by_cases e : i = j
      · subst e; exact he
      · exact hr i (by omega)
    · have hc := chk_root hq' g0 hr hj rfl he
      simp (disch := (first | omega | decide | (simp only [rsD] <;> omega) | fail)) only [↓rsC, rsK, rsL, ↓rsGck_3, tick_eq, tickV_eq, ne_eq, Int.reduceAdd, Int.reduceSub, Int.reduceMul, Int.reduceEq, Int.reduceLT, Int.reduceLE, Int.reduceToNat, Nat.reduceMul, Nat.reduceAdd, Nat.reduceSub, ←decide_not, k1, k2]
      exact ⟨by rw [hc], X.trans (F2.trans F3)⟩
  · intro u v2 hu ⟨F2, hr⟩ nxt2
    simp only [List.map_cons, List.map_nil, List.cons.injEq, and_true] at hu
    rw [hu]
    unfold graph_Check_l2
    simp (disch := (first | omega | decide | (simp only [rsD] <;> omega) | fail)) only [↓rsC, rsK, rsL, ↓rsGck_3, tick_eq, tickV_eq, ne_eq, Int.reduceAdd, Int.reduceSub, Int.reduceMul, Int.reduceEq, Int.reduceLT, Int.reduceLE, Int.reduceToNat, Nat.reduceMul, Nat.reduceAdd, Nat.reduceSub, ←decide_not, k1]
    exact ⟨by rw [chk_ok hq' g0 hr], X.trans F2⟩
end Go.Proofs.Ytdpmidgeipibbaa
end
section
set_option linter.unusedVariables false
set_option linter.unusedSimpArgs false
set_option maxHeartbeats 4000000
namespace Go.Proofs.Ytdpmidgeipibbaa
open Go.Sh Go.RowKit

def gW (ns : List GN) : Nat := (ns.map gsz).sum
theorem gW_snoc (l : List GN) (x : GN) : gW (l ++ [x]) = gW l + gsz x := by simp [gW]
theorem gW_take {ns : List GN} {j : Nat} (hj : j < ns.length) : gW (ns.take (j + 1)) = gW (ns.take j) + gsz ns[j] := by
  rw [List.take_add_one, List.getElem?_eq_getElem hj]
  exact gW_snoc _ _
theorem gW_le (ns : List GN) (h : ∀ x ∈ ns, x.p.length ≤ 64 ∧ x.d.length ≤ 1024) : gW ns ≤ 193 * ns.length := by
  induction ns with
  | nil => simp [gW]
  | cons x ns ih =>
    have h1 := h x (by simp)
    have := ih fun y hy => h y (by simp [hy])
    have e : gW (x :: ns) = gsz x + gW ns := by simp [gW]
    rw [e, List.length_cons]
    unfold gsz
    omega
/-! bytes as words -/
def orV (l : List (BitVec 8)) (a : Nat) : Nat → BitVec 64
  | 0 => BitVec.ofNat 64 0
  | k + 1 => orV l a k ||| ((l.getD (a + k) (BitVec.ofNat 8 0)).setWidth 64 <<< (8 * k))
def wordV (l : List (BitVec 8)) (i : Nat) : BitVec 64 := orV l (8 * i) (min 8 (l.length - 8 * i))
def wordsV (l : List (BitVec 8)) : List (BitVec 64) := (List.range ((l.length + 7) / 8)).map (wordV l)
theorem wordsV_len (l : List (BitVec 8)) : (wordsV l).length = (l.length + 7) / 8 := by simp [wordsV]
def ptW (pl : List Nat) (to : Int) : BitVec 64 := if to = 0 then BitVec.ofNat 64 0 else BitVec.ofNat 64 (pl.getD (to.toNat - 1) 0 + 1)
end Go.Proofs.Ytdpmidgeipibbaa
end
