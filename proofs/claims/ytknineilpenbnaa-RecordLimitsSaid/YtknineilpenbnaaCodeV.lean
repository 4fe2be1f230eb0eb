/- Numbers as bytes, seven bits each: there and back, in plain Lean. -/
import Derived.Test.YtknineilpenbnaaRules
import Derived.Test.YtknineilpenbnaaEng11
set_option linter.unusedVariables false
set_option linter.unusedSimpArgs false
set_option maxHeartbeats 4000000
namespace Go.Proofs.Ytknineilpenbnaa
open Go.Sh Go.RowKit

abbrev z64 : BitVec 64 := BitVec.ofNat 64 0
abbrev lowB (x : BitVec 64) : BitVec 8 := (x &&& BitVec.ofNat 64 127).setWidth 8 ||| BitVec.ofNat 8 128
abbrev highW (c : BitVec 8) (i : Nat) : BitVec 64 := (c &&& BitVec.ofNat 8 127).setWidth 64 <<< (7 * i)
def uintF : Nat → BitVec 64 → List (BitVec 8)
  | 0, _ => []
  | k + 1, x => if 128 ≤ x.toNat then lowB x :: uintF k (x >>> 7) else [x.setWidth 8]
theorem uintF_succ (k : Nat) (x : BitVec 64) : uintF (k + 1) x = if 128 ≤ x.toNat then lowB x :: uintF k (x >>> 7) else [x.setWidth 8] := rfl
/-- a number's bytes -/
def uintB (x : BitVec 64) : List (BitVec 8) := uintF 10 x
/-- a number read: the number and what is left, or the error (2: form, 3: too long) -/
def decF : Nat → Nat → BitVec 64 → List (BitVec 8) → Except Int (BitVec 64 × List (BitVec 8))
  | 0, _, _, _ => .error 2
  | _ + 1, _, _, [] => .error 3
  | f + 1, i, v, c :: l => if i = 9 ∧ 1 < c.toNat then .error 2 else
      if c.toNat < 128 then (if c.toNat = 0 ∧ 0 < i then .error 2 else .ok (v ||| highW c i, l)) else decF f (i + 1) (v ||| highW c i) l
def decU (l : List (BitVec 8)) : Except Int (BitVec 64 × List (BitVec 8)) := decF 10 0 z64 l

theorem shr7_lt {x : BitVec 64} {k : Nat} (h : x.toNat < 2 ^ (7 * (k + 1))) : (x >>> 7).toNat < 2 ^ (7 * k) := by
  rw [BitVec.toNat_ushiftRight, Nat.shiftRight_eq_div_pow, Nat.div_lt_iff_lt_mul (by decide), ← Nat.pow_add]
  rwa [show 7 * k + 7 = 7 * (k + 1) by omega]
theorem uintF_pos {k : Nat} {x : BitVec 64} : 0 < (uintF (k + 1) x).length := by
  unfold uintF
  split <;> simp
theorem uintF_one {k : Nat} {x : BitVec 64} (hx : x.toNat < 2 ^ (7 * (k + 1))) (h : (uintF (k + 1) x).length = 1) : x.toNat < 128 := by
  unfold uintF at h
  split at h
  · cases k with
    | zero => simp at hx; omega
    | succ k => have := uintF_pos (k := k) (x := x >>> 7); rw [List.length_cons] at h; omega
  · omega
theorem uintF_more {k : Nat} {x : BitVec 64} (h : 1 < (uintF (k + 1) x).length) : 128 ≤ x.toNat := by
  unfold uintF at h
  split at h
  · assumption
  · simp at h
theorem uintF_le : ∀ {k : Nat} {x : BitVec 64}, (uintF k x).length ≤ k
  | 0, _ => Nat.le_refl _
  | k + 1, x => by
    unfold uintF
    split
    · simp only [List.length_cons]; have := uintF_le (k := k) (x := x >>> 7); omega
    · simp
theorem lowB_ge (x : BitVec 64) : 128 ≤ (lowB x).toNat := by
  have h : (lowB x).getLsbD 7 = true := by simp [lowB, BitVec.getLsbD_or]
  rcases Nat.lt_or_ge (lowB x).toNat 128 with h2 | h2
  · have h3 : (lowB x).toNat.testBit 7 = false := Nat.testBit_lt_two_pow h2
    have h4 : (lowB x).toNat.testBit 7 = true := h
    rw [h3] at h4
    cases h4
  · exact h2
theorem low_high (x : BitVec 64) (i j : Nat) (hi : i < 10) : (highW (lowB x) i).getLsbD j = (decide (j < 64) && decide (7 * i ≤ j) && decide (j < 7 * i + 7) && x.getLsbD (j - 7 * i)) := by
  have h127 : ∀ m, m < 8 → (BitVec.ofNat 8 127).getLsbD m = decide (m < 7) := by decide
  have h127' : ∀ m, m < 64 → (BitVec.ofNat 64 127).getLsbD m = decide (m < 7) := by decide
  have h128 : ∀ m, m < 8 → (BitVec.ofNat 8 128).getLsbD m = decide (m = 7) := by decide
  simp only [highW, lowB, BitVec.getLsbD_shiftLeft, BitVec.getLsbD_setWidth, BitVec.getLsbD_and, BitVec.getLsbD_or]
  by_cases h1 : j < 64
  · by_cases h2 : j < 7 * i
    · simp [h1, h2, Nat.not_le.2 h2]
    · by_cases h3 : j < 7 * i + 7
      · have h4 : j - 7 * i < 7 := by omega
        rw [h127 _ (by omega), h127' _ (by omega), h128 _ (by omega)]
        simp [h1, h2, h3, h4, Nat.not_lt.1 h2, show j - 7 * i < 64 by omega, show j - 7 * i < 8 by omega, show j - 7 * i ≠ 7 by omega]
      · have h4 : ¬ j - 7 * i < 7 := by omega
        by_cases h5 : j - 7 * i < 8
        · rw [h127 _ h5]
          simp [h1, h2, h3, h4]
        · rw [BitVec.getLsbD_of_ge (BitVec.ofNat 8 127) _ (by omega)]
          simp [h3]
  · simp [h1]
theorem last_high (x : BitVec 64) (i j : Nat) (hi : i < 10) (hx : x.toNat < 128) : (highW (x.setWidth 8) i).getLsbD j = (decide (j < 64) && decide (7 * i ≤ j) && x.getLsbD (j - 7 * i)) := by
  have h127 : ∀ m, m < 8 → (BitVec.ofNat 8 127).getLsbD m = decide (m < 7) := by decide
  have hb : ∀ m, 7 ≤ m → x.getLsbD m = false := fun m hm => Nat.testBit_lt_two_pow (Nat.lt_of_lt_of_le hx (Nat.pow_le_pow_right (n := 2) (by decide) hm))
  simp only [highW, BitVec.getLsbD_shiftLeft, BitVec.getLsbD_setWidth, BitVec.getLsbD_and]
  by_cases h1 : j < 64
  · by_cases h2 : j < 7 * i
    · simp [h1, h2, Nat.not_le.2 h2]
    · by_cases h4 : j - 7 * i < 7
      · rw [h127 _ (by omega)]
        simp [h1, h2, h4, Nat.not_lt.1 h2, show j - 7 * i < 64 by omega, show j - 7 * i < 8 by omega]
      · rw [hb (j - 7 * i) (by omega)]
        simp
  · simp [h1]
/-- a number's bytes, read from the middle on -/
theorem dec_from {v : BitVec 64} {r : List (BitVec 8)} : ∀ (k i : Nat) (acc : BitVec 64), k + i = 10 → (∀ j, acc.getLsbD j = (v.getLsbD j && decide (j < 7 * i))) → (i = 0 ∨ v >>> (7 * i) ≠ z64) →
    decF k i acc (uintF k (v >>> (7 * i)) ++ r) = if k = 0 then .error 2 else .ok (v, r)
  | 0, i, acc, _, _, _ => rfl
  | k + 1, i, acc, hk, ha, h0 => by
    rw [if_neg (by omega)]
    unfold uintF
    by_cases hx : 128 ≤ (v >>> (7 * i)).toNat
    · rw [if_pos hx, List.cons_append]
      have hv : v.toNat < 2 ^ 64 := v.isLt
      have hi9 : i ≠ 9 := by
        rintro rfl
        rw [BitVec.toNat_ushiftRight, Nat.shiftRight_eq_div_pow] at hx
        omega
      have hge := lowB_ge (v >>> (7 * i))
      show (if i = 9 ∧ 1 < (lowB (v >>> (7 * i))).toNat then Except.error 2 else if (lowB (v >>> (7 * i))).toNat < 128 then _ else decF k (i + 1) (acc ||| highW (lowB (v >>> (7 * i))) i) (uintF k (v >>> (7 * i) >>> 7) ++ r)) = _
      rw [if_neg (by omega), if_neg (by omega)]
      have e : v >>> (7 * i) >>> 7 = v >>> (7 * (i + 1)) := by rw [← BitVec.shiftRight_add, Nat.mul_succ]
      rw [e, dec_from k (i + 1) _ (by omega) (fun j => ?_) (.inr fun e0 => ?_), if_neg (by omega)]
      · rw [BitVec.getLsbD_or, ha, low_high _ _ _ (by omega), BitVec.getLsbD_ushiftRight]
        by_cases h1 : j < 64
        · by_cases h2 : j < 7 * i
          · simp [h1, h2, show ¬ 7 * i ≤ j by omega, show j < 7 * (i + 1) by omega]
          · by_cases h3 : j < 7 * i + 7
            · simp [h1, h2, h3, show 7 * i ≤ j by omega, show j < 7 * (i + 1) by omega, show 7 * i + (j - 7 * i) = j by omega]
            · simp [h2, h3, show ¬ j < 7 * (i + 1) by omega]
        · rw [BitVec.getLsbD_of_ge v j (by omega)]
          simp [h1]
      · rw [← e] at e0
        have h7 := congrArg BitVec.toNat e0
        have h8 : ((v >>> (7 * i)) >>> 7).toNat = (v >>> (7 * i)).toNat / 2 ^ 7 := by rw [BitVec.toNat_ushiftRight, Nat.shiftRight_eq_div_pow]
        rw [h8] at h7
        have : 0 < (v >>> (7 * i)).toNat / 2 ^ 7 := Nat.div_pos hx (by decide)
        have h9 : (v >>> (7 * i)).toNat / 2 ^ 7 = 0 := h7
        omega
    · rw [if_neg hx, List.cons_append, List.nil_append]
      have hlt : ((v >>> (7 * i)).setWidth 8).toNat = (v >>> (7 * i)).toNat := by rw [BitVec.toNat_setWidth]; omega
      show (if i = 9 ∧ 1 < ((v >>> (7 * i)).setWidth 8).toNat then Except.error 2 else if ((v >>> (7 * i)).setWidth 8).toNat < 128 then (if ((v >>> (7 * i)).setWidth 8).toNat = 0 ∧ 0 < i then Except.error 2 else .ok (acc ||| highW ((v >>> (7 * i)).setWidth 8) i, r)) else _) = _
      have hv : v.toNat < 2 ^ 64 := v.isLt
      rw [if_neg, if_pos (by omega), if_neg]
      · congr 2
        apply BitVec.eq_of_getLsbD_eq
        intro j hj
        rw [BitVec.getLsbD_or, ha, last_high _ _ _ (by omega) (by omega), BitVec.getLsbD_ushiftRight]
        by_cases h2 : j < 7 * i
        · simp [h2, show ¬ 7 * i ≤ j by omega]
        · simp [hj, h2, show 7 * i ≤ j by omega, show 7 * i + (j - 7 * i) = j by omega]
      · rintro ⟨h1, h2⟩
        rcases h0 with h | h
        · omega
        · exact h (BitVec.eq_of_toNat_eq (by rw [← hlt, h1]; rfl))
      · rintro ⟨rfl, h2⟩
        rw [hlt, BitVec.toNat_ushiftRight, Nat.shiftRight_eq_div_pow] at h2
        omega
theorem dec_enc (v : BitVec 64) (r : List (BitVec 8)) : decU (uintB v ++ r) = .ok (v, r) := by
  have := dec_from (v := v) (r := r) 10 0 z64 rfl (by simp) (.inl rfl)
  simpa [decU, uintB] using this
/-- cut, it is too long -/
theorem dec_cut : ∀ (k i : Nat) (acc x : BitVec 64) (m : Nat), k + i = 10 → m < (uintF k x).length → decF k i acc ((uintF k x).take m) = .error 3
  | 0, _, _, _, _, _, h => by simp [uintF] at h
  | k + 1, i, acc, x, 0, _, _ => rfl
  | k + 1, i, acc, x, m + 1, hk, h => by
    have hx := uintF_more (k := k) (x := x) (by omega)
    unfold uintF at h ⊢
    rw [if_pos hx] at h ⊢
    rw [List.take_succ_cons]
    have hge := lowB_ge x
    have hk0 : k ≠ 0 := by
      rintro rfl
      simp [uintF] at h
    show (if i = 9 ∧ 1 < (lowB x).toNat then Except.error 2 else if (lowB x).toNat < 128 then _ else decF k (i + 1) (acc ||| highW (lowB x) i) ((uintF k (x >>> 7)).take m)) = _
    rw [if_neg (by omega), if_neg (by omega)]
    exact dec_cut k (i + 1) _ _ m (by omega) (by simpa using h)
theorem dec_short {v : BitVec 64} {m : Nat} (h : m < (uintB v).length) : decU ((uintB v).take m) = .error 3 := dec_cut 10 0 _ _ m rfl h
end Go.Proofs.Ytknineilpenbnaa
