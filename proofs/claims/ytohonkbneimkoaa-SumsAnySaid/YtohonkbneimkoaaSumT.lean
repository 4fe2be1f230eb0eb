/- Sums in plain Lean: linear, one-to-one; few bits in a row turned are found. -/
import Derived.Test.YtohonkbneimkoaaSumV
set_option linter.unusedVariables false
set_option linter.unusedSimpArgs false
set_option maxHeartbeats 4000000
namespace Go.Proofs.Ytohonkbneimkoaa
open Go.Sh Go.RowKit

abbrev o32 : BitVec 32 := BitVec.ofNat 32 1
theorem step_eq (c : BitVec 32) : crcStep c = (c >>> 1) ^^^ (if c.getLsbD 0 then BitVec.ofNat 32 3988292384 else 0#32) := by
  unfold crcStep
  have h : (c &&& BitVec.ofNat 32 1 = BitVec.ofNat 32 1) ↔ c.getLsbD 0 = true := by
    constructor
    · intro h
      have := congrArg (fun x => x.getLsbD 0) h
      simpa using this
    · intro h
      apply BitVec.eq_of_getLsbD_eq
      intro i hi
      rw [BitVec.getLsbD_and]
      cases i with
      | zero => simp [h]
      | succ i => simp
  rw [show (BitVec.ofNat 64 1).toNat = 1 by decide]
  by_cases hc : c.getLsbD 0 = true
  · rw [if_pos (h.2 hc), if_pos hc]
  · rw [if_neg (fun e => hc (h.1 e)), if_neg hc]; simp
theorem step_xor (a b : BitVec 32) : crcStep (a ^^^ b) = crcStep a ^^^ crcStep b := by
  rw [step_eq, step_eq, step_eq, BitVec.getLsbD_xor]
  have h : (a ^^^ b) >>> 1 = a >>> 1 ^^^ b >>> 1 := by
    apply BitVec.eq_of_getLsbD_eq; intro i hi; simp
  rw [h]
  apply BitVec.eq_of_getLsbD_eq
  intro i hi
  cases a.getLsbD 0 <;> cases b.getLsbD 0 <;> simp [BitVec.getLsbD_xor] <;> (generalize a.getLsbD (1 + i) = p; generalize b.getLsbD (1 + i) = q; generalize (BitVec.ofNat 32 3988292384).getLsbD i = r; cases p <;> cases q <;> cases r <;> rfl)
theorem step_zero {a : BitVec 32} (h : crcStep a = 0#32) : a = 0#32 := by
  rw [step_eq] at h
  cases h0 : a.getLsbD 0 with
  | true =>
    rw [h0] at h
    have := congrArg (fun x => x.getLsbD 31) h
    simp [BitVec.getLsbD_of_ge] at this
  | false =>
    rw [h0] at h
    apply BitVec.eq_of_getLsbD_eq
    intro i hi
    cases i with
    | zero => simpa using h0
    | succ i =>
      have := congrArg (fun x => x.getLsbD i) h
      simpa [Nat.add_comm 1] using this
theorem steps_xor (a b : BitVec 32) : ∀ n, crcSteps (a ^^^ b) n = crcSteps a n ^^^ crcSteps b n
  | 0 => rfl
  | n + 1 => by rw [crcSteps, steps_xor a b n, step_xor]; rfl
theorem steps_zero {a : BitVec 32} : ∀ n, crcSteps a n = 0#32 → a = 0#32
  | 0, h => h
  | n + 1, h => steps_zero n (step_zero h)
theorem steps_nought : ∀ n, crcSteps 0#32 n = 0#32
  | 0 => rfl
  | n + 1 => by rw [crcSteps, steps_nought n]; decide
/-- bit by bit -/
def bit32 (b : Bool) : BitVec 32 := if b then o32 else 0#32
def serial (s : BitVec 32) (f : Nat → Bool) : Nat → BitVec 32
  | 0 => s
  | n + 1 => crcStep (serial s f n ^^^ bit32 (f n))
theorem bit32_xor (a b : Bool) : bit32 (a ^^ b) = bit32 a ^^^ bit32 b := by cases a <;> cases b <;> decide
theorem serial_xor (s s' : BitVec 32) (f g : Nat → Bool) : ∀ n, serial (s ^^^ s') (fun i => f i ^^ g i) n = serial s f n ^^^ serial s' g n
  | 0 => rfl
  | n + 1 => by
    simp only [serial]
    rw [serial_xor s s' f g n, bit32_xor, ← step_xor]
    congr 1
    generalize serial s f n = p; generalize serial s' g n = q; generalize bit32 (f n) = r; generalize bit32 (g n) = t
    apply BitVec.eq_of_getLsbD_eq; intro i hi
    simp only [BitVec.getLsbD_xor]
    cases p.getLsbD i <;> cases q.getLsbD i <;> cases r.getLsbD i <;> cases t.getLsbD i <;> rfl
theorem serial_add (s : BitVec 32) (f : Nat → Bool) (n : Nat) : ∀ m, serial s f (n + m) = serial (serial s f n) (fun i => f (n + i)) m
  | 0 => rfl
  | m + 1 => by rw [← Nat.add_assoc, serial, serial_add s f n m]; rfl
theorem serial_congr {s : BitVec 32} {f g : Nat → Bool} : ∀ {n}, (∀ i, i < n → f i = g i) → serial s f n = serial s g n
  | 0, _ => rfl
  | n + 1, h => by rw [serial, serial, serial_congr fun i hi => h i (by omega), h n (by omega)]
def word (f : Nat → Bool) : Nat → BitVec 32
  | 0 => 0#32
  | n + 1 => word f n ^^^ (if f n then o32 <<< n else 0#32)
theorem word_bit (f : Nat → Bool) : ∀ n i, i < 32 → (word f n).getLsbD i = (decide (i < n) && f i)
  | 0, i, _ => by simp [word]
  | n + 1, i, hi => by
    have ih := word_bit f n i hi
    rw [word, BitVec.getLsbD_xor, ih]
    by_cases h : i = n
    · subst h
      cases f i <;> simp [hi]
    · have h2 : (if f n then o32 <<< n else 0#32).getLsbD i = false := by
        cases f n
        · simp
        · simp only [if_true, BitVec.getLsbD_shiftLeft]
          by_cases hl : i < n
          · simp [hl]
          · have h3 : ∃ j, i - n = j + 1 := ⟨i - n - 1, by omega⟩
            obtain ⟨j, hj⟩ := h3
            rw [hj]; simp
      rw [h2]
      by_cases hl : i < n
      · simp [hl, show i < n + 1 by omega]
      · simp [hl, show ¬ i < n + 1 by omega]
theorem pow_one : ∀ n, n < 32 → crcSteps (o32 <<< n) n = o32 := by decide +kernel
theorem serial_word (s : BitVec 32) (f : Nat → Bool) : ∀ n, n ≤ 32 → serial s f n = crcSteps (s ^^^ word f n) n
  | 0, _ => by simp [serial, word, crcSteps]
  | n + 1, h => by
    rw [serial, serial_word s f n (by omega), word, crcSteps, ← BitVec.xor_assoc, steps_xor (s ^^^ word f n)]
    congr 2
    cases f n
    · simp [bit32, steps_nought]
    · simp [bit32, pow_one n (by omega)]
def bitAt (l : List (BitVec 8)) (t : Nat) : Bool := (l.getD (t / 8) 0#8).getLsbD (t % 8)
theorem byte_serial (s : BitVec 32) (b : BitVec 8) : crcByte s b = serial s (fun i => b.getLsbD i) 8 := by
  rw [serial_word s _ 8 (by decide), crcByte]
  congr 2
  apply BitVec.eq_of_getLsbD_eq
  intro i hi
  rw [word_bit _ 8 i hi, BitVec.getLsbD_setWidth]
  by_cases h : i < 8
  · simp [h, hi]
  · simp [h, BitVec.getLsbD_of_ge _ _ (show 8 ≤ i by omega)]
theorem run_serial : ∀ (l : List (BitVec 8)) (s : BitVec 32), crcRun s l = serial s (bitAt l) (8 * l.length)
  | [], s => rfl
  | b :: l, s => by
    rw [crcRun, List.foldl_cons, show List.foldl crcByte (crcByte s b) l = crcRun (crcByte s b) l from rfl, run_serial l, List.length_cons, show 8 * (l.length + 1) = 8 + 8 * l.length by omega, serial_add, byte_serial]
    have h1 : serial s (bitAt (b :: l)) 8 = serial s (fun i => b.getLsbD i) 8 := serial_congr fun i hi => by
      unfold bitAt
      rw [Nat.div_eq_of_lt hi, Nat.mod_eq_of_lt hi]
      rfl
    rw [h1]
    exact serial_congr fun i _ => by
      unfold bitAt
      rw [show (8 + i) / 8 = i / 8 + 1 by omega, show (8 + i) % 8 = i % 8 by omega]
      rfl
/-- the bits that are turned -/
def turned (x : BitVec 32) (k n t : Nat) : Bool := decide (k ≤ t) && decide (t < k + n) && x.getLsbD (t - k)
theorem serial_off (s : BitVec 32) : ∀ n, serial s (fun _ => false) n = crcSteps s n
  | 0 => rfl
  | n + 1 => by rw [serial, serial_off s n, crcSteps]; simp [bit32]
theorem serial_turned {x : BitVec 32} (hx : x ≠ 0#32) (k m : Nat) : serial 0#32 (turned x k 32) (k + 32 + m) ≠ 0#32 := by
  rw [serial_add, serial_add]
  have h1 : serial 0#32 (turned x k 32) k = 0#32 := by
    rw [serial_congr (g := fun _ => false) (fun i hi => by simp [turned, show ¬ k ≤ i by omega]), serial_off, steps_nought]
  have h2 : serial 0#32 (fun i => turned x k 32 (k + i)) 32 = crcSteps x 32 := by
    rw [serial_congr (g := fun i => x.getLsbD i) (fun i hi => by simp [turned, hi]), serial_word _ _ 32 (Nat.le_refl _)]
    congr 1
    apply BitVec.eq_of_getLsbD_eq
    intro i hi
    rw [BitVec.getLsbD_xor, word_bit _ 32 i hi]
    simp [hi]
  rw [h1, h2, serial_congr (g := fun _ => false) (fun i hi => by simp [turned]; omega), serial_off]
  intro h
  exact hx (steps_zero 32 (steps_zero m h))
def turnL (l : List (BitVec 8)) (x : BitVec 32) (k : Nat) : Nat → List (BitVec 8)
  | 0 => l
  | i + 1 => if x.getLsbD i then (turnL l x k i).set ((k + i) / 8) ((turnL l x k i).getD ((k + i) / 8) 0#8 ^^^ (BitVec.ofNat 8 1 <<< ((k + i) % 8))) else turnL l x k i
theorem turnL_length (l : List (BitVec 8)) (x : BitVec 32) (k : Nat) : ∀ i, (turnL l x k i).length = l.length
  | 0 => rfl
  | i + 1 => by rw [turnL]; split <;> simp [turnL_length l x k i]
theorem bitAt_set {l : List (BitVec 8)} {j : Nat} {y : BitVec 8} {t : Nat} (hj : j < l.length) : bitAt (l.set j y) t = if t / 8 = j then y.getLsbD (t % 8) else bitAt l t := by
  unfold bitAt
  rw [List.getD_eq_getElem?_getD, List.getD_eq_getElem?_getD, List.getElem?_set]
  by_cases h : j = t / 8
  · rw [if_pos h, if_pos h.symm, if_pos hj]; rfl
  · rw [if_neg h, if_neg (Ne.symm h)]
theorem turnL_bit (l : List (BitVec 8)) (x : BitVec 32) (k : Nat) : ∀ i, k + i ≤ 8 * l.length → ∀ t, bitAt (turnL l x k i) t = (bitAt l t ^^ turned x k i t)
  | 0, _, t => by
    have : turned x k 0 t = false := by simp [turned]; omega
    rw [this]; simp [turnL]
  | i + 1, h, t => by
    have ih := turnL_bit l x k i (by omega)
    have hstep : turned x k (i + 1) t = (turned x k i t ^^ (decide (t = k + i) && x.getLsbD i)) := by
      unfold turned
      by_cases h1 : t = k + i
      · subst h1; simp
      · by_cases h2 : k ≤ t <;> by_cases h3 : t < k + i <;> simp [h1, h2, h3, show (t < k + (i + 1)) ↔ (t < k + i) from ⟨fun _ => by omega, fun _ => by omega⟩]
    rw [hstep, ← Bool.xor_assoc, ← ih t, turnL]
    by_cases hx : x.getLsbD i = true
    · rw [if_pos hx, bitAt_set (by rw [turnL_length]; omega), hx, Bool.and_true]
      by_cases h1 : t / 8 = (k + i) / 8
      · rw [if_pos h1, BitVec.getLsbD_xor, ← h1]
        have e : ((turnL l x k i).getD (t / 8) 0#8).getLsbD (t % 8) = bitAt (turnL l x k i) t := rfl
        rw [e]
        congr 1
        rw [BitVec.getLsbD_shiftLeft]
        have ht : t % 8 < 8 := Nat.mod_lt _ (by decide)
        by_cases h2 : t = k + i
        · subst h2; simp [ht]
        · have h3 : t % 8 ≠ (k + i) % 8 := fun e => h2 (by omega)
          by_cases h4 : t % 8 < (k + i) % 8
          · simp [h4, h2]
          · obtain ⟨j, hj⟩ : ∃ j, t % 8 - (k + i) % 8 = j + 1 := ⟨t % 8 - (k + i) % 8 - 1, by omega⟩
            rw [hj]; simp [h2]
      · rw [if_neg h1]
        have : t ≠ k + i := fun e => h1 (by rw [e])
        simp [this]
    · rw [if_neg hx]
      simp [hx]
/-- few bits in a row turned: another sum -/
theorem sum_turned {l : List (BitVec 8)} {x : BitVec 32} {k : Nat} (hx : x ≠ 0#32) (hk : k + 32 ≤ 8 * l.length) : sumV (turnL l x k 32) ≠ sumV l := by
  intro h
  unfold sumV addV at h
  have h1 : crcRun (~~~BitVec.ofNat 32 0) (turnL l x k 32) = crcRun (~~~BitVec.ofNat 32 0) l := by
    have := congrArg (fun x => ~~~x) h
    simpa using this
  rw [run_serial, run_serial, turnL_length] at h1
  generalize ~~~BitVec.ofNat 32 0 = s at h1
  have h2 : serial s (bitAt (turnL l x k 32)) (8 * l.length) = serial s (bitAt l) (8 * l.length) ^^^ serial 0#32 (turned x k 32) (8 * l.length) := by
    rw [← serial_xor, BitVec.xor_zero]
    exact serial_congr fun i _ => turnL_bit l x k 32 hk i
  rw [h2] at h1
  have h3 : serial 0#32 (turned x k 32) (8 * l.length) = 0#32 := by
    have := congrArg (fun y => serial s (bitAt l) (8 * l.length) ^^^ y) h1
    simpa [← BitVec.xor_assoc] using this
  obtain ⟨m, hm⟩ := Nat.exists_eq_add_of_le hk
  rw [hm] at h3
  exact serial_turned hx k m h3
end Go.Proofs.Ytohonkbneimkoaa
