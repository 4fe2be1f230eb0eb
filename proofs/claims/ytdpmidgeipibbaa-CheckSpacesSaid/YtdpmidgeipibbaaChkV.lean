/- What is wrong in words that should be objects (sq). -/
import Derived.Test.YtdpmidgeipibbaaObjO
set_option linter.unusedVariables false
set_option linter.unusedSimpArgs false
set_option maxHeartbeats 4000000
namespace Go.Proofs.Ytdpmidgeipibbaa
open Go.Sh Go.RowKit

/-- walking over words: places, and where it ends for want of an object -/
inductive Sc (x : Nat → BitVec 64) (t : Nat) : Nat → List Nat → Option Nat → Prop
  | done : Sc x t t [] none
  | bad {o : Nat} : o < t → ¬ (okW (x o) ∧ o + szW (x o) ≤ t) → Sc x t o [] (some o)
  | step {o : Nat} {l : List Nat} {b : Option Nat} : okW (x o) → o + szW (x o) ≤ t → Sc x t (o + szW (x o)) l b → Sc x t o (o :: l) b
theorem Sc.le {x : Nat → BitVec 64} {t o : Nat} {l : List Nat} {b : Option Nat} (h : Sc x t o l b) : o ≤ t := by
  cases h with
  | done => exact Nat.le_refl _
  | bad h1 _ => exact Nat.le_of_lt h1
  | step _ h2 _ => have := szW_pos (x := x o); omega
theorem Sc.ex (x : Nat → BitVec 64) (t : Nat) : ∀ (f o : Nat), t ≤ o + f → o ≤ t → ∃ l b, Sc x t o l b
  | 0, o, h1, h2 => by obtain rfl : o = t := by omega
                       exact ⟨_, _, .done⟩
  | f + 1, o, h1, h2 => by
    by_cases h : o = t
    · subst h; exact ⟨_, _, .done⟩
    · by_cases h3 : okW (x o) ∧ o + szW (x o) ≤ t
      · have := szW_pos (x := x o)
        obtain ⟨l, b, h4⟩ := Sc.ex x t f (o + szW (x o)) (by omega) h3.2
        exact ⟨_, _, .step h3.1 h3.2 h4⟩
      · exact ⟨_, _, .bad (by omega) h3⟩
theorem Sc.congr {x y : Nat → BitVec 64} {t o : Nat} {l : List Nat} {b : Option Nat} (h : Sc x t o l b) (e : ∀ i, o ≤ i → i < t → x i = y i) : Sc y t o l b := by
  induction h with
  | done => exact .done
  | @bad o h1 h2 => rw [e o (Nat.le_refl _) h1] at h2; exact .bad h1 h2
  | @step o l b h1 h2 h3 ih =>
    have hp := szW_pos (x := x o)
    have e1 := e o (Nat.le_refl _) (by omega)
    have ih := ih fun i hi => e i (by omega)
    rw [e1] at h1 h2 ih
    exact .step h1 h2 ih
theorem Sc.uniq {x : Nat → BitVec 64} {t o : Nat} {l l' : List Nat} {b b' : Option Nat} (h : Sc x t o l b) (h' : Sc x t o l' b') : l = l' ∧ b = b' := by
  induction h generalizing l' b' with
  | done =>
    cases h' with
    | done => exact ⟨rfl, rfl⟩
    | bad h1 _ => exact absurd h1 (Nat.lt_irrefl _)
    | step _ h2 _ => have := szW_pos (x := x t); omega
  | @bad o h1 h2 =>
    cases h' with
    | done => exact absurd h1 (Nat.lt_irrefl _)
    | bad _ _ => exact ⟨rfl, rfl⟩
    | step h3 h4 _ => exact absurd ⟨h3, h4⟩ h2
  | @step o l b h1 h2 h3 ih =>
    cases h' with
    | done => have := szW_pos (x := x t); omega
    | bad _ h5 => exact absurd ⟨h1, h2⟩ h5
    | step _ _ h6 => obtain ⟨rfl, rfl⟩ := ih h6; exact ⟨rfl, rfl⟩
theorem Sc.step_inv {x : Nat → BitVec 64} {t o : Nat} {l : List Nat} {b : Option Nat} (h : Sc x t o l b) (h1 : o < t) (h2 : okW (x o)) (h3 : o + szW (x o) ≤ t) : ∃ l', l = o :: l' ∧ Sc x t (o + szW (x o)) l' b := by
  cases h with
  | done => exact absurd h1 (Nat.lt_irrefl _)
  | bad _ h5 => exact absurd ⟨h2, h3⟩ h5
  | step _ _ h6 => exact ⟨_, rfl, h6⟩
theorem Sc.all {x : Nat → BitVec 64} {t o : Nat} {l : List Nat} {b : Option Nat} (h : Sc x t o l b) : l.Pairwise (· < ·) ∧ ∀ p ∈ l, o ≤ p ∧ okW (x p) ∧ p + szW (x p) ≤ t := by
  induction h with
  | done => exact ⟨.nil, by simp⟩
  | bad => exact ⟨.nil, by simp⟩
  | @step o l b h1 h2 h3 ih =>
    have hp := szW_pos (x := x o)
    refine ⟨List.pairwise_cons.2 ⟨fun p hq => ?_, ih.1⟩, fun p hq => ?_⟩
    · have := (ih.2 p hq).1
      omega
    · rcases List.mem_cons.1 hq with rfl | hq
      · exact ⟨Nat.le_refl _, h1, h2⟩
      · have := ih.2 p hq
        exact ⟨by omega, this.2⟩
theorem Sc.count {x : Nat → BitVec 64} {t o : Nat} {l : List Nat} {b : Option Nat} (h : Sc x t o l b) : o + l.length ≤ t := by
  induction h with
  | done => simp
  | bad h1 _ => simp; omega
  | @step o l b h1 h2 h3 ih => have := szW_pos (x := x o); simp only [List.length_cons]; omega
theorem Sc.objs {ws : List (BitVec 64)} {t o : Nat} {l : List Nat} (h : Sc (wat ws) t o l none) : Objs ws t o l := by
  generalize hb : (none : Option Nat) = b at h
  induction h with
  | done => exact .nil
  | bad => cases hb
  | step h1 h2 _ ih => exact .cons h1 h2 (ih hb)
theorem Objs.sc {ws : List (BitVec 64)} {t o : Nat} {l : List Nat} (h : Objs ws t o l) : Sc (wat ws) t o l none := by
  induction h with
  | nil => exact .done
  | cons h1 h2 _ ih => exact .step h1 h2 ih
/-! findings -/
abbrev Fnd := Nat × List (BitVec 8)
def sHead : List (BitVec 8) := [104#8, 101#8, 97#8, 100#8]
def sPtr : List (BitVec 8) := [112#8, 116#8, 114#8]
def sPad : List (BitVec 8) := [112#8, 97#8, 100#8]
def padX (x : Nat → BitVec 64) (o : Nat) : Prop := bN (x o) % 8 ≠ 0 ∧ x (o + szW (x o) - 1) >>> (8 * (bN (x o) % 8)) ≠ 0#64
instance (x : Nat → BitVec 64) (o : Nat) : Decidable (padX x o) := by unfold padX; infer_instance
def badF : Option Nat → List Fnd
  | none => []
  | some o => [(o, sHead)]
def ptrF (x : Nat → BitVec 64) (l : List Nat) (o : Nat) : Nat → List Fnd
  | 0 => []
  | k + 1 => ptrF x l o k ++ (if PtrOk l (x (o + 1 + k)).toNat then [] else [(o + 1 + k, sPtr)])
def padF (x : Nat → BitVec 64) (o : Nat) : List Fnd := if padX x o then [(o + szW (x o) - 1, sPad)] else []
def objF (x : Nat → BitVec 64) (l : List Nat) (o : Nat) : List Fnd := ptrF x l o (pN (x o)) ++ padF x o
def allF (x : Nat → BitVec 64) (l : List Nat) (b : Option Nat) : List Fnd := badF b ++ l.flatMap (objF x l)
theorem ptrF_len (x : Nat → BitVec 64) (l : List Nat) (o : Nat) : ∀ k, (ptrF x l o k).length ≤ k
  | 0 => Nat.le_refl _
  | k + 1 => by
    have := ptrF_len x l o k
    rw [ptrF, List.length_append]
    split <;> simp <;> omega
theorem ptrF_nil (x : Nat → BitVec 64) (l : List Nat) (o : Nat) : ∀ k, ptrF x l o k = [] ↔ ∀ i, i < k → PtrOk l (x (o + 1 + i)).toNat
  | 0 => by simp [ptrF]
  | k + 1 => by
    rw [ptrF, List.append_eq_nil_iff, ptrF_nil x l o k]
    constructor
    · rintro ⟨h1, h2⟩ i hi
      by_cases e : i = k
      · subst e
        by_cases h3 : PtrOk l (x (o + 1 + i)).toNat
        · exact h3
        · rw [if_neg h3] at h2; cases h2
      · exact h1 i (by omega)
    · intro h
      exact ⟨fun i hi => h i (by omega), if_pos (h k (by omega))⟩
theorem objF_len (x : Nat → BitVec 64) (l : List Nat) (o : Nat) : (objF x l o).length ≤ pN (x o) + 1 := by
  have := ptrF_len x l o (pN (x o))
  unfold objF padF
  rw [List.length_append]
  split <;> simp <;> omega
theorem szW_ge {y : BitVec 64} : pN y + 1 ≤ szW y := by unfold szW pN; omega
theorem Sc.fnd {x : Nat → BitVec 64} {t o : Nat} {l : List Nat} {b : Option Nat} (h : Sc x t o l b) (l' : List Nat) : ∀ j, ((l.take j).flatMap (objF x l')).length ≤ t - o := by
  induction h with
  | done => simp
  | bad => simp
  | @step o l b h1 h2 h3 ih =>
    intro j
    cases j with
    | zero => simp
    | succ j =>
      have := ih j
      have h4 := objF_len x l' o
      have h5 := szW_ge (y := x o)
      rw [List.take_succ_cons, List.flatMap_cons, List.length_append]
      omega
/-- the last word's bytes behind the object's -/
theorem pad_iff {ws : List (BitVec 64)} {o : Nat} (h : okW (wat ws o)) : padX (wat ws) o ↔ ¬ PadW ws o := by
  obtain ⟨v1, v2, v3, v4, v5, v6, v7, v8⟩ := okW_v h
  unfold padX PadW
  rw [v6]
  generalize pN (wat ws o) = p at *
  generalize bN (wat ws o) = b at *
  have hA : (o + 1 + p) * 8 + b = 8 * (o + 1 + p + b / 8) + b % 8 := by omega
  have hbit : ∀ j, byteW ws j = BitVec.ofNat 8 0 ↔ ∀ i, i < 8 → (wat ws (j / 8)).getLsbD (8 * (j % 8) + i) = false := by
    intro j
    have e : byteW ws j = ((wat ws (j / 8)) >>> (8 * (j % 8))).setWidth 8 := rfl
    rw [e]
    constructor
    · intro h i hi
      have := congrArg (fun z => z.getLsbD i) h
      simp only [BitVec.getLsbD_setWidth, BitVec.getLsbD_ushiftRight, hi, decide_true, Bool.true_and] at this
      rw [this]
      simp
    · intro h
      apply BitVec.eq_of_getLsbD_eq
      intro i hi
      simp only [BitVec.getLsbD_setWidth, BitVec.getLsbD_ushiftRight, hi, decide_true, Bool.true_and, h i hi]
      simp
  by_cases hz : b % 8 = 0
  · constructor
    · rintro ⟨h1, _⟩; exact absurd hz h1
    · intro h1
      exact absurd (fun j h2 h3 => by omega) h1
  · have hq : o + (1 + p + (b + 7) / 8) - 1 = o + 1 + p + b / 8 := by omega
    rw [hq]
    generalize hQ : o + 1 + p + b / 8 = q at *
    constructor
    · rintro ⟨_, h1⟩ h2
      apply h1
      apply BitVec.eq_of_getLsbD_eq
      intro i hi
      rw [BitVec.getLsbD_ushiftRight]
      simp only [BitVec.getLsbD_zero]
      by_cases h3 : 8 * (b % 8) + i < 64
      · have h4 := (hbit (8 * q + (8 * (b % 8) + i) / 8)).1 (h2 _ (by omega) (by omega)) ((8 * (b % 8) + i) % 8) (by omega)
        rw [show (8 * q + (8 * (b % 8) + i) / 8) / 8 = q by omega, show 8 * ((8 * q + (8 * (b % 8) + i) / 8) % 8) + (8 * (b % 8) + i) % 8 = 8 * (b % 8) + i by omega] at h4
        exact h4
      · exact BitVec.getLsbD_of_ge _ _ (by omega)
    · intro h1
      refine ⟨hz, fun h2 => h1 fun j h3 h4 => (hbit j).2 fun i hi => ?_⟩
      have h5 := congrArg (fun z => z.getLsbD (8 * (j % 8) + i - 8 * (b % 8))) h2
      simp only [BitVec.getLsbD_ushiftRight, BitVec.getLsbD_zero] at h5
      rw [show 8 * (b % 8) + (8 * (j % 8) + i - 8 * (b % 8)) = 8 * (j % 8) + i by omega] at h5
      rw [show j / 8 = q by omega]
      exact h5
theorem allF_well {ws : List (BitVec 64)} {b t : Nat} {l : List Nat} {bad : Option Nat} (hb : b ≤ t) (h : Sc (wat ws) t b l bad) : allF (wat ws) l bad = [] ↔ WellP ws b t := by
  unfold allF WellP
  rw [List.append_eq_nil_iff]
  constructor
  · rintro ⟨h1, h2⟩
    have hn : bad = none := by cases bad; rfl; cases h1
    subst hn
    refine ⟨l, (objs_some hb).2 h.objs, fun o ho => ?_⟩
    have h3 := List.flatMap_eq_nil_iff.1 h2 o ho
    obtain ⟨_, hok, _⟩ := h.all.2 o ho
    unfold objF at h3
    rw [List.append_eq_nil_iff, ptrF_nil] at h3
    refine ⟨h3.1, Classical.byContradiction fun h4 => ?_⟩
    have h5 := h3.2
    unfold padF at h5
    rw [if_pos ((pad_iff hok).2 h4)] at h5
    cases h5
  · rintro ⟨l', h1, h2⟩
    obtain ⟨rfl, rfl⟩ := h.uniq ((objs_some hb).1 h1).sc
    refine ⟨rfl, List.flatMap_eq_nil_iff.2 fun o ho => ?_⟩
    obtain ⟨h3, h4⟩ := h2 o ho
    obtain ⟨_, hok, _⟩ := h.all.2 o ho
    unfold objF padF
    rw [List.append_eq_nil_iff, ptrF_nil, if_neg (fun h5 => (pad_iff hok).1 h5 h4)]
    exact ⟨h3, rfl⟩
end Go.Proofs.Ytdpmidgeipibbaa
