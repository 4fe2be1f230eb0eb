/- What it is for objects to be well (sq). -/
import Derived.Test.YtdpmidgeipibbaaObj
set_option linter.unusedVariables false
set_option linter.unusedSimpArgs false
set_option maxHeartbeats 4000000
namespace Go.Proofs.Ytdpmidgeipibbaa
open Go.Sh Go.RowKit

theorem Objs.sorted {ws : List (BitVec 64)} {t o : Nat} {l : List Nat} (h : Objs ws t o l) : l.Pairwise (· ≤ ·) ∧ ∀ x ∈ l, o ≤ x ∧ okW (wat ws x) ∧ x + szW (wat ws x) ≤ t := by
  induction h with
  | nil => exact ⟨.nil, by simp⟩
  | @cons o l h1 h2 h3 ih =>
    refine ⟨List.pairwise_cons.2 ⟨fun x hx => ?_, ih.1⟩, fun x hx => ?_⟩
    · have := (ih.2 x hx).1
      omega
    · rcases List.mem_cons.1 hx with rfl | hx
      · exact ⟨Nat.le_refl _, h1, h2⟩
      · have := ih.2 x hx
        exact ⟨by omega, this.2⟩
def PtrW (ws : List (BitVec 64)) (l : List Nat) (o : Nat) : Prop := ∀ i, i < pN (wat ws o) → (wat ws (o + 1 + i)).toNat = 0 ∨ ((wat ws (o + 1 + i)).toNat ≤ 8192 ∧ 1 ≤ (wat ws (o + 1 + i)).toNat ∧ (wat ws (o + 1 + i)).toNat - 1 ∈ l)
def PadW (ws : List (BitVec 64)) (o : Nat) : Prop := ∀ j, (o + 1 + pN (wat ws o)) * 8 + bN (wat ws o) ≤ j → j < (o + szW (wat ws o)) * 8 → byteW ws j = BitVec.ofNat 8 0
theorem Objs.count {ws : List (BitVec 64)} {t o : Nat} {l : List Nat} (h : Objs ws t o l) : o + l.length ≤ t := by
  induction h with
  | nil => simp
  | @cons o q h1 h2 h3 ih => have := szW_pos (x := wat ws o); simp only [List.length_cons]; omega
def WellP (ws : List (BitVec 64)) (b t : Nat) : Prop := ∃ l, objs ws b t = some l ∧ ∀ o ∈ l, PtrW ws l o ∧ PadW ws o
def WellIs (ws : List (BitVec 64)) (b t : Nat) (v : Int) : Prop := (WellP ws b t ∧ v = 0) ∨ (¬ WellP ws b t ∧ v = 2)
theorem WellIs.bad {ws : List (BitVec 64)} {b t o : Nat} {l : List Nat} (h : objs ws b t = some l) (ho : o ∈ l) (hb : ¬ (PtrW ws l o ∧ PadW ws o)) : WellIs ws b t 2 := by
  refine .inr ⟨?_, rfl⟩
  rintro ⟨l', h1, h2⟩
  rw [h] at h1
  cases h1
  exact hb (h2 o ho)
def PtrOk (l : List Nat) (x : Nat) : Prop := x = 0 ∨ (x ≤ 8192 ∧ 1 ≤ x ∧ x - 1 ∈ l)
instance (l : List Nat) (x : Nat) : Decidable (PtrOk l x) := by unfold PtrOk; infer_instance
end Go.Proofs.Ytdpmidgeipibbaa
