/- Each pointer of an object is by itself: the walk (sq). -/
import Derived.Test.YtknineilpenbnaaDoorObjL
import Derived.Test.YtknineilpenbnaaDoorObjV
set_option linter.unusedVariables false
set_option linter.unusedSimpArgs false
set_option maxHeartbeats 4000000
namespace Go.Proofs.YtknineilpenbnaaDoor
open Go.Sh Go.RowKit

/-- the words of the two objects: pointers that are told, nothing else -/
structure PtrsAre (ws : List (BitVec 64)) (n : Nat) (l : List Int) : Prop where
  len : ws.length = 400
  ln : l.length = n
  h1 : wat ws 0 = packW (n : Int) ((8 : Nat) : Int) false 0
  h2 : wat ws (n + 2) = packW ((1 : Nat) : Int) ((0 : Nat) : Int) false 0
  by0 : wat ws (n + 1) = c0
  b0 : wat ws (n + 3) = c0
  pt : ∀ i, i < n → wat ws (1 + i) = BitVec.ofInt 64 (l.getD i 0 + 1)
  to : ∀ i, i < n → l.getD i 0 = -1 ∨ l.getD i 0 = 0 ∨ l.getD i 0 = ((n + 2 : Nat) : Int)
theorem PtrsAre.set {ws : List (BitVec 64)} {n : Nat} {l : List Int} (h : PtrsAre ws n l) {k : Nat} (hk : k < n) (hn : n ≤ 64) {to : Int} (ht : to = -1 ∨ to = 0 ∨ to = ((n + 2 : Nat) : Int)) : PtrsAre (ws.set (0 + 1 + k) (BitVec.ofInt 64 (to + 1))) n (l.set k to) := by
  have hl : 0 + 1 + k < ws.length := by rw [h.len]; omega
  have hw : ∀ i, i ≠ 1 + k → wat (ws.set (0 + 1 + k) (BitVec.ofInt 64 (to + 1))) i = wat ws i := fun i hi => by rw [wat_set hl, if_neg (by omega)]
  have hg : ∀ i, i < n → (l.set k to).getD i 0 = if i = k then to else l.getD i 0 := fun i hi => by
    have hil : i < l.length := by rw [h.ln]; exact hi
    simp only [List.getD_eq_getElem?_getD, List.getElem?_set]
    by_cases hki : k = i
    · subst hki; simp [hil]
    · rw [if_neg hki, if_neg (fun e => hki e.symm)]
  refine ⟨by rw [List.length_set]; exact h.len, by rw [List.length_set]; exact h.ln, by rw [hw _ (by omega)]; exact h.h1, by rw [hw _ (by omega)]; exact h.h2, by rw [hw _ (by omega)]; exact h.by0, by rw [hw _ (by omega)]; exact h.b0, fun i hi => ?_, fun i hi => ?_⟩
  · rw [hg i hi]
    by_cases hik : i = k
    · subst hik
      rw [if_pos rfl, wat_set hl, if_pos (by omega)]
    · rw [if_neg hik, hw _ (by omega)]
      exact h.pt i hi
  · rw [hg i hi]
    by_cases hik : i = k
    · rw [if_pos hik]; exact ht
    · rw [if_neg hik]; exact h.to i hi
theorem PtrsAre.obj {ws : List (BitVec 64)} {n : Nat} {l : List Int} (h : PtrsAre ws n l) (hn : 1 ≤ n) (hn2 : n ≤ 64) :
    ObjAt ws 0 (n + 4) 0 ∧ ObjAt ws 0 (n + 4) (n + 2) ∧ pN (wat ws 0) = n ∧ bN (wat ws 0) = 8 ∧ pN (wat ws (n + 2)) = 1 ∧ bN (wat ws (n + 2)) = 0 ∧ szW (wat ws 0) = n + 2 ∧ szW (wat ws (n + 2)) = 2 := by
  obtain ⟨r1, ok1, sz1, pn1, bn1⟩ := pack_v (P := n) (n := 8) hn2 (by omega)
  obtain ⟨r2, ok2, sz2, pn2, bn2⟩ := pack_v (P := 1) (n := 0) (by omega) (by omega)
  rw [h.h1, h.h2]
  exact ⟨⟨Nat.le_refl _, by rw [h.h1]; exact ok1, by rw [h.h1, sz1]; omega⟩, ⟨Nat.zero_le _, by rw [h.h2]; exact ok2, by rw [h.h2, sz2]; omega⟩, pn1, bn1, pn2, bn2, by rw [sz1]; omega, by rw [sz2]⟩
theorem PtrsAre.ptr {ws : List (BitVec 64)} {n : Nat} {l : List Int} (h : PtrsAre ws n l) (hn2 : n ≤ 64) {i : Nat} (hi : i < n) : ptrV 0 (n + 4) (wat ws (0 + 1 + i)) = (l.getD i 0, 0) ∧ ((wat ws (0 + 1 + i)).toNat = 0 ∨ ((wat ws (0 + 1 + i)).toNat ≤ 8192 ∧ 1 ≤ (wat ws (0 + 1 + i)).toNat ∧ (wat ws (0 + 1 + i)).toNat - 1 ∈ [0, n + 2])) := by
  rw [show 0 + 1 + i = 1 + i by omega, h.pt i hi]
  rcases h.to i hi with e | e | e
  · rw [e]
    have hv : (BitVec.ofInt 64 ((-1 : Int) + 1)).toNat = 0 := by decide
    exact ⟨by rw [ptrV, if_pos hv], .inl hv⟩
  · rw [e]
    have hv : (BitVec.ofInt 64 ((0 : Int) + 1)).toNat = 1 := by decide
    refine ⟨?_, .inr ⟨by omega, by omega, by rw [hv]; simp⟩⟩
    rw [ptrV, hv, if_neg (by decide), if_pos ⟨by decide, by omega, by omega⟩]
    rfl
  · rw [e]
    have hv : (BitVec.ofInt 64 (((n + 2 : Nat) : Int) + 1)).toNat = n + 3 := by rw [BitVec.toNat_ofInt]; omega
    refine ⟨?_, .inr ⟨by omega, by omega, by rw [hv]; simp⟩⟩
    rw [ptrV, hv, if_neg (by omega), if_pos ⟨by omega, by omega, by omega⟩]
    simp
    omega
end Go.Proofs.YtknineilpenbnaaDoor
