/- A word is its eight bytes; two objects that are written (sq). -/
import Derived.Test.YtknineilpenbnaaDoorObj
set_option linter.unusedVariables false
set_option linter.unusedSimpArgs false
set_option maxHeartbeats 4000000
namespace Go.Proofs.YtknineilpenbnaaDoor
open Go.Sh Go.RowKit

theorem wat_ext {ws ws' : List (BitVec 64)} {i : Nat} (h : ∀ r, r < 8 → byteW ws (8 * i + r) = byteW ws' (8 * i + r)) : wat ws i = wat ws' i := by
  apply BitVec.eq_of_getLsbD_eq
  intro k hk
  have h1 := congrArg (fun x => x.getLsbD (k % 8)) (h (k / 8) (by omega))
  simp only [byteW, BitVec.getLsbD_setWidth, BitVec.getLsbD_ushiftRight] at h1
  rw [show (8 * i + k / 8) / 8 = i by omega, show 8 * ((8 * i + k / 8) % 8) + k % 8 = k by omega] at h1
  have h2 : k % 8 < 8 := by omega
  simpa [wat, h2] using h1
theorem byte_zero {ws : List (BitVec 64)} {j : Nat} (h : wat ws (j / 8) = c0) : byteW ws j = BitVec.ofNat 8 0 := by
  unfold byteW
  rw [show ws.getD (j / 8) c0 = c0 from h]
  simp
theorem wat_rep {n i : Nat} : wat (List.replicate n c0) i = c0 := by
  unfold wat
  rw [List.getD_eq_getElem?_getD, List.getElem?_replicate]
  split <;> rfl
theorem wat_set_bytes {ws : List (BitVec 64)} {p i : Nat} {l : List (BitVec 8)} (h : p + l.length ≤ 8 * ws.length) (hi : 8 * i + 8 ≤ p ∨ p + l.length ≤ 8 * i) : wat (setBytesW ws p l) i = wat ws i := by
  refine wat_ext fun r hr => ?_
  rw [byte_set h, if_neg (by omega)]
theorem bytes_get {ws : List (BitVec 64)} {p : Nat} {l : List (BitVec 8)} (h : ∀ j, j < l.length → byteW ws (p + j) = l.getD j (BitVec.ofNat 8 0)) : bytesW ws p l.length = l := by
  unfold bytesW
  refine List.ext_getElem (by simp) fun j h1 h2 => ?_
  rw [List.getElem_map, List.getElem_range, h j h2, List.getD_eq_getElem?_getD, List.getElem?_eq_getElem h2]
  rfl
theorem pack_v {P n : Nat} (hP : P ≤ 64) (hn : n ≤ 1024) : rightP (P : Int) (n : Int) false 0 ∧ okW (packW P n false 0) ∧ szW (packW P n false 0) = 1 + P + (n + 7) / 8 ∧ pN (packW P n false 0) = P ∧ bN (packW P n false 0) = n := by
  have hr : rightP (P : Int) (n : Int) false 0 := right_f.2 (by omega)
  obtain ⟨h1, h2⟩ := okW_pack hr
  obtain ⟨u1, u2, u3, u4⟩ := un_pack hr
  exact ⟨hr, h1, by rw [h2]; simp, by unfold pN; rw [u1]; simp, by unfold bN; rw [u2]; simp⟩
section
variable (P n k : Nat) (x y : List (BitVec 8))
abbrev z1A : Nat := 1 + P + (n + 7) / 8
abbrev z2A : Nat := 1 + (k + 7) / 8
abbrev wA : List (BitVec 64) := alW (alW (List.replicate 200 c0) 0 (packW P n false 0) (1 + P + (n + 7) / 8)) (1 + P + (n + 7) / 8) (packW (0 : Nat) k false 0) (1 + (k + 7) / 8)
abbrev wB : List (BitVec 64) := setBytesW (wA P n k) ((1 + P + (n + 7) / 8 + 1) * 8) y
abbrev wC : List (BitVec 64) := setBytesW (wB P n k y) ((1 + P) * 8 + (n - x.length)) x
theorem wA_len : (wA P n k).length = 200 := by rw [alW_length, alW_length, List.length_replicate]
theorem wB_len : (wB P n k y).length = 200 := by rw [setBytesW_length, wA_len]
theorem wC_len : (wC P n k x y).length = 200 := by rw [setBytesW_length, wB_len]
variable {P n k x y}
theorem wA_at (hP : P ≤ 7) (hn : n ≤ 63) (i : Nat) : wat (wA P n k) i = if i = 1 + P + (n + 7) / 8 then packW (0 : Nat) k false 0 else if i = 0 then packW P n false 0 else c0 := by
  unfold wA
  rw [wat_alW (by rw [alW_length, List.length_replicate]; omega), wat_alW (by rw [List.length_replicate]; decide), wat_rep]
  by_cases h1 : i = 1 + P + (n + 7) / 8
  · rw [if_pos h1, if_pos h1]
  · rw [if_neg h1, if_neg h1]
    by_cases h2 : i = 0
    · rw [if_pos h2, if_pos h2, if_neg (by omega)]
    · rw [if_neg h2, if_neg h2]
      simp
theorem wB_at (hP : P ≤ 7) (hn : n ≤ 63) (hk : k ≤ 63) (hy : y.length ≤ k) {i : Nat} (hi : i ≤ 1 + P + (n + 7) / 8) : wat (wB P n k y) i = wat (wA P n k) i := wat_set_bytes (by rw [wA_len]; omega) (.inl (by omega))
theorem wC_at (hP : P ≤ 7) (hn : n ≤ 63) (hk : k ≤ 63) (hx : x.length ≤ n) (hy : y.length ≤ k) {i : Nat} (hi : i ≤ P ∨ i = 1 + P + (n + 7) / 8) : wat (wC P n k x y) i = wat (wA P n k) i := by
  unfold wC
  rw [wat_set_bytes (by rw [wB_len]; omega) (by omega)]
  exact wB_at hP hn hk hy (by omega)
theorem wC_byte (hP : P ≤ 7) (hn : n ≤ 63) (hk : k ≤ 63) (hx : x.length ≤ n) (hy : y.length ≤ k) (j : Nat) : byteW (wC P n k x y) j = if (1 + P) * 8 + (n - x.length) ≤ j ∧ j < (1 + P) * 8 + (n - x.length) + x.length then x.getD (j - ((1 + P) * 8 + (n - x.length))) (BitVec.ofNat 8 0) else if (1 + P + (n + 7) / 8 + 1) * 8 ≤ j ∧ j < (1 + P + (n + 7) / 8 + 1) * 8 + y.length then y.getD (j - (1 + P + (n + 7) / 8 + 1) * 8) (BitVec.ofNat 8 0) else byteW (wA P n k) j := by
  unfold wC wB
  rw [byte_set (by rw [setBytesW_length, wA_len]; omega), byte_set (by rw [wA_len]; omega)]
theorem wC_x (hP : P ≤ 7) (hn : n ≤ 63) (hk : k ≤ 63) (hx : x.length ≤ n) (hy : y.length ≤ k) : bytesW (wC P n k x y) ((1 + P) * 8 + (n - x.length)) x.length = x := by
  refine bytes_get fun j hj => ?_
  rw [wC_byte hP hn hk hx hy, if_pos (by omega), Nat.add_sub_cancel_left]
theorem wC_y (hP : P ≤ 7) (hn : n ≤ 63) (hk : k ≤ 63) (hx : x.length ≤ n) (hy : y.length ≤ k) : bytesW (wC P n k x y) ((1 + P + (n + 7) / 8 + 1) * 8) y.length = y := by
  refine bytes_get fun j hj => ?_
  rw [wC_byte hP hn hk hx hy, if_neg (by omega), if_pos (by omega), Nat.add_sub_cancel_left]
theorem wC_pad (hP : P ≤ 7) (hn : n ≤ 63) (hk : k ≤ 63) (hx : x.length ≤ n) (hy : y.length ≤ k) {j : Nat} (hj : ((1 + P) * 8 + n ≤ j ∧ j < (1 + P + (n + 7) / 8) * 8) ∨ ((1 + P + (n + 7) / 8 + 1) * 8 + k ≤ j)) : byteW (wC P n k x y) j = BitVec.ofNat 8 0 := by
  rw [wC_byte hP hn hk hx hy, if_neg (by omega), if_neg (by omega)]
  refine byte_zero ?_
  rw [wA_at hP hn, if_neg (by omega), if_neg (by omega)]
end
end Go.Proofs.YtknineilpenbnaaDoor
