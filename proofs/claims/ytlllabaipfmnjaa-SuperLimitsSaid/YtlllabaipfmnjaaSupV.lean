/- Superblocks as bytes: there and back, in plain Lean (sq). -/
import Derived.Test.YtlllabaipfmnjaaSum
import Derived.Test.YtlllabaipfmnjaaGeom
import Derived.Test.YtlllabaipfmnjaaRwB
set_option linter.unusedVariables false
set_option linter.unusedSimpArgs false
set_option maxHeartbeats 4000000
namespace Go.Proofs.Ytlllabaipfmnjaa
open Go.Sh Go.RowKit

abbrev lowN (n : Nat) (v : BitVec 64) : List (BitVec 8) := (List.range n).map (byteOf v)
abbrev zs8 (n : Nat) : List (BitVec 8) := List.replicate n (BitVec.ofNat 8 0)
theorem put_mid {A X B : List (BitVec 8)} {v : BitVec 64} : putV (A ++ X ++ B) A.length X.length v = A ++ lowN X.length v ++ B := by
  unfold putV
  rw [show A ++ X ++ B = A ++ (X ++ B) from List.append_assoc .., List.take_left' rfl, List.drop_append, List.drop_eq_nil_of_le (by omega), List.nil_append, show A.length + X.length - A.length = X.length by omega, List.drop_left' rfl]
theorem put_next {A : List (BitVec 8)} {m n : Nat} {v : BitVec 64} (h : A.length + n ≤ m) : putV (A ++ zs8 (m - A.length)) A.length n v = (A ++ lowN n v) ++ zs8 (m - (A ++ lowN n v).length) := by
  have e : zs8 (m - A.length) = zs8 n ++ zs8 (m - A.length - n) := by rw [← List.replicate_append_replicate.symm]; congr 1; omega
  have := put_mid (A := A) (X := zs8 n) (B := zs8 (m - A.length - n)) (v := v)
  rw [e, ← List.append_assoc]
  rw [List.length_replicate] at this
  rw [this]
  congr 2
  simp
  omega
theorem get_mid {A B : List (BitVec 8)} {n : Nat} {v : BitVec 64} (h1 : 1 ≤ n) (h8 : n ≤ 8) : getV (A ++ lowN n v ++ B) A.length n = fieldB v 0 (8 * n : Nat) := by
  have e := put_mid (A := A) (X := zs8 n) (B := B) (v := v)
  rw [List.length_replicate] at e
  rw [← e]
  exact get_put h1 h8 (by simp)
theorem get_mid' {l A B : List (BitVec 8)} {n a : Nat} {v : BitVec 64} (h1 : 1 ≤ n) (h8 : n ≤ 8) (hl : l = A ++ lowN n v ++ B) (ha : a = A.length) : getV l a n = fieldB v 0 (8 * n : Nat) := by
  subst hl ha; exact get_mid h1 h8
theorem field_all (v : BitVec 64) : fieldB v 0 (8 * 8 : Nat) = v := by
  apply BitVec.eq_of_toNat_eq
  have := field_nat v (a := 0) (n := 64) (by decide) (by decide)
  have h : (fieldB v 0 (8 * 8 : Nat)).toNat = v.toNat / 2 ^ 0 % 2 ^ 64 := this
  rw [h]
  have := v.isLt
  omega
theorem field_small {n : Int} (h0 : 0 ≤ n) (h1 : n < 4294967296) : (fieldB (BitVec.ofInt 64 n) 0 (8 * 4 : Nat)).toInt = n := by
  have := field_nat (BitVec.ofInt 64 n) (a := 0) (n := 32) (by decide) (by decide)
  have h : (fieldB (BitVec.ofInt 64 n) 0 (8 * 4 : Nat)).toNat = (BitVec.ofInt 64 n).toNat / 2 ^ 0 % 2 ^ 32 := this
  have h2 : (BitVec.ofInt 64 n).toNat = n.toNat := by rw [BitVec.toNat_ofInt]; omega
  rw [h2] at h
  have h3 : (fieldB (BitVec.ofInt 64 n) 0 (8 * 4 : Nat)).toNat = n.toNat := by rw [h]; omega
  rw [BitVec.toInt_eq_toNat_of_lt (by rw [h3]; omega), h3]
  omega

/-! ### the block -/
structure SB where
  ep : BitVec 64
  sec : Int
  log : Int
  wds : Int
  sp : Int
  n : Int
  lg : BitVec 64
abbrev sbC (b : SB) : List Value := [u64 b.ep, i64 b.sec, i64 b.log, i64 b.wds, i64 b.sp, i64 b.n, u64 b.lg]
abbrev sbV (b : SB) : Value := .agg (sbC b).toArray
def SbOk (b : SB) : Prop := ¬ badGeom b.sec b.log b.wds ∧ 0 ≤ b.sp ∧ b.sp ≤ 1 ∧ 0 ≤ b.n ∧ b.n ≤ b.wds
open Classical in
noncomputable def sbErr (b : SB) : Int := if SbOk b then 0 else 1
abbrev fsOf (b : SB) : List (Nat × Nat × BitVec 64) := [(4, 4, BitVec.ofNat 64 1), (8, 8, b.ep), (16, 4, BitVec.ofInt 64 b.sec), (20, 4, BitVec.ofInt 64 b.log), (24, 4, BitVec.ofInt 64 b.wds), (28, 4, BitVec.ofInt 64 b.sp), (32, 4, BitVec.ofInt 64 b.n), (36, 8, b.lg)]
abbrev magicB : List (BitVec 8) := [BitVec.ofNat 8 76, BitVec.ofNat 8 79, BitVec.ofNat 8 65, BitVec.ofNat 8 77]
def partB (b : SB) (k : Nat) : List (BitVec 8) := magicB ++ ((fsOf b).take k).flatMap fun f => lowN f.2.1 f.2.2
def bodyB (b : SB) : List (BitVec 8) := partB b 8 ++ zs8 ((b.sec - 4).toNat - (partB b 8).length)
open Classical in
noncomputable def sbEnc (b : SB) : List (BitVec 8) := if SbOk b then sealV (bodyB b) else []
theorem partB_len (b : SB) : ∀ k, k < 8 → (partB b k).length = ((fsOf b).getD k (0, 0, 0)).1 := by
  intro k hk
  match k, hk with
  | 0, _ => rfl
  | 1, _ => simp [partB]
  | 2, _ => simp [partB]
  | 3, _ => simp [partB]
  | 4, _ => simp [partB]
  | 5, _ => simp [partB]
  | 6, _ => simp [partB]
  | 7, _ => simp [partB]
theorem partB_8 (b : SB) : (partB b 8).length = 44 := by simp [partB]
theorem partB_succ (b : SB) (k : Nat) (hk : k < 8) : partB b (k + 1) = partB b k ++ lowN ((fsOf b)[k]'hk).2.1 ((fsOf b)[k]'hk).2.2 := by
  unfold partB
  rw [List.take_succ_eq_append_getElem (show k < (fsOf b).length from hk), List.flatMap_append, List.append_assoc]
  simp
theorem sec_of {b : SB} (h : SbOk b) : 64 ≤ b.sec ∧ b.sec ≤ 1024 ∧ 8 ≤ b.log ∧ b.log ≤ 1024 ∧ 64 ≤ b.wds ∧ b.wds ≤ 8192 := by
  have := h.1
  unfold badGeom at this
  omega
theorem bodyB_len {b : SB} (h : SbOk b) : (bodyB b).length = (b.sec - 4).toNat := by
  have := sec_of h
  unfold bodyB
  rw [List.length_append, partB_8, List.length_replicate]
  omega
theorem sbEnc_len {b : SB} (h : SbOk b) : (sbEnc b).length = b.sec.toNat := by
  have := sec_of h
  rw [sbEnc, if_pos h, sealV_length, bodyB_len h]
  omega
/-- what is read off bytes -/
def fieldsB (s : List (BitVec 8)) : SB := ⟨getV s 8 8, (getV s 16 4).toInt, (getV s 20 4).toInt, (getV s 24 4).toInt, (getV s 28 4).toInt, (getV s 32 4).toInt, getV s 36 8⟩
theorem fields_back {b : SB} (h : SbOk b) : fieldsB (sbEnc b) = b := by
  obtain ⟨h1, h2, h3, h4, h5⟩ := h
  have hs := sec_of ⟨h1, h2, h3, h4, h5⟩
  have hok : SbOk b := ⟨h1, h2, h3, h4, h5⟩
  have key : ∀ k (hk : k < 8), ∃ B, sbEnc b = partB b k ++ lowN ((fsOf b)[k]'hk).2.1 ((fsOf b)[k]'hk).2.2 ++ B := by
    intro k hk
    have hp : ∀ j, k + 1 ≤ j → j ≤ 8 → ∃ C, partB b j = partB b (k + 1) ++ C := by
      intro j h1 h2
      induction j with
      | zero => omega
      | succ j ih =>
        by_cases hj : k + 1 = j + 1
        · rw [hj]; exact ⟨[], by simp⟩
        · obtain ⟨C, hC⟩ := ih (by omega) (by omega)
          rw [partB_succ b j (by omega), hC]
          exact ⟨C ++ lowN ((fsOf b)[j]'(show j < 8 by omega)).2.1 ((fsOf b)[j]'(show j < 8 by omega)).2.2, by simp⟩
    obtain ⟨C, hC⟩ := hp 8 (by omega) (Nat.le_refl _)
    rw [sbEnc, if_pos hok, sealV, bodyB]
    rw [show partB b 8 ++ zs8 ((b.sec - 4).toNat - (partB b 8).length) = partB b 8 ++ zs8 ((b.sec - 4).toNat - 44) by rw [partB_8]]
    rw [hC, ← partB_succ b k hk]
    exact ⟨C ++ zs8 ((b.sec - 4).toNat - 44) ++ (List.range 4).map (byteOf ((sumV (partB b (k + 1) ++ C ++ zs8 ((b.sec - 4).toNat - 44))).setWidth 64)), by simp⟩
  have g8 : ∀ k (hk : k < 8), ((fsOf b)[k]'hk).2.1 = 8 → getV (sbEnc b) ((fsOf b)[k]'hk).1 8 = ((fsOf b)[k]'hk).2.2 := by
    intro k hk h8
    obtain ⟨B, hB⟩ := key k hk
    have hl := partB_len b k hk
    rw [h8] at hB
    rw [get_mid' (by decide) (by decide) hB (by rw [hl]; rw [List.getD_eq_getElem?_getD, List.getElem?_eq_getElem (show k < (fsOf b).length from hk)]; rfl), field_all]
  have g4 : ∀ k (hk : k < 8), ((fsOf b)[k]'hk).2.1 = 4 → getV (sbEnc b) ((fsOf b)[k]'hk).1 4 = fieldB ((fsOf b)[k]'hk).2.2 0 (8 * 4 : Nat) := by
    intro k hk h8
    obtain ⟨B, hB⟩ := key k hk
    have hl := partB_len b k hk
    rw [h8] at hB
    rw [get_mid' (by decide) (by decide) hB (by rw [hl]; rw [List.getD_eq_getElem?_getD, List.getElem?_eq_getElem (show k < (fsOf b).length from hk)]; rfl)]
  have e1 := g8 1 (by decide) rfl
  have e2 := g4 2 (by decide) rfl
  have e3 := g4 3 (by decide) rfl
  have e4 := g4 4 (by decide) rfl
  have e5 := g4 5 (by decide) rfl
  have e6 := g4 6 (by decide) rfl
  have e7 := g8 7 (by decide) rfl
  simp only [fsOf, List.getElem_cons_zero, List.getElem_cons_succ] at e1 e2 e3 e4 e5 e6 e7
  unfold fieldsB
  rw [e1, e2, e3, e4, e5, e6, e7, field_small (by omega) (by omega), field_small (by omega) (by omega), field_small (by omega) (by omega), field_small (by omega) (by omega), field_small (by omega) (by omega)]
theorem sbEnc_inj {a b : SB} (ha : SbOk a) (hb : SbOk b) (h : sbEnc a = sbEnc b) : a = b := by rw [← fields_back ha, ← fields_back hb, h]
/-- what is told of bytes -/
def SbIs (s : List (BitVec 8)) : Prop := 64 ≤ s.length ∧ SbOk (fieldsB s) ∧ sbEnc (fieldsB s) = s
theorem sbIs_enc {b : SB} (h : SbOk b) : SbIs (sbEnc b) := by
  refine ⟨?_, ?_, ?_⟩
  · rw [sbEnc_len h]; have := sec_of h; omega
  · rw [fields_back h]; exact h
  · rw [fields_back h]
abbrev sbZero : SB := ⟨BitVec.ofNat 64 0, 0, 0, 0, 0, 0, BitVec.ofNat 64 0⟩
open Classical in
noncomputable def sbDec (s : List (BitVec 8)) : SB := if SbIs s then fieldsB s else sbZero
open Classical in
noncomputable def sbDecE (s : List (BitVec 8)) : Int := if SbIs s then 0 else 2
end Go.Proofs.Ytlllabaipfmnjaa
