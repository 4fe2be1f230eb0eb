/- Records as bytes: there and back, in plain Lean (sq). -/
import Derived.Test.YtknineilpenbnaaCode3
import Derived.Test.YtknineilpenbnaaSum
import Derived.Test.YtknineilpenbnaaRwB
set_option linter.unusedVariables false
set_option linter.unusedSimpArgs false
set_option maxHeartbeats 4000000
namespace Go.Proofs.Ytknineilpenbnaa
open Go.Sh Go.RowKit

theorem decRaw_enc (m r : List (BitVec 8)) (hm : m.length ≤ 1000000) : decRaw (uintB (BitVec.ofNat 64 m.length) ++ (m ++ r)) = .ok (m, r) := by
  unfold decRaw
  rw [dec_enc]
  have e : (BitVec.ofNat 64 m.length).toNat = m.length := by rw [BitVec.toNat_ofNat]; omega
  simp only [takeN, e, Nat.mul_one]
  rw [if_neg (by simp)]
  simp
theorem decRaw_cut (m : List (BitVec 8)) (hm : m.length ≤ 1000000) {k : Nat} (hk : k < (uintB (BitVec.ofNat 64 m.length) ++ m).length) : decRaw ((uintB (BitVec.ofNat 64 m.length) ++ m).take k) = .error 3 := by
  unfold decRaw
  by_cases h : k < (uintB (BitVec.ofNat 64 m.length)).length
  · rw [List.take_append_of_le_length (by omega), dec_short h]
  · have e : (BitVec.ofNat 64 m.length).toNat = m.length := by rw [BitVec.toNat_ofNat]; omega
    rw [List.take_append, List.take_of_length_le (by omega), dec_enc]
    simp only [takeN, e]
    rw [if_pos]
    rw [List.length_append] at hk
    simp only [Nat.div_one, List.length_take]
    omega

/-! ### records -/
structure RC where
  kind : Int
  tx : BitVec 64
  sp : Int
  no : Int
  data : List (BitVec 8)
abbrev rcC (r : RC) (a : Option Addr) (c : Nat) : List Value := [i64 r.kind, u64 r.tx, i64 r.sp, i64 r.no, .slice a r.data.length c]
abbrev rcV (r : RC) (a : Option Addr) (c : Nat) : Value := .agg (rcC r a c).toArray
def RcOk (r : RC) : Prop := 1 ≤ r.kind ∧ r.kind ≤ 3 ∧ (r.kind ≠ 1 → r.sp = 0 ∧ r.no = 0) ∧ 0 ≤ r.sp ∧ r.sp ≤ 1 ∧ 0 ≤ r.no ∧ r.no ≤ 65535
instance (r : RC) : Decidable (RcOk r) := by unfold RcOk; infer_instance
def rcErr (r : RC) : Int := if RcOk r then (if 4096 < r.data.length then 3 else 0) else 1
def rcIn (r : RC) : List (BitVec 8) := uintB (BitVec.ofInt 64 r.kind) ++ (uintB r.tx ++ ((if r.kind = 1 then uintB (BitVec.ofInt 64 r.sp) ++ uintB (BitVec.ofInt 64 r.no) else []) ++ (uintB (BitVec.ofNat 64 r.data.length) ++ r.data)))
def rcOut (r : RC) : List (BitVec 8) := uintB (BitVec.ofNat 64 (sealV (rcIn r)).length) ++ sealV (rcIn r)
def rcEnc (r : RC) : List (BitVec 8) := if rcErr r = 0 then rcOut r else []
theorem rcErr_0 {r : RC} (h : rcErr r = 0) : RcOk r ∧ r.data.length ≤ 4096 := by
  unfold rcErr at h
  split at h
  · rename_i h1
    split at h
    · cases h
    · exact ⟨h1, by omega⟩
  · cases h
theorem uintB_le (x : BitVec 64) : (uintB x).length ≤ 10 := uintF_le
theorem rcIn_le {r : RC} (h : r.data.length ≤ 5000) : (rcIn r).length ≤ 5050 := by
  have h1 := uintB_le (BitVec.ofInt 64 r.kind)
  have h2 := uintB_le r.tx
  have h3 := uintB_le (BitVec.ofInt 64 r.sp)
  have h4 := uintB_le (BitVec.ofInt 64 r.no)
  have h5 := uintB_le (BitVec.ofNat 64 r.data.length)
  unfold rcIn
  split <;> simp only [List.length_append, List.length_nil] <;> omega
theorem rcOut_le {r : RC} (h : r.data.length ≤ 5000) : (rcOut r).length ≤ 5064 := by
  have := rcIn_le h
  have h5 := uintB_le (BitVec.ofNat 64 (sealV (rcIn r)).length)
  have hs := sealV_length (rcIn r)
  unfold rcOut
  rw [List.length_append]
  omega
theorem ofInt_small {n : Int} (h0 : 0 ≤ n) (h1 : n ≤ 1000000) : (BitVec.ofInt 64 n).toInt = n := BitVec.toInt_ofInt_eq_self (by decide) (by omega) (by omega)
theorem rcIn_pos (r : RC) : 0 < (rcIn r).length := by
  have : 0 < (uintB (BitVec.ofInt 64 r.kind)).length := uintF_pos
  unfold rcIn
  rw [List.length_append]
  omega
theorem rcOut_pos (r : RC) : 0 < (rcOut r).length := by
  have hs := sealV_length (rcIn r)
  unfold rcOut
  rw [List.length_append]
  omega
end Go.Proofs.Ytknineilpenbnaa
