/- The statements on fields and turns, walked. -/
import Derived.Test.YtlijgnekpggejaaBitsL
set_option linter.unusedVariables false
set_option linter.unusedSimpArgs false
set_option maxHeartbeats 4000000
namespace Go.Proofs.Ytlijgnekpggejaa
open Go.Sh Go.RowKit

theorem ofInt_small {n : Nat} (h : n < 64) : (BitVec.ofInt 64 (n : Int)).toNat = n := by rw [BitVec.toNat_ofInt]; omega
theorem BitsFields_spec (x0 : Int) (a n v0 : Int) (hx : 0 ≤ x0 ∧ x0 ≤ 18446744073709551615) (hv : 0 ≤ v0 ∧ v0 ≤ 18446744073709551615) (w : World) : Gives Try.prog n_loamlaw1_BitsFields #[.int .u64 x0, i64 a, i64 n, .int .u64 v0] w (.bool true) := by
  rw [u64_of hx.1 hx.2, u64_of hv.1 hv.2]
  generalize BitVec.ofInt 64 x0 = x
  generalize BitVec.ofInt 64 v0 = v
  refine loamlaw1_BitsFields_of ?_
  unfold loamlaw1_BitsFields
  refine loamlaw1_known_call (Gives.to (known1_spec _) fun w1 E1 => ?_)
  have z1 := E1.size
  try simp only [World.size_alloc, World.size_setCell, World.size_drew] at z1
  simp (disch := (first | omega | decide | (simp only [World.size_alloc, World.size_setCell, World.size_drew, List.mem_cons, List.not_mem_nil, or_false, not_false_eq_true] <;> omega) | fail)) only [↓xBox_r, ↓loadK_some, ↓loadsK_s, ↓loadsK_n, ↓loadsR_s, ↓loadsR_n, ↓storesK_s, ↓storesK_n, setCells_c, setCells_n, World.setCell_alloc_at, World.setCell_alloc_past, World.cell?_alloc_at, World.cell?_alloc_past, 
      World.frozen?_alloc_at, World.frozen?_alloc_past, World.size_alloc, ↓xPick_t, ↓xPick_f, ↓xGuard_tt, ↓xGuard_ff, ↓xGuard_tf, ↓xGuard_ft, ↓xGuard_u, ↓xIf_t, tick_eq, tickV_eq, ne_eq, dlt_t, dlt_f, dle_t, dle_f, deq_t, deq_f, dne_t, 
      dne_f, not_true_eq_false, Int.reduceAdd, Int.reduceSub, Int.reduceMul, Int.reduceEq, Int.reduceLT, Int.reduceLE, Bool.false_and, Bool.true_and, Bool.and_true, Bool.and_false, ↓xBin_add', ↓xBin_sub', ↓xBin_mul', 
      ↓xBin_quo', ↓xBin_rem', wrap_in, ↓xIf_f, ↓xIf_tt, ↓xEx0, ↓xEx1, ↓xEx2, ↓xEx3, ↓xBin_eqs, ↓xBin_nes, ↓xUn_not, ↓xu8_sub, ↓xu8_com, ↓xu8_eql, ↓xu8_neq, ↓xu8_lss, ↓xu8_gtr, ↓xu16_sub, ↓xu16_com, ↓xu16_eql, ↓xu16_neq, 
      ↓xu16_lss, ↓xu16_gtr, ↓xu32_sub, ↓xu32_com, ↓xu32_eql, ↓xu32_neq, ↓xu32_lss, ↓xu32_gtr, ↓xu64_sub, ↓xu64_com, ↓xu64_eql, ↓xu64_neq, ↓xu64_lss, ↓xu64_gtr, ↓xi64_lss, ↓xi64_gtr, ↓xi64_eql, ↓xi64_neq, ↓xi64_neg, Int.toNat_natCast, 
      Int.reduceToNat, Nat.reduceMul, Nat.reduceAdd, Nat.reduceSub, Nat.mul_one, List.nil_append, List.cons_append, List.getElem?_toArray, List.getElem?_cons_zero, List.getElem?_cons_succ, cells_int, cells_bool, cells_string, 
      cells_slice, cells_pointer, cells_agg, one_int, one_bool, one_string, one_slice, one_pointer, List.setIfInBounds_toArray, List.set_cons_zero, List.set_cons_succ, ↓xDet_s, ↓xDet_ld, ↓xDet_ld2, ↓xDet_ld3, ↓xDet_ld4, 
      World.size_drew, Nat.zero_add, cell_drew, frozen_drew, cell_set_eq, cell_set_o, cell_set_b, Option.map_some, World.frozen?_setCell, decide_true, decide_false, List.not_mem_nil, not_false_eq_true, ↓xGuard_tt, Bool.not_true, 
      Bool.not_false, ←decide_not, eq_self, eq_self]
  refine bits_With_call (Gives.to (With_spec _ _ _ _ _) fun w2 E2 => ?_)
  have z2 := E2.size
  try simp only [World.size_alloc, World.size_setCell, World.size_drew] at z2
  simp (disch := (first | omega | decide | (simp only [World.size_alloc, World.size_setCell, World.size_drew, List.mem_cons, List.not_mem_nil, or_false, not_false_eq_true] <;> omega) | fail)) only [↓xBox_r, ↓loadK_some, ↓loadsK_s, ↓loadsK_n, ↓loadsR_s, ↓loadsR_n, ↓storesK_s, ↓storesK_n, setCells_c, setCells_n, World.setCell_alloc_at, World.setCell_alloc_past, World.cell?_alloc_at, World.cell?_alloc_past, 
      World.frozen?_alloc_at, World.frozen?_alloc_past, World.size_alloc, ↓xPick_t, ↓xPick_f, ↓xGuard_tt, ↓xGuard_ff, ↓xGuard_tf, ↓xGuard_ft, ↓xGuard_u, ↓xIf_t, tick_eq, tickV_eq, ne_eq, dlt_t, dlt_f, dle_t, dle_f, deq_t, deq_f, dne_t, 
      dne_f, not_true_eq_false, Int.reduceAdd, Int.reduceSub, Int.reduceMul, Int.reduceEq, Int.reduceLT, Int.reduceLE, Bool.false_and, Bool.true_and, Bool.and_true, Bool.and_false, ↓xBin_add', ↓xBin_sub', ↓xBin_mul', 
      ↓xBin_quo', ↓xBin_rem', wrap_in, ↓xIf_f, ↓xIf_tt, ↓xEx0, ↓xEx1, ↓xEx2, ↓xEx3, ↓xBin_eqs, ↓xBin_nes, ↓xUn_not, ↓xu8_sub, ↓xu8_com, ↓xu8_eql, ↓xu8_neq, ↓xu8_lss, ↓xu8_gtr, ↓xu16_sub, ↓xu16_com, ↓xu16_eql, ↓xu16_neq, 
      ↓xu16_lss, ↓xu16_gtr, ↓xu32_sub, ↓xu32_com, ↓xu32_eql, ↓xu32_neq, ↓xu32_lss, ↓xu32_gtr, ↓xu64_sub, ↓xu64_com, ↓xu64_eql, ↓xu64_neq, ↓xu64_lss, ↓xu64_gtr, ↓xi64_lss, ↓xi64_gtr, ↓xi64_eql, ↓xi64_neq, ↓xi64_neg, Int.toNat_natCast, 
      Int.reduceToNat, Nat.reduceMul, Nat.reduceAdd, Nat.reduceSub, Nat.mul_one, List.nil_append, List.cons_append, List.getElem?_toArray, List.getElem?_cons_zero, List.getElem?_cons_succ, cells_int, cells_bool, cells_string, 
      cells_slice, cells_pointer, cells_agg, one_int, one_bool, one_string, one_slice, one_pointer, List.setIfInBounds_toArray, List.set_cons_zero, List.set_cons_succ, ↓xDet_s, ↓xDet_ld, ↓xDet_ld2, ↓xDet_ld3, ↓xDet_ld4, 
      World.size_drew, Nat.zero_add, cell_drew, frozen_drew, cell_set_eq, cell_set_o, cell_set_b, Option.map_some, World.frozen?_setCell, decide_true, decide_false, List.not_mem_nil, not_false_eq_true, ↓xGuard_tt, Bool.not_true, 
      Bool.not_false, ←decide_not, eq_self, eq_self]
  refine bits_Field_call (Gives.to (Field_spec _ _ _ _) fun w3 E3 => ?_)
  have z3 := E3.size
  try simp only [World.size_alloc, World.size_setCell, World.size_drew] at z3
  simp (disch := (first | omega | decide | (simp only [World.size_alloc, World.size_setCell, World.size_drew, List.mem_cons, List.not_mem_nil, or_false, not_false_eq_true] <;> omega) | fail)) only [↓xBox_r, ↓loadK_some, ↓loadsK_s, ↓loadsK_n, ↓loadsR_s, ↓loadsR_n, ↓storesK_s, ↓storesK_n, setCells_c, setCells_n, World.setCell_alloc_at, World.setCell_alloc_past, World.cell?_alloc_at, World.cell?_alloc_past, 
      World.frozen?_alloc_at, World.frozen?_alloc_past, World.size_alloc, ↓xPick_t, ↓xPick_f, ↓xGuard_tt, ↓xGuard_ff, ↓xGuard_tf, ↓xGuard_ft, ↓xGuard_u, ↓xIf_t, tick_eq, tickV_eq, ne_eq, dlt_t, dlt_f, dle_t, dle_f, deq_t, deq_f, dne_t, 
      dne_f, not_true_eq_false, Int.reduceAdd, Int.reduceSub, Int.reduceMul, Int.reduceEq, Int.reduceLT, Int.reduceLE, Bool.false_and, Bool.true_and, Bool.and_true, Bool.and_false, ↓xBin_add', ↓xBin_sub', ↓xBin_mul', 
      ↓xBin_quo', ↓xBin_rem', wrap_in, ↓xIf_f, ↓xIf_tt, ↓xEx0, ↓xEx1, ↓xEx2, ↓xEx3, ↓xBin_eqs, ↓xBin_nes, ↓xUn_not, ↓xu8_sub, ↓xu8_com, ↓xu8_eql, ↓xu8_neq, ↓xu8_lss, ↓xu8_gtr, ↓xu16_sub, ↓xu16_com, ↓xu16_eql, ↓xu16_neq, 
      ↓xu16_lss, ↓xu16_gtr, ↓xu32_sub, ↓xu32_com, ↓xu32_eql, ↓xu32_neq, ↓xu32_lss, ↓xu32_gtr, ↓xu64_sub, ↓xu64_com, ↓xu64_eql, ↓xu64_neq, ↓xu64_lss, ↓xu64_gtr, ↓xi64_lss, ↓xi64_gtr, ↓xi64_eql, ↓xi64_neq, ↓xi64_neg, Int.toNat_natCast, 
      Int.reduceToNat, Nat.reduceMul, Nat.reduceAdd, Nat.reduceSub, Nat.mul_one, List.nil_append, List.cons_append, List.getElem?_toArray, List.getElem?_cons_zero, List.getElem?_cons_succ, cells_int, cells_bool, cells_string, 
      cells_slice, cells_pointer, cells_agg, one_int, one_bool, one_string, one_slice, one_pointer, List.setIfInBounds_toArray, List.set_cons_zero, List.set_cons_succ, ↓xDet_s, ↓xDet_ld, ↓xDet_ld2, ↓xDet_ld3, ↓xDet_ld4, 
      World.size_drew, Nat.zero_add, cell_drew, frozen_drew, cell_set_eq, cell_set_o, cell_set_b, Option.map_some, World.frozen?_setCell, decide_true, decide_false, List.not_mem_nil, not_false_eq_true, ↓xGuard_tt, Bool.not_true, 
      Bool.not_false, ←decide_not, eq_self, eq_self]
  refine loamref1_Field_call (Gives.to (rField_spec _ _ _ _) fun w4 E4 => ?_)
  have z4 := E4.size
  try simp only [World.size_alloc, World.size_setCell, World.size_drew] at z4
  simp (disch := (first | omega | decide | (simp only [World.size_alloc, World.size_setCell, World.size_drew, List.mem_cons, List.not_mem_nil, or_false, not_false_eq_true] <;> omega) | fail)) only [↓xBox_r, ↓loadK_some, ↓loadsK_s, ↓loadsK_n, ↓loadsR_s, ↓loadsR_n, ↓storesK_s, ↓storesK_n, setCells_c, setCells_n, World.setCell_alloc_at, World.setCell_alloc_past, World.cell?_alloc_at, World.cell?_alloc_past, 
      World.frozen?_alloc_at, World.frozen?_alloc_past, World.size_alloc, ↓xPick_t, ↓xPick_f, ↓xGuard_tt, ↓xGuard_ff, ↓xGuard_tf, ↓xGuard_ft, ↓xGuard_u, ↓xIf_t, tick_eq, tickV_eq, ne_eq, dlt_t, dlt_f, dle_t, dle_f, deq_t, deq_f, dne_t, 
      dne_f, not_true_eq_false, Int.reduceAdd, Int.reduceSub, Int.reduceMul, Int.reduceEq, Int.reduceLT, Int.reduceLE, Bool.false_and, Bool.true_and, Bool.and_true, Bool.and_false, ↓xBin_add', ↓xBin_sub', ↓xBin_mul', 
      ↓xBin_quo', ↓xBin_rem', wrap_in, ↓xIf_f, ↓xIf_tt, ↓xEx0, ↓xEx1, ↓xEx2, ↓xEx3, ↓xBin_eqs, ↓xBin_nes, ↓xUn_not, ↓xu8_sub, ↓xu8_com, ↓xu8_eql, ↓xu8_neq, ↓xu8_lss, ↓xu8_gtr, ↓xu16_sub, ↓xu16_com, ↓xu16_eql, ↓xu16_neq, 
      ↓xu16_lss, ↓xu16_gtr, ↓xu32_sub, ↓xu32_com, ↓xu32_eql, ↓xu32_neq, ↓xu32_lss, ↓xu32_gtr, ↓xu64_sub, ↓xu64_com, ↓xu64_eql, ↓xu64_neq, ↓xu64_lss, ↓xu64_gtr, ↓xi64_lss, ↓xi64_gtr, ↓xi64_eql, ↓xi64_neq, ↓xi64_neg, Int.toNat_natCast, 
      Int.reduceToNat, Nat.reduceMul, Nat.reduceAdd, Nat.reduceSub, Nat.mul_one, List.nil_append, List.cons_append, List.getElem?_toArray, List.getElem?_cons_zero, List.getElem?_cons_succ, cells_int, cells_bool, cells_string, 
      cells_slice, cells_pointer, cells_agg, one_int, one_bool, one_string, one_slice, one_pointer, List.setIfInBounds_toArray, List.set_cons_zero, List.set_cons_succ, ↓xDet_s, ↓xDet_ld, ↓xDet_ld2, ↓xDet_ld3, ↓xDet_ld4, 
      World.size_drew, Nat.zero_add, cell_drew, frozen_drew, cell_set_eq, cell_set_o, cell_set_b, Option.map_some, World.frozen?_setCell, decide_true, decide_false, List.not_mem_nil, not_false_eq_true, ↓xGuard_tt, Bool.not_true, 
      Bool.not_false, ←decide_not, eq_self, eq_self]
  refine loamref1_With_call (Gives.to (rWith_spec _ _ _ _ _) fun w5 E5 => ?_)
  have z5 := E5.size
  try simp only [World.size_alloc, World.size_setCell, World.size_drew] at z5
  simp (disch := (first | omega | decide | (simp only [World.size_alloc, World.size_setCell, World.size_drew, List.mem_cons, List.not_mem_nil, or_false, not_false_eq_true] <;> omega) | fail)) only [↓xBox_r, ↓loadK_some, ↓loadsK_s, ↓loadsK_n, ↓loadsR_s, ↓loadsR_n, ↓storesK_s, ↓storesK_n, setCells_c, setCells_n, World.setCell_alloc_at, World.setCell_alloc_past, World.cell?_alloc_at, World.cell?_alloc_past, 
      World.frozen?_alloc_at, World.frozen?_alloc_past, World.size_alloc, ↓xPick_t, ↓xPick_f, ↓xGuard_tt, ↓xGuard_ff, ↓xGuard_tf, ↓xGuard_ft, ↓xGuard_u, ↓xIf_t, tick_eq, tickV_eq, ne_eq, dlt_t, dlt_f, dle_t, dle_f, deq_t, deq_f, dne_t, 
      dne_f, not_true_eq_false, Int.reduceAdd, Int.reduceSub, Int.reduceMul, Int.reduceEq, Int.reduceLT, Int.reduceLE, Bool.false_and, Bool.true_and, Bool.and_true, Bool.and_false, ↓xBin_add', ↓xBin_sub', ↓xBin_mul', 
      ↓xBin_quo', ↓xBin_rem', wrap_in, ↓xIf_f, ↓xIf_tt, ↓xEx0, ↓xEx1, ↓xEx2, ↓xEx3, ↓xBin_eqs, ↓xBin_nes, ↓xUn_not, ↓xu8_sub, ↓xu8_com, ↓xu8_eql, ↓xu8_neq, ↓xu8_lss, ↓xu8_gtr, ↓xu16_sub, ↓xu16_com, ↓xu16_eql, ↓xu16_neq, 
      ↓xu16_lss, ↓xu16_gtr, ↓xu32_sub, ↓xu32_com, ↓xu32_eql, ↓xu32_neq, ↓xu32_lss, ↓xu32_gtr, ↓xu64_sub, ↓xu64_com, ↓xu64_eql, ↓xu64_neq, ↓xu64_lss, ↓xu64_gtr, ↓xi64_lss, ↓xi64_gtr, ↓xi64_eql, ↓xi64_neq, ↓xi64_neg, Int.toNat_natCast, 
      Int.reduceToNat, Nat.reduceMul, Nat.reduceAdd, Nat.reduceSub, Nat.mul_one, List.nil_append, List.cons_append, List.getElem?_toArray, List.getElem?_cons_zero, List.getElem?_cons_succ, cells_int, cells_bool, cells_string, 
      cells_slice, cells_pointer, cells_agg, one_int, one_bool, one_string, one_slice, one_pointer, List.setIfInBounds_toArray, List.set_cons_zero, List.set_cons_succ, ↓xDet_s, ↓xDet_ld, ↓xDet_ld2, ↓xDet_ld3, ↓xDet_ld4, 
      World.size_drew, Nat.zero_add, cell_drew, frozen_drew, cell_set_eq, cell_set_o, cell_set_b, Option.map_some, World.frozen?_setCell, decide_true, decide_false, List.not_mem_nil, not_false_eq_true, ↓xGuard_tt, Bool.not_true, 
      Bool.not_false, ←decide_not, eq_self, eq_self]
  by_cases h : maskOk a n
  · have h' := h
    unfold maskOk at h'
    obtain ⟨a, rfl⟩ : ∃ k : Nat, a = k := ⟨a.toNat, by omega⟩
    obtain ⟨n, rfl⟩ : ∃ k : Nat, n = k := ⟨n.toNat, by omega⟩
    simp (disch := (first | omega | decide | (simp only [World.size_alloc, World.size_setCell, World.size_drew, List.mem_cons, List.not_mem_nil, or_false, not_false_eq_true] <;> omega) | fail)) only [↓xBox_r, ↓loadK_some, ↓loadsK_s, ↓loadsK_n, ↓loadsR_s, ↓loadsR_n, ↓storesK_s, ↓storesK_n, setCells_c, setCells_n, World.setCell_alloc_at, World.setCell_alloc_past, World.cell?_alloc_at, World.cell?_alloc_past, 
      World.frozen?_alloc_at, World.frozen?_alloc_past, World.size_alloc, ↓xPick_t, ↓xPick_f, ↓xGuard_tt, ↓xGuard_ff, ↓xGuard_tf, ↓xGuard_ft, ↓xGuard_u, ↓xIf_t, tick_eq, tickV_eq, ne_eq, dlt_t, dlt_f, dle_t, dle_f, deq_t, deq_f, dne_t, 
      dne_f, not_true_eq_false, Int.reduceAdd, Int.reduceSub, Int.reduceMul, Int.reduceEq, Int.reduceLT, Int.reduceLE, Bool.false_and, Bool.true_and, Bool.and_true, Bool.and_false, ↓xBin_add', ↓xBin_sub', ↓xBin_mul', 
      ↓xBin_quo', ↓xBin_rem', wrap_in, ↓xIf_f, ↓xIf_tt, ↓xEx0, ↓xEx1, ↓xEx2, ↓xEx3, ↓xBin_eqs, ↓xBin_nes, ↓xUn_not, ↓xu8_sub, ↓xu8_com, ↓xu8_eql, ↓xu8_neq, ↓xu8_lss, ↓xu8_gtr, ↓xu16_sub, ↓xu16_com, ↓xu16_eql, ↓xu16_neq, 
      ↓xu16_lss, ↓xu16_gtr, ↓xu32_sub, ↓xu32_com, ↓xu32_eql, ↓xu32_neq, ↓xu32_lss, ↓xu32_gtr, ↓xu64_sub, ↓xu64_com, ↓xu64_eql, ↓xu64_neq, ↓xu64_lss, ↓xu64_gtr, ↓xi64_lss, ↓xi64_gtr, ↓xi64_eql, ↓xi64_neq, ↓xi64_neg, Int.toNat_natCast, 
      Int.reduceToNat, Nat.reduceMul, Nat.reduceAdd, Nat.reduceSub, Nat.mul_one, List.nil_append, List.cons_append, List.getElem?_toArray, List.getElem?_cons_zero, List.getElem?_cons_succ, cells_int, cells_bool, cells_string, 
      cells_slice, cells_pointer, cells_agg, one_int, one_bool, one_string, one_slice, one_pointer, List.setIfInBounds_toArray, List.set_cons_zero, List.set_cons_succ, ↓xDet_s, ↓xDet_ld, ↓xDet_ld2, ↓xDet_ld3, ↓xDet_ld4, 
      World.size_drew, Nat.zero_add, cell_drew, frozen_drew, cell_set_eq, cell_set_o, cell_set_b, Option.map_some, World.frozen?_setCell, decide_true, decide_false, List.not_mem_nil, not_false_eq_true, ↓xGuard_tt, Bool.not_true, 
      Bool.not_false, ←decide_not, eq_self, eq_self]
    refine bits_Field_call (Gives.to (Field_spec _ _ _ _) fun w6 E6 => ?_)
    have z6 := E6.size
    try simp only [World.size_alloc, World.size_setCell, World.size_drew] at z6
    simp (disch := (first | omega | decide | (simp only [World.size_alloc, World.size_setCell, World.size_drew, List.mem_cons, List.not_mem_nil, or_false, not_false_eq_true] <;> omega) | fail)) only [↓xBox_r, ↓loadK_some, ↓loadsK_s, ↓loadsK_n, ↓loadsR_s, ↓loadsR_n, ↓storesK_s, ↓storesK_n, setCells_c, setCells_n, World.setCell_alloc_at, World.setCell_alloc_past, World.cell?_alloc_at, World.cell?_alloc_past, 
      World.frozen?_alloc_at, World.frozen?_alloc_past, World.size_alloc, ↓xPick_t, ↓xPick_f, ↓xGuard_tt, ↓xGuard_ff, ↓xGuard_tf, ↓xGuard_ft, ↓xGuard_u, ↓xIf_t, tick_eq, tickV_eq, ne_eq, dlt_t, dlt_f, dle_t, dle_f, deq_t, deq_f, dne_t, 
      dne_f, not_true_eq_false, Int.reduceAdd, Int.reduceSub, Int.reduceMul, Int.reduceEq, Int.reduceLT, Int.reduceLE, Bool.false_and, Bool.true_and, Bool.and_true, Bool.and_false, ↓xBin_add', ↓xBin_sub', ↓xBin_mul', 
      ↓xBin_quo', ↓xBin_rem', wrap_in, ↓xIf_f, ↓xIf_tt, ↓xEx0, ↓xEx1, ↓xEx2, ↓xEx3, ↓xBin_eqs, ↓xBin_nes, ↓xUn_not, ↓xu8_sub, ↓xu8_com, ↓xu8_eql, ↓xu8_neq, ↓xu8_lss, ↓xu8_gtr, ↓xu16_sub, ↓xu16_com, ↓xu16_eql, ↓xu16_neq, 
      ↓xu16_lss, ↓xu16_gtr, ↓xu32_sub, ↓xu32_com, ↓xu32_eql, ↓xu32_neq, ↓xu32_lss, ↓xu32_gtr, ↓xu64_sub, ↓xu64_com, ↓xu64_eql, ↓xu64_neq, ↓xu64_lss, ↓xu64_gtr, ↓xi64_lss, ↓xi64_gtr, ↓xi64_eql, ↓xi64_neq, ↓xi64_neg, Int.toNat_natCast, 
      Int.reduceToNat, Nat.reduceMul, Nat.reduceAdd, Nat.reduceSub, Nat.mul_one, List.nil_append, List.cons_append, List.getElem?_toArray, List.getElem?_cons_zero, List.getElem?_cons_succ, cells_int, cells_bool, cells_string, 
      cells_slice, cells_pointer, cells_agg, one_int, one_bool, one_string, one_slice, one_pointer, List.setIfInBounds_toArray, List.set_cons_zero, List.set_cons_succ, ↓xDet_s, ↓xDet_ld, ↓xDet_ld2, ↓xDet_ld3, ↓xDet_ld4, 
      World.size_drew, Nat.zero_add, cell_drew, frozen_drew, cell_set_eq, cell_set_o, cell_set_b, Option.map_some, World.frozen?_setCell, decide_true, decide_false, List.not_mem_nil, not_false_eq_true, ↓xGuard_tt, Bool.not_true, 
      Bool.not_false, ←decide_not, eq_self, eq_self]
    refine bits_Field_call (Gives.to (Field_spec _ _ _ _) fun w7 E7 => ?_)
    have z7 := E7.size
    try simp only [World.size_alloc, World.size_setCell, World.size_drew] at z7
    have e1 : fieldB (withB x a n v) a n = fieldB v 0 n := by
      apply BitVec.eq_of_getLsbD_eq
      intro i hi
      rw [field_bit _ (by omega) (by omega), show fieldB v 0 (n : Int) = fieldB v ((0 : Nat) : Int) (n : Int) from rfl, field_bit v (by omega) (by omega)]
      by_cases hl : i < n
      · rw [with_bit x v (by omega) (by omega) (by omega), if_pos (by omega), show a + i - a = i by omega, Nat.zero_add]
      · simp [hl]
    have e2 : withB (withB x a n v) a n (fieldB x a n) = x := by
      apply BitVec.eq_of_getLsbD_eq
      intro i hi
      rw [with_bit _ _ (by omega) (by omega) hi]
      by_cases hl : a ≤ i ∧ i < a + n
      · rw [if_pos hl, field_bit x (by omega) (by omega), show a + (i - a) = i by omega]
        simp [show i - a < n by omega]
      · rw [if_neg hl, with_bit x v (by omega) (by omega) hi, if_neg hl]
    rw [e1]
    simp (disch := (first | omega | decide | (simp only [World.size_alloc, World.size_setCell, World.size_drew, List.mem_cons, List.not_mem_nil, or_false, not_false_eq_true] <;> omega) | fail)) only [↓xBox_r, ↓loadK_some, ↓loadsK_s, ↓loadsK_n, ↓loadsR_s, ↓loadsR_n, ↓storesK_s, ↓storesK_n, setCells_c, setCells_n, World.setCell_alloc_at, World.setCell_alloc_past, World.cell?_alloc_at, World.cell?_alloc_past, 
      World.frozen?_alloc_at, World.frozen?_alloc_past, World.size_alloc, ↓xPick_t, ↓xPick_f, ↓xGuard_tt, ↓xGuard_ff, ↓xGuard_tf, ↓xGuard_ft, ↓xGuard_u, ↓xIf_t, tick_eq, tickV_eq, ne_eq, dlt_t, dlt_f, dle_t, dle_f, deq_t, deq_f, dne_t, 
      dne_f, not_true_eq_false, Int.reduceAdd, Int.reduceSub, Int.reduceMul, Int.reduceEq, Int.reduceLT, Int.reduceLE, Bool.false_and, Bool.true_and, Bool.and_true, Bool.and_false, ↓xBin_add', ↓xBin_sub', ↓xBin_mul', 
      ↓xBin_quo', ↓xBin_rem', wrap_in, ↓xIf_f, ↓xIf_tt, ↓xEx0, ↓xEx1, ↓xEx2, ↓xEx3, ↓xBin_eqs, ↓xBin_nes, ↓xUn_not, ↓xu8_sub, ↓xu8_com, ↓xu8_eql, ↓xu8_neq, ↓xu8_lss, ↓xu8_gtr, ↓xu16_sub, ↓xu16_com, ↓xu16_eql, ↓xu16_neq, 
      ↓xu16_lss, ↓xu16_gtr, ↓xu32_sub, ↓xu32_com, ↓xu32_eql, ↓xu32_neq, ↓xu32_lss, ↓xu32_gtr, ↓xu64_sub, ↓xu64_com, ↓xu64_eql, ↓xu64_neq, ↓xu64_lss, ↓xu64_gtr, ↓xi64_lss, ↓xi64_gtr, ↓xi64_eql, ↓xi64_neq, ↓xi64_neg, Int.toNat_natCast, 
      Int.reduceToNat, Nat.reduceMul, Nat.reduceAdd, Nat.reduceSub, Nat.mul_one, List.nil_append, List.cons_append, List.getElem?_toArray, List.getElem?_cons_zero, List.getElem?_cons_succ, cells_int, cells_bool, cells_string, 
      cells_slice, cells_pointer, cells_agg, one_int, one_bool, one_string, one_slice, one_pointer, List.setIfInBounds_toArray, List.set_cons_zero, List.set_cons_succ, ↓xDet_s, ↓xDet_ld, ↓xDet_ld2, ↓xDet_ld3, ↓xDet_ld4, 
      World.size_drew, Nat.zero_add, cell_drew, frozen_drew, cell_set_eq, cell_set_o, cell_set_b, Option.map_some, World.frozen?_setCell, decide_true, decide_false, List.not_mem_nil, not_false_eq_true, ↓xGuard_tt, Bool.not_true, 
      Bool.not_false, ←decide_not, eq_self, eq_self]
    refine bits_With_call (Gives.to (With_spec _ _ _ _ _) fun w8 E8 => ?_)
    have z8 := E8.size
    try simp only [World.size_alloc, World.size_setCell, World.size_drew] at z8
    rw [e2]
    simp (disch := (first | omega | decide | (simp only [World.size_alloc, World.size_setCell, World.size_drew, List.mem_cons, List.not_mem_nil, or_false, not_false_eq_true] <;> omega) | fail)) only [↓xBox_r, ↓loadK_some, ↓loadsK_s, ↓loadsK_n, ↓loadsR_s, ↓loadsR_n, ↓storesK_s, ↓storesK_n, setCells_c, setCells_n, World.setCell_alloc_at, World.setCell_alloc_past, World.cell?_alloc_at, World.cell?_alloc_past, 
      World.frozen?_alloc_at, World.frozen?_alloc_past, World.size_alloc, ↓xPick_t, ↓xPick_f, ↓xGuard_tt, ↓xGuard_ff, ↓xGuard_tf, ↓xGuard_ft, ↓xGuard_u, ↓xIf_t, tick_eq, tickV_eq, ne_eq, dlt_t, dlt_f, dle_t, dle_f, deq_t, deq_f, dne_t, 
      dne_f, not_true_eq_false, Int.reduceAdd, Int.reduceSub, Int.reduceMul, Int.reduceEq, Int.reduceLT, Int.reduceLE, Bool.false_and, Bool.true_and, Bool.and_true, Bool.and_false, ↓xBin_add', ↓xBin_sub', ↓xBin_mul', 
      ↓xBin_quo', ↓xBin_rem', wrap_in, ↓xIf_f, ↓xIf_tt, ↓xEx0, ↓xEx1, ↓xEx2, ↓xEx3, ↓xBin_eqs, ↓xBin_nes, ↓xUn_not, ↓xu8_sub, ↓xu8_com, ↓xu8_eql, ↓xu8_neq, ↓xu8_lss, ↓xu8_gtr, ↓xu16_sub, ↓xu16_com, ↓xu16_eql, ↓xu16_neq, 
      ↓xu16_lss, ↓xu16_gtr, ↓xu32_sub, ↓xu32_com, ↓xu32_eql, ↓xu32_neq, ↓xu32_lss, ↓xu32_gtr, ↓xu64_sub, ↓xu64_com, ↓xu64_eql, ↓xu64_neq, ↓xu64_lss, ↓xu64_gtr, ↓xi64_lss, ↓xi64_gtr, ↓xi64_eql, ↓xi64_neq, ↓xi64_neg, Int.toNat_natCast, 
      Int.reduceToNat, Nat.reduceMul, Nat.reduceAdd, Nat.reduceSub, Nat.mul_one, List.nil_append, List.cons_append, List.getElem?_toArray, List.getElem?_cons_zero, List.getElem?_cons_succ, cells_int, cells_bool, cells_string, 
      cells_slice, cells_pointer, cells_agg, one_int, one_bool, one_string, one_slice, one_pointer, List.setIfInBounds_toArray, List.set_cons_zero, List.set_cons_succ, ↓xDet_s, ↓xDet_ld, ↓xDet_ld2, ↓xDet_ld3, ↓xDet_ld4, 
      World.size_drew, Nat.zero_add, cell_drew, frozen_drew, cell_set_eq, cell_set_o, cell_set_b, Option.map_some, World.frozen?_setCell, decide_true, decide_false, List.not_mem_nil, not_false_eq_true, ↓xGuard_tt, Bool.not_true, 
      Bool.not_false, ←decide_not, eq_self, eq_self]
    exact ⟨by trivial, by (repeat (first | with_reducible exact Ext.refl _ _ | with_reducible assumption | with_reducible refine Ext.alloc' ?_ _ | with_reducible refine Ext.drew' ?_ | with_reducible refine Ext.set' ?_ ?_ | exact .inr (by first | omega | (simp only [World.size_alloc, World.size_drew, World.size_setCell] <;> omega)) | refine Ext.trans ?_ (by with_reducible assumption)))⟩
  · have e1 : fieldB x a n = BitVec.ofNat 64 0 := if_neg h
    have e2 : withB x a n v = x := if_neg h
    unfold maskOk at h
    have hb : a < 0 ∨ (¬ a < 0 ∧ 63 < a) ∨ (¬ a < 0 ∧ ¬ 63 < a ∧ n < 1) ∨ (¬ a < 0 ∧ ¬ 63 < a ∧ ¬ n < 1 ∧ 64 - a < n) := by omega
    rcases hb with h | ⟨h1, h⟩ | ⟨h1, h2, h⟩ | ⟨h1, h2, h3, h⟩
    · simp (disch := (first | omega | decide | (simp only [World.size_alloc, World.size_setCell, World.size_drew, List.mem_cons, List.not_mem_nil, or_false, not_false_eq_true] <;> omega) | fail)) only [↓xBox_r, ↓loadK_some, ↓loadsK_s, ↓loadsK_n, ↓loadsR_s, ↓loadsR_n, ↓storesK_s, ↓storesK_n, setCells_c, setCells_n, World.setCell_alloc_at, World.setCell_alloc_past, World.cell?_alloc_at, World.cell?_alloc_past, 
      World.frozen?_alloc_at, World.frozen?_alloc_past, World.size_alloc, ↓xPick_t, ↓xPick_f, ↓xGuard_tt, ↓xGuard_ff, ↓xGuard_tf, ↓xGuard_ft, ↓xGuard_u, ↓xIf_t, tick_eq, tickV_eq, ne_eq, dlt_t, dlt_f, dle_t, dle_f, deq_t, deq_f, dne_t, 
      dne_f, not_true_eq_false, Int.reduceAdd, Int.reduceSub, Int.reduceMul, Int.reduceEq, Int.reduceLT, Int.reduceLE, Bool.false_and, Bool.true_and, Bool.and_true, Bool.and_false, ↓xBin_add', ↓xBin_sub', ↓xBin_mul', 
      ↓xBin_quo', ↓xBin_rem', wrap_in, ↓xIf_f, ↓xIf_tt, ↓xEx0, ↓xEx1, ↓xEx2, ↓xEx3, ↓xBin_eqs, ↓xBin_nes, ↓xUn_not, ↓xu8_sub, ↓xu8_com, ↓xu8_eql, ↓xu8_neq, ↓xu8_lss, ↓xu8_gtr, ↓xu16_sub, ↓xu16_com, ↓xu16_eql, ↓xu16_neq, 
      ↓xu16_lss, ↓xu16_gtr, ↓xu32_sub, ↓xu32_com, ↓xu32_eql, ↓xu32_neq, ↓xu32_lss, ↓xu32_gtr, ↓xu64_sub, ↓xu64_com, ↓xu64_eql, ↓xu64_neq, ↓xu64_lss, ↓xu64_gtr, ↓xi64_lss, ↓xi64_gtr, ↓xi64_eql, ↓xi64_neq, ↓xi64_neg, Int.toNat_natCast, 
      Int.reduceToNat, Nat.reduceMul, Nat.reduceAdd, Nat.reduceSub, Nat.mul_one, List.nil_append, List.cons_append, List.getElem?_toArray, List.getElem?_cons_zero, List.getElem?_cons_succ, cells_int, cells_bool, cells_string, 
      cells_slice, cells_pointer, cells_agg, one_int, one_bool, one_string, one_slice, one_pointer, List.setIfInBounds_toArray, List.set_cons_zero, List.set_cons_succ, ↓xDet_s, ↓xDet_ld, ↓xDet_ld2, ↓xDet_ld3, ↓xDet_ld4, 
      World.size_drew, Nat.zero_add, cell_drew, frozen_drew, cell_set_eq, cell_set_o, cell_set_b, Option.map_some, World.frozen?_setCell, decide_true, decide_false, List.not_mem_nil, not_false_eq_true, ↓xGuard_tt, Bool.not_true, 
      Bool.not_false, ←decide_not, eq_self, e1, e2]
      exact ⟨by trivial, by (repeat (first | with_reducible exact Ext.refl _ _ | with_reducible assumption | with_reducible refine Ext.alloc' ?_ _ | with_reducible refine Ext.drew' ?_ | with_reducible refine Ext.set' ?_ ?_ | exact .inr (by first | omega | (simp only [World.size_alloc, World.size_drew, World.size_setCell] <;> omega)) | refine Ext.trans ?_ (by with_reducible assumption)))⟩
    · simp (disch := (first | omega | decide | (simp only [World.size_alloc, World.size_setCell, World.size_drew, List.mem_cons, List.not_mem_nil, or_false, not_false_eq_true] <;> omega) | fail)) only [↓xBox_r, ↓loadK_some, ↓loadsK_s, ↓loadsK_n, ↓loadsR_s, ↓loadsR_n, ↓storesK_s, ↓storesK_n, setCells_c, setCells_n, World.setCell_alloc_at, World.setCell_alloc_past, World.cell?_alloc_at, World.cell?_alloc_past, 
      World.frozen?_alloc_at, World.frozen?_alloc_past, World.size_alloc, ↓xPick_t, ↓xPick_f, ↓xGuard_tt, ↓xGuard_ff, ↓xGuard_tf, ↓xGuard_ft, ↓xGuard_u, ↓xIf_t, tick_eq, tickV_eq, ne_eq, dlt_t, dlt_f, dle_t, dle_f, deq_t, deq_f, dne_t, 
      dne_f, not_true_eq_false, Int.reduceAdd, Int.reduceSub, Int.reduceMul, Int.reduceEq, Int.reduceLT, Int.reduceLE, Bool.false_and, Bool.true_and, Bool.and_true, Bool.and_false, ↓xBin_add', ↓xBin_sub', ↓xBin_mul', 
      ↓xBin_quo', ↓xBin_rem', wrap_in, ↓xIf_f, ↓xIf_tt, ↓xEx0, ↓xEx1, ↓xEx2, ↓xEx3, ↓xBin_eqs, ↓xBin_nes, ↓xUn_not, ↓xu8_sub, ↓xu8_com, ↓xu8_eql, ↓xu8_neq, ↓xu8_lss, ↓xu8_gtr, ↓xu16_sub, ↓xu16_com, ↓xu16_eql, ↓xu16_neq, 
      ↓xu16_lss, ↓xu16_gtr, ↓xu32_sub, ↓xu32_com, ↓xu32_eql, ↓xu32_neq, ↓xu32_lss, ↓xu32_gtr, ↓xu64_sub, ↓xu64_com, ↓xu64_eql, ↓xu64_neq, ↓xu64_lss, ↓xu64_gtr, ↓xi64_lss, ↓xi64_gtr, ↓xi64_eql, ↓xi64_neq, ↓xi64_neg, Int.toNat_natCast, 
      Int.reduceToNat, Nat.reduceMul, Nat.reduceAdd, Nat.reduceSub, Nat.mul_one, List.nil_append, List.cons_append, List.getElem?_toArray, List.getElem?_cons_zero, List.getElem?_cons_succ, cells_int, cells_bool, cells_string, 
      cells_slice, cells_pointer, cells_agg, one_int, one_bool, one_string, one_slice, one_pointer, List.setIfInBounds_toArray, List.set_cons_zero, List.set_cons_succ, ↓xDet_s, ↓xDet_ld, ↓xDet_ld2, ↓xDet_ld3, ↓xDet_ld4, 
      World.size_drew, Nat.zero_add, cell_drew, frozen_drew, cell_set_eq, cell_set_o, cell_set_b, Option.map_some, World.frozen?_setCell, decide_true, decide_false, List.not_mem_nil, not_false_eq_true, ↓xGuard_tt, Bool.not_true, 
      Bool.not_false, ←decide_not, eq_self, e1, e2]
      exact ⟨by trivial, by (repeat (first | with_reducible exact Ext.refl _ _ | with_reducible assumption | with_reducible refine Ext.alloc' ?_ _ | with_reducible refine Ext.drew' ?_ | with_reducible refine Ext.set' ?_ ?_ | exact .inr (by first | omega | (simp only [World.size_alloc, World.size_drew, World.size_setCell] <;> omega)) | refine Ext.trans ?_ (by with_reducible assumption)))⟩
    · simp (disch := (first | omega | decide | (simp only [World.size_alloc, World.size_setCell, World.size_drew, List.mem_cons, List.not_mem_nil, or_false, not_false_eq_true] <;> omega) | fail)) only [↓xBox_r, ↓loadK_some, ↓loadsK_s, ↓loadsK_n, ↓loadsR_s, ↓loadsR_n, ↓storesK_s, ↓storesK_n, setCells_c, setCells_n, World.setCell_alloc_at, World.setCell_alloc_past, World.cell?_alloc_at, World.cell?_alloc_past, 
      World.frozen?_alloc_at, World.frozen?_alloc_past, World.size_alloc, ↓xPick_t, ↓xPick_f, ↓xGuard_tt, ↓xGuard_ff, ↓xGuard_tf, ↓xGuard_ft, ↓xGuard_u, ↓xIf_t, tick_eq, tickV_eq, ne_eq, dlt_t, dlt_f, dle_t, dle_f, deq_t, deq_f, dne_t, 
      dne_f, not_true_eq_false, Int.reduceAdd, Int.reduceSub, Int.reduceMul, Int.reduceEq, Int.reduceLT, Int.reduceLE, Bool.false_and, Bool.true_and, Bool.and_true, Bool.and_false, ↓xBin_add', ↓xBin_sub', ↓xBin_mul', 
      ↓xBin_quo', ↓xBin_rem', wrap_in, ↓xIf_f, ↓xIf_tt, ↓xEx0, ↓xEx1, ↓xEx2, ↓xEx3, ↓xBin_eqs, ↓xBin_nes, ↓xUn_not, ↓xu8_sub, ↓xu8_com, ↓xu8_eql, ↓xu8_neq, ↓xu8_lss, ↓xu8_gtr, ↓xu16_sub, ↓xu16_com, ↓xu16_eql, ↓xu16_neq, 
      ↓xu16_lss, ↓xu16_gtr, ↓xu32_sub, ↓xu32_com, ↓xu32_eql, ↓xu32_neq, ↓xu32_lss, ↓xu32_gtr, ↓xu64_sub, ↓xu64_com, ↓xu64_eql, ↓xu64_neq, ↓xu64_lss, ↓xu64_gtr, ↓xi64_lss, ↓xi64_gtr, ↓xi64_eql, ↓xi64_neq, ↓xi64_neg, Int.toNat_natCast, 
      Int.reduceToNat, Nat.reduceMul, Nat.reduceAdd, Nat.reduceSub, Nat.mul_one, List.nil_append, List.cons_append, List.getElem?_toArray, List.getElem?_cons_zero, List.getElem?_cons_succ, cells_int, cells_bool, cells_string, 
      cells_slice, cells_pointer, cells_agg, one_int, one_bool, one_string, one_slice, one_pointer, List.setIfInBounds_toArray, List.set_cons_zero, List.set_cons_succ, ↓xDet_s, ↓xDet_ld, ↓xDet_ld2, ↓xDet_ld3, ↓xDet_ld4, 
      World.size_drew, Nat.zero_add, cell_drew, frozen_drew, cell_set_eq, cell_set_o, cell_set_b, Option.map_some, World.frozen?_setCell, decide_true, decide_false, List.not_mem_nil, not_false_eq_true, ↓xGuard_tt, Bool.not_true, 
      Bool.not_false, ←decide_not, eq_self, e1, e2]
      exact ⟨by trivial, by (repeat (first | with_reducible exact Ext.refl _ _ | with_reducible assumption | with_reducible refine Ext.alloc' ?_ _ | with_reducible refine Ext.drew' ?_ | with_reducible refine Ext.set' ?_ ?_ | exact .inr (by first | omega | (simp only [World.size_alloc, World.size_drew, World.size_setCell] <;> omega)) | refine Ext.trans ?_ (by with_reducible assumption)))⟩
    · simp (disch := (first | omega | decide | (simp only [World.size_alloc, World.size_setCell, World.size_drew, List.mem_cons, List.not_mem_nil, or_false, not_false_eq_true] <;> omega) | fail)) only [↓xBox_r, ↓loadK_some, ↓loadsK_s, ↓loadsK_n, ↓loadsR_s, ↓loadsR_n, ↓storesK_s, ↓storesK_n, setCells_c, setCells_n, World.setCell_alloc_at, World.setCell_alloc_past, World.cell?_alloc_at, World.cell?_alloc_past, 
      World.frozen?_alloc_at, World.frozen?_alloc_past, World.size_alloc, ↓xPick_t, ↓xPick_f, ↓xGuard_tt, ↓xGuard_ff, ↓xGuard_tf, ↓xGuard_ft, ↓xGuard_u, ↓xIf_t, tick_eq, tickV_eq, ne_eq, dlt_t, dlt_f, dle_t, dle_f, deq_t, deq_f, dne_t, 
      dne_f, not_true_eq_false, Int.reduceAdd, Int.reduceSub, Int.reduceMul, Int.reduceEq, Int.reduceLT, Int.reduceLE, Bool.false_and, Bool.true_and, Bool.and_true, Bool.and_false, ↓xBin_add', ↓xBin_sub', ↓xBin_mul', 
      ↓xBin_quo', ↓xBin_rem', wrap_in, ↓xIf_f, ↓xIf_tt, ↓xEx0, ↓xEx1, ↓xEx2, ↓xEx3, ↓xBin_eqs, ↓xBin_nes, ↓xUn_not, ↓xu8_sub, ↓xu8_com, ↓xu8_eql, ↓xu8_neq, ↓xu8_lss, ↓xu8_gtr, ↓xu16_sub, ↓xu16_com, ↓xu16_eql, ↓xu16_neq, 
      ↓xu16_lss, ↓xu16_gtr, ↓xu32_sub, ↓xu32_com, ↓xu32_eql, ↓xu32_neq, ↓xu32_lss, ↓xu32_gtr, ↓xu64_sub, ↓xu64_com, ↓xu64_eql, ↓xu64_neq, ↓xu64_lss, ↓xu64_gtr, ↓xi64_lss, ↓xi64_gtr, ↓xi64_eql, ↓xi64_neq, ↓xi64_neg, Int.toNat_natCast, 
      Int.reduceToNat, Nat.reduceMul, Nat.reduceAdd, Nat.reduceSub, Nat.mul_one, List.nil_append, List.cons_append, List.getElem?_toArray, List.getElem?_cons_zero, List.getElem?_cons_succ, cells_int, cells_bool, cells_string, 
      cells_slice, cells_pointer, cells_agg, one_int, one_bool, one_string, one_slice, one_pointer, List.setIfInBounds_toArray, List.set_cons_zero, List.set_cons_succ, ↓xDet_s, ↓xDet_ld, ↓xDet_ld2, ↓xDet_ld3, ↓xDet_ld4, 
      World.size_drew, Nat.zero_add, cell_drew, frozen_drew, cell_set_eq, cell_set_o, cell_set_b, Option.map_some, World.frozen?_setCell, decide_true, decide_false, List.not_mem_nil, not_false_eq_true, ↓xGuard_tt, Bool.not_true, 
      Bool.not_false, ←decide_not, eq_self, e1, e2]
      exact ⟨by trivial, by (repeat (first | with_reducible exact Ext.refl _ _ | with_reducible assumption | with_reducible refine Ext.alloc' ?_ _ | with_reducible refine Ext.drew' ?_ | with_reducible refine Ext.set' ?_ ?_ | exact .inr (by first | omega | (simp only [World.size_alloc, World.size_drew, World.size_setCell] <;> omega)) | refine Ext.trans ?_ (by with_reducible assumption)))⟩

theorem BitsTurns_spec (x0 : Int) (a b : Int) (hx : 0 ≤ x0 ∧ x0 ≤ 18446744073709551615) (w : World) : Gives Try.prog n_loamlaw1_BitsTurns #[.int .u64 x0, i64 a, i64 b] w (.bool true) := by
  rw [u64_of hx.1 hx.2]
  generalize BitVec.ofInt 64 x0 = x
  refine loamlaw1_BitsTurns_of ?_
  unfold loamlaw1_BitsTurns
  refine loamlaw1_known_call (Gives.to (known1_spec _) fun w1 E1 => ?_)
  have z1 := E1.size
  try simp only [World.size_alloc, World.size_setCell, World.size_drew] at z1
  simp (disch := (first | omega | decide | (simp only [World.size_alloc, World.size_setCell, World.size_drew, List.mem_cons, List.not_mem_nil, or_false, not_false_eq_true] <;> omega) | fail)) only [↓xBox_r, ↓loadK_some, ↓loadsK_s, ↓loadsK_n, ↓loadsR_s, ↓loadsR_n, ↓storesK_s, ↓storesK_n, setCells_c, setCells_n, World.setCell_alloc_at, World.setCell_alloc_past, World.cell?_alloc_at, World.cell?_alloc_past, 
      World.frozen?_alloc_at, World.frozen?_alloc_past, World.size_alloc, ↓xPick_t, ↓xPick_f, ↓xGuard_tt, ↓xGuard_ff, ↓xGuard_tf, ↓xGuard_ft, ↓xGuard_u, ↓xIf_t, tick_eq, tickV_eq, ne_eq, dlt_t, dlt_f, dle_t, dle_f, deq_t, deq_f, dne_t, 
      dne_f, not_true_eq_false, Int.reduceAdd, Int.reduceSub, Int.reduceMul, Int.reduceEq, Int.reduceLT, Int.reduceLE, Bool.false_and, Bool.true_and, Bool.and_true, Bool.and_false, ↓xBin_add', ↓xBin_sub', ↓xBin_mul', 
      ↓xBin_quo', ↓xBin_rem', wrap_in, ↓xIf_f, ↓xIf_tt, ↓xEx0, ↓xEx1, ↓xEx2, ↓xEx3, ↓xBin_eqs, ↓xBin_nes, ↓xUn_not, ↓xu8_add, ↓xu8_sub, ↓xu8_com, ↓xu8_eql, ↓xu8_neq, ↓xu8_lss, ↓xu8_gtr, ↓xu16_add, ↓xu16_sub, ↓xu16_com, 
      ↓xu16_eql, ↓xu16_neq, ↓xu16_lss, ↓xu16_gtr, ↓xu32_add, ↓xu32_sub, ↓xu32_com, ↓xu32_eql, ↓xu32_neq, ↓xu32_lss, ↓xu32_gtr, ↓xu64_add, ↓xu64_sub, ↓xu64_com, ↓xu64_eql, ↓xu64_neq, ↓xu64_lss, ↓xu64_gtr, ↓xi64_lss, ↓xi64_gtr, 
      ↓xi64_eql, ↓xi64_neq, ↓xi64_neg, Int.toNat_natCast, Int.reduceToNat, Nat.reduceMul, Nat.reduceAdd, Nat.reduceSub, Nat.mul_one, List.nil_append, List.cons_append, List.getElem?_toArray, List.getElem?_cons_zero, List.getElem?_cons_succ, 
      cells_int, cells_bool, cells_string, cells_slice, cells_pointer, cells_agg, one_int, one_bool, one_string, one_slice, one_pointer, List.setIfInBounds_toArray, List.set_cons_zero, List.set_cons_succ, ↓xDet_s, ↓xDet_ld, 
      ↓xDet_ld2, ↓xDet_ld3, ↓xDet_ld4, World.size_drew, Nat.zero_add, cell_drew, frozen_drew, cell_set_eq, cell_set_o, cell_set_b, Option.map_some, World.frozen?_setCell, decide_true, decide_false, List.not_mem_nil, not_false_eq_true, 
      ↓xGuard_tt, Bool.not_true, Bool.not_false, ←decide_not, eq_self, eq_self]
  refine bits_Turn_call (Gives.to (Turn_spec _ _ _) fun w2 E2 => ?_)
  have z2 := E2.size
  try simp only [World.size_alloc, World.size_setCell, World.size_drew] at z2
  simp (disch := (first | omega | decide | (simp only [World.size_alloc, World.size_setCell, World.size_drew, List.mem_cons, List.not_mem_nil, or_false, not_false_eq_true] <;> omega) | fail)) only [↓xBox_r, ↓loadK_some, ↓loadsK_s, ↓loadsK_n, ↓loadsR_s, ↓loadsR_n, ↓storesK_s, ↓storesK_n, setCells_c, setCells_n, World.setCell_alloc_at, World.setCell_alloc_past, World.cell?_alloc_at, World.cell?_alloc_past, 
      World.frozen?_alloc_at, World.frozen?_alloc_past, World.size_alloc, ↓xPick_t, ↓xPick_f, ↓xGuard_tt, ↓xGuard_ff, ↓xGuard_tf, ↓xGuard_ft, ↓xGuard_u, ↓xIf_t, tick_eq, tickV_eq, ne_eq, dlt_t, dlt_f, dle_t, dle_f, deq_t, deq_f, dne_t, 
      dne_f, not_true_eq_false, Int.reduceAdd, Int.reduceSub, Int.reduceMul, Int.reduceEq, Int.reduceLT, Int.reduceLE, Bool.false_and, Bool.true_and, Bool.and_true, Bool.and_false, ↓xBin_add', ↓xBin_sub', ↓xBin_mul', 
      ↓xBin_quo', ↓xBin_rem', wrap_in, ↓xIf_f, ↓xIf_tt, ↓xEx0, ↓xEx1, ↓xEx2, ↓xEx3, ↓xBin_eqs, ↓xBin_nes, ↓xUn_not, ↓xu8_add, ↓xu8_sub, ↓xu8_com, ↓xu8_eql, ↓xu8_neq, ↓xu8_lss, ↓xu8_gtr, ↓xu16_add, ↓xu16_sub, ↓xu16_com, 
      ↓xu16_eql, ↓xu16_neq, ↓xu16_lss, ↓xu16_gtr, ↓xu32_add, ↓xu32_sub, ↓xu32_com, ↓xu32_eql, ↓xu32_neq, ↓xu32_lss, ↓xu32_gtr, ↓xu64_add, ↓xu64_sub, ↓xu64_com, ↓xu64_eql, ↓xu64_neq, ↓xu64_lss, ↓xu64_gtr, ↓xi64_lss, ↓xi64_gtr, 
      ↓xi64_eql, ↓xi64_neq, ↓xi64_neg, Int.toNat_natCast, Int.reduceToNat, Nat.reduceMul, Nat.reduceAdd, Nat.reduceSub, Nat.mul_one, List.nil_append, List.cons_append, List.getElem?_toArray, List.getElem?_cons_zero, List.getElem?_cons_succ, 
      cells_int, cells_bool, cells_string, cells_slice, cells_pointer, cells_agg, one_int, one_bool, one_string, one_slice, one_pointer, List.setIfInBounds_toArray, List.set_cons_zero, List.set_cons_succ, ↓xDet_s, ↓xDet_ld, 
      ↓xDet_ld2, ↓xDet_ld3, ↓xDet_ld4, World.size_drew, Nat.zero_add, cell_drew, frozen_drew, cell_set_eq, cell_set_o, cell_set_b, Option.map_some, World.frozen?_setCell, decide_true, decide_false, List.not_mem_nil, not_false_eq_true, 
      ↓xGuard_tt, Bool.not_true, Bool.not_false, ←decide_not, eq_self, eq_self]
  refine loamref1_Turn_call (Gives.to (rTurn_spec _ _ _) fun w3 E3 => ?_)
  have z3 := E3.size
  try simp only [World.size_alloc, World.size_setCell, World.size_drew] at z3
  simp (disch := (first | omega | decide | (simp only [World.size_alloc, World.size_setCell, World.size_drew, List.mem_cons, List.not_mem_nil, or_false, not_false_eq_true] <;> omega) | fail)) only [↓xBox_r, ↓loadK_some, ↓loadsK_s, ↓loadsK_n, ↓loadsR_s, ↓loadsR_n, ↓storesK_s, ↓storesK_n, setCells_c, setCells_n, World.setCell_alloc_at, World.setCell_alloc_past, World.cell?_alloc_at, World.cell?_alloc_past, 
      World.frozen?_alloc_at, World.frozen?_alloc_past, World.size_alloc, ↓xPick_t, ↓xPick_f, ↓xGuard_tt, ↓xGuard_ff, ↓xGuard_tf, ↓xGuard_ft, ↓xGuard_u, ↓xIf_t, tick_eq, tickV_eq, ne_eq, dlt_t, dlt_f, dle_t, dle_f, deq_t, deq_f, dne_t, 
      dne_f, not_true_eq_false, Int.reduceAdd, Int.reduceSub, Int.reduceMul, Int.reduceEq, Int.reduceLT, Int.reduceLE, Bool.false_and, Bool.true_and, Bool.and_true, Bool.and_false, ↓xBin_add', ↓xBin_sub', ↓xBin_mul', 
      ↓xBin_quo', ↓xBin_rem', wrap_in, ↓xIf_f, ↓xIf_tt, ↓xEx0, ↓xEx1, ↓xEx2, ↓xEx3, ↓xBin_eqs, ↓xBin_nes, ↓xUn_not, ↓xu8_add, ↓xu8_sub, ↓xu8_com, ↓xu8_eql, ↓xu8_neq, ↓xu8_lss, ↓xu8_gtr, ↓xu16_add, ↓xu16_sub, ↓xu16_com, 
      ↓xu16_eql, ↓xu16_neq, ↓xu16_lss, ↓xu16_gtr, ↓xu32_add, ↓xu32_sub, ↓xu32_com, ↓xu32_eql, ↓xu32_neq, ↓xu32_lss, ↓xu32_gtr, ↓xu64_add, ↓xu64_sub, ↓xu64_com, ↓xu64_eql, ↓xu64_neq, ↓xu64_lss, ↓xu64_gtr, ↓xi64_lss, ↓xi64_gtr, 
      ↓xi64_eql, ↓xi64_neq, ↓xi64_neg, Int.toNat_natCast, Int.reduceToNat, Nat.reduceMul, Nat.reduceAdd, Nat.reduceSub, Nat.mul_one, List.nil_append, List.cons_append, List.getElem?_toArray, List.getElem?_cons_zero, List.getElem?_cons_succ, 
      cells_int, cells_bool, cells_string, cells_slice, cells_pointer, cells_agg, one_int, one_bool, one_string, one_slice, one_pointer, List.setIfInBounds_toArray, List.set_cons_zero, List.set_cons_succ, ↓xDet_s, ↓xDet_ld, 
      ↓xDet_ld2, ↓xDet_ld3, ↓xDet_ld4, World.size_drew, Nat.zero_add, cell_drew, frozen_drew, cell_set_eq, cell_set_o, cell_set_b, Option.map_some, World.frozen?_setCell, decide_true, decide_false, List.not_mem_nil, not_false_eq_true, 
      ↓xGuard_tt, Bool.not_true, Bool.not_false, ←decide_not, eq_self, eq_self]
  by_cases g1 : a < -1000
  · simp (disch := (first | omega | decide | (simp only [World.size_alloc, World.size_setCell, World.size_drew, List.mem_cons, List.not_mem_nil, or_false, not_false_eq_true] <;> omega) | fail)) only [↓xBox_r, ↓loadK_some, ↓loadsK_s, ↓loadsK_n, ↓loadsR_s, ↓loadsR_n, ↓storesK_s, ↓storesK_n, setCells_c, setCells_n, World.setCell_alloc_at, World.setCell_alloc_past, World.cell?_alloc_at, World.cell?_alloc_past, 
      World.frozen?_alloc_at, World.frozen?_alloc_past, World.size_alloc, ↓xPick_t, ↓xPick_f, ↓xGuard_tt, ↓xGuard_ff, ↓xGuard_tf, ↓xGuard_ft, ↓xGuard_u, ↓xIf_t, tick_eq, tickV_eq, ne_eq, dlt_t, dlt_f, dle_t, dle_f, deq_t, deq_f, dne_t, 
      dne_f, not_true_eq_false, Int.reduceAdd, Int.reduceSub, Int.reduceMul, Int.reduceEq, Int.reduceLT, Int.reduceLE, Bool.false_and, Bool.true_and, Bool.and_true, Bool.and_false, ↓xBin_add', ↓xBin_sub', ↓xBin_mul', 
      ↓xBin_quo', ↓xBin_rem', wrap_in, ↓xIf_f, ↓xIf_tt, ↓xEx0, ↓xEx1, ↓xEx2, ↓xEx3, ↓xBin_eqs, ↓xBin_nes, ↓xUn_not, ↓xu8_add, ↓xu8_sub, ↓xu8_com, ↓xu8_eql, ↓xu8_neq, ↓xu8_lss, ↓xu8_gtr, ↓xu16_add, ↓xu16_sub, ↓xu16_com, 
      ↓xu16_eql, ↓xu16_neq, ↓xu16_lss, ↓xu16_gtr, ↓xu32_add, ↓xu32_sub, ↓xu32_com, ↓xu32_eql, ↓xu32_neq, ↓xu32_lss, ↓xu32_gtr, ↓xu64_add, ↓xu64_sub, ↓xu64_com, ↓xu64_eql, ↓xu64_neq, ↓xu64_lss, ↓xu64_gtr, ↓xi64_lss, ↓xi64_gtr, 
      ↓xi64_eql, ↓xi64_neq, ↓xi64_neg, Int.toNat_natCast, Int.reduceToNat, Nat.reduceMul, Nat.reduceAdd, Nat.reduceSub, Nat.mul_one, List.nil_append, List.cons_append, List.getElem?_toArray, List.getElem?_cons_zero, List.getElem?_cons_succ, 
      cells_int, cells_bool, cells_string, cells_slice, cells_pointer, cells_agg, one_int, one_bool, one_string, one_slice, one_pointer, List.setIfInBounds_toArray, List.set_cons_zero, List.set_cons_succ, ↓xDet_s, ↓xDet_ld, 
      ↓xDet_ld2, ↓xDet_ld3, ↓xDet_ld4, World.size_drew, Nat.zero_add, cell_drew, frozen_drew, cell_set_eq, cell_set_o, cell_set_b, Option.map_some, World.frozen?_setCell, decide_true, decide_false, List.not_mem_nil, not_false_eq_true, 
      ↓xGuard_tt, Bool.not_true, Bool.not_false, ←decide_not, eq_self, eq_self, g1]
    exact ⟨by trivial, by (repeat (first | with_reducible exact Ext.refl _ _ | with_reducible assumption | with_reducible refine Ext.alloc' ?_ _ | with_reducible refine Ext.drew' ?_ | with_reducible refine Ext.set' ?_ ?_ | exact .inr (by first | omega | (simp only [World.size_alloc, World.size_drew, World.size_setCell] <;> omega)) | refine Ext.trans ?_ (by with_reducible assumption)))⟩
  by_cases g2 : 1000 < a
  · simp (disch := (first | omega | decide | (simp only [World.size_alloc, World.size_setCell, World.size_drew, List.mem_cons, List.not_mem_nil, or_false, not_false_eq_true] <;> omega) | fail)) only [↓xBox_r, ↓loadK_some, ↓loadsK_s, ↓loadsK_n, ↓loadsR_s, ↓loadsR_n, ↓storesK_s, ↓storesK_n, setCells_c, setCells_n, World.setCell_alloc_at, World.setCell_alloc_past, World.cell?_alloc_at, World.cell?_alloc_past, 
      World.frozen?_alloc_at, World.frozen?_alloc_past, World.size_alloc, ↓xPick_t, ↓xPick_f, ↓xGuard_tt, ↓xGuard_ff, ↓xGuard_tf, ↓xGuard_ft, ↓xGuard_u, ↓xIf_t, tick_eq, tickV_eq, ne_eq, dlt_t, dlt_f, dle_t, dle_f, deq_t, deq_f, dne_t, 
      dne_f, not_true_eq_false, Int.reduceAdd, Int.reduceSub, Int.reduceMul, Int.reduceEq, Int.reduceLT, Int.reduceLE, Bool.false_and, Bool.true_and, Bool.and_true, Bool.and_false, ↓xBin_add', ↓xBin_sub', ↓xBin_mul', 
      ↓xBin_quo', ↓xBin_rem', wrap_in, ↓xIf_f, ↓xIf_tt, ↓xEx0, ↓xEx1, ↓xEx2, ↓xEx3, ↓xBin_eqs, ↓xBin_nes, ↓xUn_not, ↓xu8_add, ↓xu8_sub, ↓xu8_com, ↓xu8_eql, ↓xu8_neq, ↓xu8_lss, ↓xu8_gtr, ↓xu16_add, ↓xu16_sub, ↓xu16_com, 
      ↓xu16_eql, ↓xu16_neq, ↓xu16_lss, ↓xu16_gtr, ↓xu32_add, ↓xu32_sub, ↓xu32_com, ↓xu32_eql, ↓xu32_neq, ↓xu32_lss, ↓xu32_gtr, ↓xu64_add, ↓xu64_sub, ↓xu64_com, ↓xu64_eql, ↓xu64_neq, ↓xu64_lss, ↓xu64_gtr, ↓xi64_lss, ↓xi64_gtr, 
      ↓xi64_eql, ↓xi64_neq, ↓xi64_neg, Int.toNat_natCast, Int.reduceToNat, Nat.reduceMul, Nat.reduceAdd, Nat.reduceSub, Nat.mul_one, List.nil_append, List.cons_append, List.getElem?_toArray, List.getElem?_cons_zero, List.getElem?_cons_succ, 
      cells_int, cells_bool, cells_string, cells_slice, cells_pointer, cells_agg, one_int, one_bool, one_string, one_slice, one_pointer, List.setIfInBounds_toArray, List.set_cons_zero, List.set_cons_succ, ↓xDet_s, ↓xDet_ld, 
      ↓xDet_ld2, ↓xDet_ld3, ↓xDet_ld4, World.size_drew, Nat.zero_add, cell_drew, frozen_drew, cell_set_eq, cell_set_o, cell_set_b, Option.map_some, World.frozen?_setCell, decide_true, decide_false, List.not_mem_nil, not_false_eq_true, 
      ↓xGuard_tt, Bool.not_true, Bool.not_false, ←decide_not, eq_self, g1, g2]
    exact ⟨by trivial, by (repeat (first | with_reducible exact Ext.refl _ _ | with_reducible assumption | with_reducible refine Ext.alloc' ?_ _ | with_reducible refine Ext.drew' ?_ | with_reducible refine Ext.set' ?_ ?_ | exact .inr (by first | omega | (simp only [World.size_alloc, World.size_drew, World.size_setCell] <;> omega)) | refine Ext.trans ?_ (by with_reducible assumption)))⟩
  by_cases g3 : b < -1000
  · simp (disch := (first | omega | decide | (simp only [World.size_alloc, World.size_setCell, World.size_drew, List.mem_cons, List.not_mem_nil, or_false, not_false_eq_true] <;> omega) | fail)) only [↓xBox_r, ↓loadK_some, ↓loadsK_s, ↓loadsK_n, ↓loadsR_s, ↓loadsR_n, ↓storesK_s, ↓storesK_n, setCells_c, setCells_n, World.setCell_alloc_at, World.setCell_alloc_past, World.cell?_alloc_at, World.cell?_alloc_past, 
      World.frozen?_alloc_at, World.frozen?_alloc_past, World.size_alloc, ↓xPick_t, ↓xPick_f, ↓xGuard_tt, ↓xGuard_ff, ↓xGuard_tf, ↓xGuard_ft, ↓xGuard_u, ↓xIf_t, tick_eq, tickV_eq, ne_eq, dlt_t, dlt_f, dle_t, dle_f, deq_t, deq_f, dne_t, 
      dne_f, not_true_eq_false, Int.reduceAdd, Int.reduceSub, Int.reduceMul, Int.reduceEq, Int.reduceLT, Int.reduceLE, Bool.false_and, Bool.true_and, Bool.and_true, Bool.and_false, ↓xBin_add', ↓xBin_sub', ↓xBin_mul', 
      ↓xBin_quo', ↓xBin_rem', wrap_in, ↓xIf_f, ↓xIf_tt, ↓xEx0, ↓xEx1, ↓xEx2, ↓xEx3, ↓xBin_eqs, ↓xBin_nes, ↓xUn_not, ↓xu8_add, ↓xu8_sub, ↓xu8_com, ↓xu8_eql, ↓xu8_neq, ↓xu8_lss, ↓xu8_gtr, ↓xu16_add, ↓xu16_sub, ↓xu16_com, 
      ↓xu16_eql, ↓xu16_neq, ↓xu16_lss, ↓xu16_gtr, ↓xu32_add, ↓xu32_sub, ↓xu32_com, ↓xu32_eql, ↓xu32_neq, ↓xu32_lss, ↓xu32_gtr, ↓xu64_add, ↓xu64_sub, ↓xu64_com, ↓xu64_eql, ↓xu64_neq, ↓xu64_lss, ↓xu64_gtr, ↓xi64_lss, ↓xi64_gtr, 
      ↓xi64_eql, ↓xi64_neq, ↓xi64_neg, Int.toNat_natCast, Int.reduceToNat, Nat.reduceMul, Nat.reduceAdd, Nat.reduceSub, Nat.mul_one, List.nil_append, List.cons_append, List.getElem?_toArray, List.getElem?_cons_zero, List.getElem?_cons_succ, 
      cells_int, cells_bool, cells_string, cells_slice, cells_pointer, cells_agg, one_int, one_bool, one_string, one_slice, one_pointer, List.setIfInBounds_toArray, List.set_cons_zero, List.set_cons_succ, ↓xDet_s, ↓xDet_ld, 
      ↓xDet_ld2, ↓xDet_ld3, ↓xDet_ld4, World.size_drew, Nat.zero_add, cell_drew, frozen_drew, cell_set_eq, cell_set_o, cell_set_b, Option.map_some, World.frozen?_setCell, decide_true, decide_false, List.not_mem_nil, not_false_eq_true, 
      ↓xGuard_tt, Bool.not_true, Bool.not_false, ←decide_not, eq_self, g1, g2, g3]
    exact ⟨by trivial, by (repeat (first | with_reducible exact Ext.refl _ _ | with_reducible assumption | with_reducible refine Ext.alloc' ?_ _ | with_reducible refine Ext.drew' ?_ | with_reducible refine Ext.set' ?_ ?_ | exact .inr (by first | omega | (simp only [World.size_alloc, World.size_drew, World.size_setCell] <;> omega)) | refine Ext.trans ?_ (by with_reducible assumption)))⟩
  by_cases g4 : 1000 < b
  · simp (disch := (first | omega | decide | (simp only [World.size_alloc, World.size_setCell, World.size_drew, List.mem_cons, List.not_mem_nil, or_false, not_false_eq_true] <;> omega) | fail)) only [↓xBox_r, ↓loadK_some, ↓loadsK_s, ↓loadsK_n, ↓loadsR_s, ↓loadsR_n, ↓storesK_s, ↓storesK_n, setCells_c, setCells_n, World.setCell_alloc_at, World.setCell_alloc_past, World.cell?_alloc_at, World.cell?_alloc_past, 
      World.frozen?_alloc_at, World.frozen?_alloc_past, World.size_alloc, ↓xPick_t, ↓xPick_f, ↓xGuard_tt, ↓xGuard_ff, ↓xGuard_tf, ↓xGuard_ft, ↓xGuard_u, ↓xIf_t, tick_eq, tickV_eq, ne_eq, dlt_t, dlt_f, dle_t, dle_f, deq_t, deq_f, dne_t, 
      dne_f, not_true_eq_false, Int.reduceAdd, Int.reduceSub, Int.reduceMul, Int.reduceEq, Int.reduceLT, Int.reduceLE, Bool.false_and, Bool.true_and, Bool.and_true, Bool.and_false, ↓xBin_add', ↓xBin_sub', ↓xBin_mul', 
      ↓xBin_quo', ↓xBin_rem', wrap_in, ↓xIf_f, ↓xIf_tt, ↓xEx0, ↓xEx1, ↓xEx2, ↓xEx3, ↓xBin_eqs, ↓xBin_nes, ↓xUn_not, ↓xu8_add, ↓xu8_sub, ↓xu8_com, ↓xu8_eql, ↓xu8_neq, ↓xu8_lss, ↓xu8_gtr, ↓xu16_add, ↓xu16_sub, ↓xu16_com, 
      ↓xu16_eql, ↓xu16_neq, ↓xu16_lss, ↓xu16_gtr, ↓xu32_add, ↓xu32_sub, ↓xu32_com, ↓xu32_eql, ↓xu32_neq, ↓xu32_lss, ↓xu32_gtr, ↓xu64_add, ↓xu64_sub, ↓xu64_com, ↓xu64_eql, ↓xu64_neq, ↓xu64_lss, ↓xu64_gtr, ↓xi64_lss, ↓xi64_gtr, 
      ↓xi64_eql, ↓xi64_neq, ↓xi64_neg, Int.toNat_natCast, Int.reduceToNat, Nat.reduceMul, Nat.reduceAdd, Nat.reduceSub, Nat.mul_one, List.nil_append, List.cons_append, List.getElem?_toArray, List.getElem?_cons_zero, List.getElem?_cons_succ, 
      cells_int, cells_bool, cells_string, cells_slice, cells_pointer, cells_agg, one_int, one_bool, one_string, one_slice, one_pointer, List.setIfInBounds_toArray, List.set_cons_zero, List.set_cons_succ, ↓xDet_s, ↓xDet_ld, 
      ↓xDet_ld2, ↓xDet_ld3, ↓xDet_ld4, World.size_drew, Nat.zero_add, cell_drew, frozen_drew, cell_set_eq, cell_set_o, cell_set_b, Option.map_some, World.frozen?_setCell, decide_true, decide_false, List.not_mem_nil, not_false_eq_true, 
      ↓xGuard_tt, Bool.not_true, Bool.not_false, ←decide_not, eq_self, g1, g2, g3, g4]
    exact ⟨by trivial, by (repeat (first | with_reducible exact Ext.refl _ _ | with_reducible assumption | with_reducible refine Ext.alloc' ?_ _ | with_reducible refine Ext.drew' ?_ | with_reducible refine Ext.set' ?_ ?_ | exact .inr (by first | omega | (simp only [World.size_alloc, World.size_drew, World.size_setCell] <;> omega)) | refine Ext.trans ?_ (by with_reducible assumption)))⟩
  simp (disch := (first | omega | decide | (simp only [World.size_alloc, World.size_setCell, World.size_drew, List.mem_cons, List.not_mem_nil, or_false, not_false_eq_true] <;> omega) | fail)) only [↓xBox_r, ↓loadK_some, ↓loadsK_s, ↓loadsK_n, ↓loadsR_s, ↓loadsR_n, ↓storesK_s, ↓storesK_n, setCells_c, setCells_n, World.setCell_alloc_at, World.setCell_alloc_past, World.cell?_alloc_at, World.cell?_alloc_past, 
      World.frozen?_alloc_at, World.frozen?_alloc_past, World.size_alloc, ↓xPick_t, ↓xPick_f, ↓xGuard_tt, ↓xGuard_ff, ↓xGuard_tf, ↓xGuard_ft, ↓xGuard_u, ↓xIf_t, tick_eq, tickV_eq, ne_eq, dlt_t, dlt_f, dle_t, dle_f, deq_t, deq_f, dne_t, 
      dne_f, not_true_eq_false, Int.reduceAdd, Int.reduceSub, Int.reduceMul, Int.reduceEq, Int.reduceLT, Int.reduceLE, Bool.false_and, Bool.true_and, Bool.and_true, Bool.and_false, ↓xBin_add', ↓xBin_sub', ↓xBin_mul', 
      ↓xBin_quo', ↓xBin_rem', wrap_in, ↓xIf_f, ↓xIf_tt, ↓xEx0, ↓xEx1, ↓xEx2, ↓xEx3, ↓xBin_eqs, ↓xBin_nes, ↓xUn_not, ↓xu8_add, ↓xu8_sub, ↓xu8_com, ↓xu8_eql, ↓xu8_neq, ↓xu8_lss, ↓xu8_gtr, ↓xu16_add, ↓xu16_sub, ↓xu16_com, 
      ↓xu16_eql, ↓xu16_neq, ↓xu16_lss, ↓xu16_gtr, ↓xu32_add, ↓xu32_sub, ↓xu32_com, ↓xu32_eql, ↓xu32_neq, ↓xu32_lss, ↓xu32_gtr, ↓xu64_add, ↓xu64_sub, ↓xu64_com, ↓xu64_eql, ↓xu64_neq, ↓xu64_lss, ↓xu64_gtr, ↓xi64_lss, ↓xi64_gtr, 
      ↓xi64_eql, ↓xi64_neq, ↓xi64_neg, Int.toNat_natCast, Int.reduceToNat, Nat.reduceMul, Nat.reduceAdd, Nat.reduceSub, Nat.mul_one, List.nil_append, List.cons_append, List.getElem?_toArray, List.getElem?_cons_zero, List.getElem?_cons_succ, 
      cells_int, cells_bool, cells_string, cells_slice, cells_pointer, cells_agg, one_int, one_bool, one_string, one_slice, one_pointer, List.setIfInBounds_toArray, List.set_cons_zero, List.set_cons_succ, ↓xDet_s, ↓xDet_ld, 
      ↓xDet_ld2, ↓xDet_ld3, ↓xDet_ld4, World.size_drew, Nat.zero_add, cell_drew, frozen_drew, cell_set_eq, cell_set_o, cell_set_b, Option.map_some, World.frozen?_setCell, decide_true, decide_false, List.not_mem_nil, not_false_eq_true, 
      ↓xGuard_tt, Bool.not_true, Bool.not_false, ←decide_not, eq_self, g1, g2, g3, g4]
  refine bits_Turn_call (Gives.to (Turn_spec _ _ _) fun w4 E4 => ?_)
  have z4 := E4.size
  try simp only [World.size_alloc, World.size_setCell, World.size_drew] at z4
  have e1 : turnB (turnB x a) (0 - a) = x := by rw [turn_turn, turn_zero _ (by omega)]
  rw [e1]
  simp (disch := (first | omega | decide | (simp only [World.size_alloc, World.size_setCell, World.size_drew, List.mem_cons, List.not_mem_nil, or_false, not_false_eq_true] <;> omega) | fail)) only [↓xBox_r, ↓loadK_some, ↓loadsK_s, ↓loadsK_n, ↓loadsR_s, ↓loadsR_n, ↓storesK_s, ↓storesK_n, setCells_c, setCells_n, World.setCell_alloc_at, World.setCell_alloc_past, World.cell?_alloc_at, World.cell?_alloc_past, 
      World.frozen?_alloc_at, World.frozen?_alloc_past, World.size_alloc, ↓xPick_t, ↓xPick_f, ↓xGuard_tt, ↓xGuard_ff, ↓xGuard_tf, ↓xGuard_ft, ↓xGuard_u, ↓xIf_t, tick_eq, tickV_eq, ne_eq, dlt_t, dlt_f, dle_t, dle_f, deq_t, deq_f, dne_t, 
      dne_f, not_true_eq_false, Int.reduceAdd, Int.reduceSub, Int.reduceMul, Int.reduceEq, Int.reduceLT, Int.reduceLE, Bool.false_and, Bool.true_and, Bool.and_true, Bool.and_false, ↓xBin_add', ↓xBin_sub', ↓xBin_mul', 
      ↓xBin_quo', ↓xBin_rem', wrap_in, ↓xIf_f, ↓xIf_tt, ↓xEx0, ↓xEx1, ↓xEx2, ↓xEx3, ↓xBin_eqs, ↓xBin_nes, ↓xUn_not, ↓xu8_add, ↓xu8_sub, ↓xu8_com, ↓xu8_eql, ↓xu8_neq, ↓xu8_lss, ↓xu8_gtr, ↓xu16_add, ↓xu16_sub, ↓xu16_com, 
      ↓xu16_eql, ↓xu16_neq, ↓xu16_lss, ↓xu16_gtr, ↓xu32_add, ↓xu32_sub, ↓xu32_com, ↓xu32_eql, ↓xu32_neq, ↓xu32_lss, ↓xu32_gtr, ↓xu64_add, ↓xu64_sub, ↓xu64_com, ↓xu64_eql, ↓xu64_neq, ↓xu64_lss, ↓xu64_gtr, ↓xi64_lss, ↓xi64_gtr, 
      ↓xi64_eql, ↓xi64_neq, ↓xi64_neg, Int.toNat_natCast, Int.reduceToNat, Nat.reduceMul, Nat.reduceAdd, Nat.reduceSub, Nat.mul_one, List.nil_append, List.cons_append, List.getElem?_toArray, List.getElem?_cons_zero, List.getElem?_cons_succ, 
      cells_int, cells_bool, cells_string, cells_slice, cells_pointer, cells_agg, one_int, one_bool, one_string, one_slice, one_pointer, List.setIfInBounds_toArray, List.set_cons_zero, List.set_cons_succ, ↓xDet_s, ↓xDet_ld, 
      ↓xDet_ld2, ↓xDet_ld3, ↓xDet_ld4, World.size_drew, Nat.zero_add, cell_drew, frozen_drew, cell_set_eq, cell_set_o, cell_set_b, Option.map_some, World.frozen?_setCell, decide_true, decide_false, List.not_mem_nil, not_false_eq_true, 
      ↓xGuard_tt, Bool.not_true, Bool.not_false, ←decide_not, eq_self, g1, g2, g3, g4]
  refine bits_Turn_call (Gives.to (Turn_spec _ _ _) fun w5 E5 => ?_)
  have z5 := E5.size
  try simp only [World.size_alloc, World.size_setCell, World.size_drew] at z5
  simp (disch := (first | omega | decide | (simp only [World.size_alloc, World.size_setCell, World.size_drew, List.mem_cons, List.not_mem_nil, or_false, not_false_eq_true] <;> omega) | fail)) only [↓xBox_r, ↓loadK_some, ↓loadsK_s, ↓loadsK_n, ↓loadsR_s, ↓loadsR_n, ↓storesK_s, ↓storesK_n, setCells_c, setCells_n, World.setCell_alloc_at, World.setCell_alloc_past, World.cell?_alloc_at, World.cell?_alloc_past, 
      World.frozen?_alloc_at, World.frozen?_alloc_past, World.size_alloc, ↓xPick_t, ↓xPick_f, ↓xGuard_tt, ↓xGuard_ff, ↓xGuard_tf, ↓xGuard_ft, ↓xGuard_u, ↓xIf_t, tick_eq, tickV_eq, ne_eq, dlt_t, dlt_f, dle_t, dle_f, deq_t, deq_f, dne_t, 
      dne_f, not_true_eq_false, Int.reduceAdd, Int.reduceSub, Int.reduceMul, Int.reduceEq, Int.reduceLT, Int.reduceLE, Bool.false_and, Bool.true_and, Bool.and_true, Bool.and_false, ↓xBin_add', ↓xBin_sub', ↓xBin_mul', 
      ↓xBin_quo', ↓xBin_rem', wrap_in, ↓xIf_f, ↓xIf_tt, ↓xEx0, ↓xEx1, ↓xEx2, ↓xEx3, ↓xBin_eqs, ↓xBin_nes, ↓xUn_not, ↓xu8_add, ↓xu8_sub, ↓xu8_com, ↓xu8_eql, ↓xu8_neq, ↓xu8_lss, ↓xu8_gtr, ↓xu16_add, ↓xu16_sub, ↓xu16_com, 
      ↓xu16_eql, ↓xu16_neq, ↓xu16_lss, ↓xu16_gtr, ↓xu32_add, ↓xu32_sub, ↓xu32_com, ↓xu32_eql, ↓xu32_neq, ↓xu32_lss, ↓xu32_gtr, ↓xu64_add, ↓xu64_sub, ↓xu64_com, ↓xu64_eql, ↓xu64_neq, ↓xu64_lss, ↓xu64_gtr, ↓xi64_lss, ↓xi64_gtr, 
      ↓xi64_eql, ↓xi64_neq, ↓xi64_neg, Int.toNat_natCast, Int.reduceToNat, Nat.reduceMul, Nat.reduceAdd, Nat.reduceSub, Nat.mul_one, List.nil_append, List.cons_append, List.getElem?_toArray, List.getElem?_cons_zero, List.getElem?_cons_succ, 
      cells_int, cells_bool, cells_string, cells_slice, cells_pointer, cells_agg, one_int, one_bool, one_string, one_slice, one_pointer, List.setIfInBounds_toArray, List.set_cons_zero, List.set_cons_succ, ↓xDet_s, ↓xDet_ld, 
      ↓xDet_ld2, ↓xDet_ld3, ↓xDet_ld4, World.size_drew, Nat.zero_add, cell_drew, frozen_drew, cell_set_eq, cell_set_o, cell_set_b, Option.map_some, World.frozen?_setCell, decide_true, decide_false, List.not_mem_nil, not_false_eq_true, 
      ↓xGuard_tt, Bool.not_true, Bool.not_false, ←decide_not, eq_self, g1, g2, g3, g4]
  refine bits_Turn_call (Gives.to (Turn_spec _ _ _) fun w6 E6 => ?_)
  have z6 := E6.size
  try simp only [World.size_alloc, World.size_setCell, World.size_drew] at z6
  rw [turn_turn]
  simp (disch := (first | omega | decide | (simp only [World.size_alloc, World.size_setCell, World.size_drew, List.mem_cons, List.not_mem_nil, or_false, not_false_eq_true] <;> omega) | fail)) only [↓xBox_r, ↓loadK_some, ↓loadsK_s, ↓loadsK_n, ↓loadsR_s, ↓loadsR_n, ↓storesK_s, ↓storesK_n, setCells_c, setCells_n, World.setCell_alloc_at, World.setCell_alloc_past, World.cell?_alloc_at, World.cell?_alloc_past, 
      World.frozen?_alloc_at, World.frozen?_alloc_past, World.size_alloc, ↓xPick_t, ↓xPick_f, ↓xGuard_tt, ↓xGuard_ff, ↓xGuard_tf, ↓xGuard_ft, ↓xGuard_u, ↓xIf_t, tick_eq, tickV_eq, ne_eq, dlt_t, dlt_f, dle_t, dle_f, deq_t, deq_f, dne_t, 
      dne_f, not_true_eq_false, Int.reduceAdd, Int.reduceSub, Int.reduceMul, Int.reduceEq, Int.reduceLT, Int.reduceLE, Bool.false_and, Bool.true_and, Bool.and_true, Bool.and_false, ↓xBin_add', ↓xBin_sub', ↓xBin_mul', 
      ↓xBin_quo', ↓xBin_rem', wrap_in, ↓xIf_f, ↓xIf_tt, ↓xEx0, ↓xEx1, ↓xEx2, ↓xEx3, ↓xBin_eqs, ↓xBin_nes, ↓xUn_not, ↓xu8_add, ↓xu8_sub, ↓xu8_com, ↓xu8_eql, ↓xu8_neq, ↓xu8_lss, ↓xu8_gtr, ↓xu16_add, ↓xu16_sub, ↓xu16_com, 
      ↓xu16_eql, ↓xu16_neq, ↓xu16_lss, ↓xu16_gtr, ↓xu32_add, ↓xu32_sub, ↓xu32_com, ↓xu32_eql, ↓xu32_neq, ↓xu32_lss, ↓xu32_gtr, ↓xu64_add, ↓xu64_sub, ↓xu64_com, ↓xu64_eql, ↓xu64_neq, ↓xu64_lss, ↓xu64_gtr, ↓xi64_lss, ↓xi64_gtr, 
      ↓xi64_eql, ↓xi64_neq, ↓xi64_neg, Int.toNat_natCast, Int.reduceToNat, Nat.reduceMul, Nat.reduceAdd, Nat.reduceSub, Nat.mul_one, List.nil_append, List.cons_append, List.getElem?_toArray, List.getElem?_cons_zero, List.getElem?_cons_succ, 
      cells_int, cells_bool, cells_string, cells_slice, cells_pointer, cells_agg, one_int, one_bool, one_string, one_slice, one_pointer, List.setIfInBounds_toArray, List.set_cons_zero, List.set_cons_succ, ↓xDet_s, ↓xDet_ld, 
      ↓xDet_ld2, ↓xDet_ld3, ↓xDet_ld4, World.size_drew, Nat.zero_add, cell_drew, frozen_drew, cell_set_eq, cell_set_o, cell_set_b, Option.map_some, World.frozen?_setCell, decide_true, decide_false, List.not_mem_nil, not_false_eq_true, 
      ↓xGuard_tt, Bool.not_true, Bool.not_false, ←decide_not, eq_self, g1, g2, g3, g4]
  refine bits_Turn_call (Gives.to (Turn_spec _ _ _) fun w7 E7 => ?_)
  have z7 := E7.size
  try simp only [World.size_alloc, World.size_setCell, World.size_drew] at z7
  rw [turn_zero x (k := 64) (by decide)]
  simp (disch := (first | omega | decide | (simp only [World.size_alloc, World.size_setCell, World.size_drew, List.mem_cons, List.not_mem_nil, or_false, not_false_eq_true] <;> omega) | fail)) only [↓xBox_r, ↓loadK_some, ↓loadsK_s, ↓loadsK_n, ↓loadsR_s, ↓loadsR_n, ↓storesK_s, ↓storesK_n, setCells_c, setCells_n, World.setCell_alloc_at, World.setCell_alloc_past, World.cell?_alloc_at, World.cell?_alloc_past, 
      World.frozen?_alloc_at, World.frozen?_alloc_past, World.size_alloc, ↓xPick_t, ↓xPick_f, ↓xGuard_tt, ↓xGuard_ff, ↓xGuard_tf, ↓xGuard_ft, ↓xGuard_u, ↓xIf_t, tick_eq, tickV_eq, ne_eq, dlt_t, dlt_f, dle_t, dle_f, deq_t, deq_f, dne_t, 
      dne_f, not_true_eq_false, Int.reduceAdd, Int.reduceSub, Int.reduceMul, Int.reduceEq, Int.reduceLT, Int.reduceLE, Bool.false_and, Bool.true_and, Bool.and_true, Bool.and_false, ↓xBin_add', ↓xBin_sub', ↓xBin_mul', 
      ↓xBin_quo', ↓xBin_rem', wrap_in, ↓xIf_f, ↓xIf_tt, ↓xEx0, ↓xEx1, ↓xEx2, ↓xEx3, ↓xBin_eqs, ↓xBin_nes, ↓xUn_not, ↓xu8_add, ↓xu8_sub, ↓xu8_com, ↓xu8_eql, ↓xu8_neq, ↓xu8_lss, ↓xu8_gtr, ↓xu16_add, ↓xu16_sub, ↓xu16_com, 
      ↓xu16_eql, ↓xu16_neq, ↓xu16_lss, ↓xu16_gtr, ↓xu32_add, ↓xu32_sub, ↓xu32_com, ↓xu32_eql, ↓xu32_neq, ↓xu32_lss, ↓xu32_gtr, ↓xu64_add, ↓xu64_sub, ↓xu64_com, ↓xu64_eql, ↓xu64_neq, ↓xu64_lss, ↓xu64_gtr, ↓xi64_lss, ↓xi64_gtr, 
      ↓xi64_eql, ↓xi64_neq, ↓xi64_neg, Int.toNat_natCast, Int.reduceToNat, Nat.reduceMul, Nat.reduceAdd, Nat.reduceSub, Nat.mul_one, List.nil_append, List.cons_append, List.getElem?_toArray, List.getElem?_cons_zero, List.getElem?_cons_succ, 
      cells_int, cells_bool, cells_string, cells_slice, cells_pointer, cells_agg, one_int, one_bool, one_string, one_slice, one_pointer, List.setIfInBounds_toArray, List.set_cons_zero, List.set_cons_succ, ↓xDet_s, ↓xDet_ld, 
      ↓xDet_ld2, ↓xDet_ld3, ↓xDet_ld4, World.size_drew, Nat.zero_add, cell_drew, frozen_drew, cell_set_eq, cell_set_o, cell_set_b, Option.map_some, World.frozen?_setCell, decide_true, decide_false, List.not_mem_nil, not_false_eq_true, 
      ↓xGuard_tt, Bool.not_true, Bool.not_false, ←decide_not, eq_self, g1, g2, g3, g4]
  exact ⟨by trivial, by (repeat (first | with_reducible exact Ext.refl _ _ | with_reducible assumption | with_reducible refine Ext.alloc' ?_ _ | with_reducible refine Ext.drew' ?_ | with_reducible refine Ext.set' ?_ ?_ | exact .inr (by first | omega | (simp only [World.size_alloc, World.size_drew, World.size_setCell] <;> omega)) | refine Ext.trans ?_ (by with_reducible assumption)))⟩

theorem BitsMerge_spec (x0 : Int) (c : Int) (hx : 0 ≤ x0 ∧ x0 ≤ 18446744073709551615) (w : World) : Gives Try.prog n_loamlaw1_BitsMerge #[.int .u64 x0, i64 c] w (.bool true) := by
  rw [u64_of hx.1 hx.2]
  generalize BitVec.ofInt 64 x0 = x
  refine loamlaw1_BitsMerge_of ?_
  unfold loamlaw1_BitsMerge
  refine loamlaw1_known_call (Gives.to (known1_spec _) fun w1 E1 => ?_)
  have z1 := E1.size
  try simp only [World.size_alloc, World.size_setCell, World.size_drew] at z1
  simp (disch := (first | omega | decide | (simp only [World.size_alloc, World.size_setCell, World.size_drew, List.mem_cons, List.not_mem_nil, or_false, not_false_eq_true] <;> omega) | fail)) only [↓xBox_r, ↓loadK_some, ↓loadsK_s, ↓loadsK_n, ↓loadsR_s, ↓loadsR_n, ↓storesK_s, ↓storesK_n, setCells_c, setCells_n, World.setCell_alloc_at, World.setCell_alloc_past, World.cell?_alloc_at, World.cell?_alloc_past, 
      World.frozen?_alloc_at, World.frozen?_alloc_past, World.size_alloc, ↓xPick_t, ↓xPick_f, ↓xGuard_tt, ↓xGuard_ff, ↓xGuard_tf, ↓xGuard_ft, ↓xGuard_u, ↓xIf_t, tick_eq, tickV_eq, ne_eq, dlt_t, dlt_f, dle_t, dle_f, deq_t, deq_f, dne_t, 
      dne_f, not_true_eq_false, Int.reduceAdd, Int.reduceSub, Int.reduceMul, Int.reduceEq, Int.reduceLT, Int.reduceLE, Bool.false_and, Bool.true_and, Bool.and_true, Bool.and_false, ↓xBin_add', ↓xBin_sub', ↓xBin_mul', 
      ↓xBin_quo', ↓xBin_rem', wrap_in, ↓xIf_f, ↓xIf_tt, ↓xEx0, ↓xEx1, ↓xEx2, ↓xEx3, ↓xBin_eqs, ↓xBin_nes, ↓xUn_not, ↓xu8_sub, ↓xu8_or, ↓xu8_com, ↓xu8_shl, ↓xu8_eql, ↓xu8_lss, ↓xu8_gtr, ↓xu16_sub, ↓xu16_or, ↓xu16_com, ↓xu16_shl, 
      ↓xu16_eql, ↓xu16_lss, ↓xu16_gtr, ↓xu32_sub, ↓xu32_or, ↓xu32_com, ↓xu32_shl, ↓xu32_eql, ↓xu32_lss, ↓xu32_gtr, ↓xu64_sub, ↓xu64_or, ↓xu64_com, ↓xu64_shl, ↓xu64_eql, ↓xu64_lss, ↓xu64_gtr, ↓xi64_lss, ↓xi64_gtr, ↓xi64_eql, 
      ↓xi64_or, ↓xi64_shl, Int.toNat_natCast, Int.reduceToNat, Nat.reduceMul, Nat.reduceAdd, Nat.reduceSub, Nat.mul_one, List.nil_append, List.cons_append, List.getElem?_toArray, List.getElem?_cons_zero, List.getElem?_cons_succ, 
      cells_int, cells_bool, cells_string, cells_slice, cells_pointer, cells_agg, one_int, one_bool, one_string, one_slice, one_pointer, List.setIfInBounds_toArray, List.set_cons_zero, List.set_cons_succ, ↓xDet_s, ↓xDet_ld, 
      ↓xDet_ld2, ↓xDet_ld3, ↓xDet_ld4, World.size_drew, Nat.zero_add, cell_drew, frozen_drew, cell_set_eq, cell_set_o, cell_set_b, Option.map_some, World.frozen?_setCell, decide_true, decide_false, List.not_mem_nil, not_false_eq_true, 
      ↓xGuard_tt, Bool.not_true, Bool.not_false, ←decide_not, ↓cv_3_39, eq_self]
  by_cases g1 : c < 1
  · simp (disch := (first | omega | decide | (simp only [World.size_alloc, World.size_setCell, World.size_drew, List.mem_cons, List.not_mem_nil, or_false, not_false_eq_true] <;> omega) | fail)) only [↓xBox_r, ↓loadK_some, ↓loadsK_s, ↓loadsK_n, ↓loadsR_s, ↓loadsR_n, ↓storesK_s, ↓storesK_n, setCells_c, setCells_n, World.setCell_alloc_at, World.setCell_alloc_past, World.cell?_alloc_at, World.cell?_alloc_past, 
      World.frozen?_alloc_at, World.frozen?_alloc_past, World.size_alloc, ↓xPick_t, ↓xPick_f, ↓xGuard_tt, ↓xGuard_ff, ↓xGuard_tf, ↓xGuard_ft, ↓xGuard_u, ↓xIf_t, tick_eq, tickV_eq, ne_eq, dlt_t, dlt_f, dle_t, dle_f, deq_t, deq_f, dne_t, 
      dne_f, not_true_eq_false, Int.reduceAdd, Int.reduceSub, Int.reduceMul, Int.reduceEq, Int.reduceLT, Int.reduceLE, Bool.false_and, Bool.true_and, Bool.and_true, Bool.and_false, ↓xBin_add', ↓xBin_sub', ↓xBin_mul', 
      ↓xBin_quo', ↓xBin_rem', wrap_in, ↓xIf_f, ↓xIf_tt, ↓xEx0, ↓xEx1, ↓xEx2, ↓xEx3, ↓xBin_eqs, ↓xBin_nes, ↓xUn_not, ↓xu8_sub, ↓xu8_or, ↓xu8_com, ↓xu8_shl, ↓xu8_eql, ↓xu8_lss, ↓xu8_gtr, ↓xu16_sub, ↓xu16_or, ↓xu16_com, ↓xu16_shl, 
      ↓xu16_eql, ↓xu16_lss, ↓xu16_gtr, ↓xu32_sub, ↓xu32_or, ↓xu32_com, ↓xu32_shl, ↓xu32_eql, ↓xu32_lss, ↓xu32_gtr, ↓xu64_sub, ↓xu64_or, ↓xu64_com, ↓xu64_shl, ↓xu64_eql, ↓xu64_lss, ↓xu64_gtr, ↓xi64_lss, ↓xi64_gtr, ↓xi64_eql, 
      ↓xi64_or, ↓xi64_shl, Int.toNat_natCast, Int.reduceToNat, Nat.reduceMul, Nat.reduceAdd, Nat.reduceSub, Nat.mul_one, List.nil_append, List.cons_append, List.getElem?_toArray, List.getElem?_cons_zero, List.getElem?_cons_succ, 
      cells_int, cells_bool, cells_string, cells_slice, cells_pointer, cells_agg, one_int, one_bool, one_string, one_slice, one_pointer, List.setIfInBounds_toArray, List.set_cons_zero, List.set_cons_succ, ↓xDet_s, ↓xDet_ld, 
      ↓xDet_ld2, ↓xDet_ld3, ↓xDet_ld4, World.size_drew, Nat.zero_add, cell_drew, frozen_drew, cell_set_eq, cell_set_o, cell_set_b, Option.map_some, World.frozen?_setCell, decide_true, decide_false, List.not_mem_nil, not_false_eq_true, 
      ↓xGuard_tt, Bool.not_true, Bool.not_false, ←decide_not, ↓cv_3_39, eq_self, g1]
    exact ⟨by trivial, by (repeat (first | with_reducible exact Ext.refl _ _ | with_reducible assumption | with_reducible refine Ext.alloc' ?_ _ | with_reducible refine Ext.drew' ?_ | with_reducible refine Ext.set' ?_ ?_ | exact .inr (by first | omega | (simp only [World.size_alloc, World.size_drew, World.size_setCell] <;> omega)) | refine Ext.trans ?_ (by with_reducible assumption)))⟩
  by_cases g2 : 63 < c
  · simp (disch := (first | omega | decide | (simp only [World.size_alloc, World.size_setCell, World.size_drew, List.mem_cons, List.not_mem_nil, or_false, not_false_eq_true] <;> omega) | fail)) only [↓xBox_r, ↓loadK_some, ↓loadsK_s, ↓loadsK_n, ↓loadsR_s, ↓loadsR_n, ↓storesK_s, ↓storesK_n, setCells_c, setCells_n, World.setCell_alloc_at, World.setCell_alloc_past, World.cell?_alloc_at, World.cell?_alloc_past, 
      World.frozen?_alloc_at, World.frozen?_alloc_past, World.size_alloc, ↓xPick_t, ↓xPick_f, ↓xGuard_tt, ↓xGuard_ff, ↓xGuard_tf, ↓xGuard_ft, ↓xGuard_u, ↓xIf_t, tick_eq, tickV_eq, ne_eq, dlt_t, dlt_f, dle_t, dle_f, deq_t, deq_f, dne_t, 
      dne_f, not_true_eq_false, Int.reduceAdd, Int.reduceSub, Int.reduceMul, Int.reduceEq, Int.reduceLT, Int.reduceLE, Bool.false_and, Bool.true_and, Bool.and_true, Bool.and_false, ↓xBin_add', ↓xBin_sub', ↓xBin_mul', 
      ↓xBin_quo', ↓xBin_rem', wrap_in, ↓xIf_f, ↓xIf_tt, ↓xEx0, ↓xEx1, ↓xEx2, ↓xEx3, ↓xBin_eqs, ↓xBin_nes, ↓xUn_not, ↓xu8_sub, ↓xu8_or, ↓xu8_com, ↓xu8_shl, ↓xu8_eql, ↓xu8_lss, ↓xu8_gtr, ↓xu16_sub, ↓xu16_or, ↓xu16_com, ↓xu16_shl, 
      ↓xu16_eql, ↓xu16_lss, ↓xu16_gtr, ↓xu32_sub, ↓xu32_or, ↓xu32_com, ↓xu32_shl, ↓xu32_eql, ↓xu32_lss, ↓xu32_gtr, ↓xu64_sub, ↓xu64_or, ↓xu64_com, ↓xu64_shl, ↓xu64_eql, ↓xu64_lss, ↓xu64_gtr, ↓xi64_lss, ↓xi64_gtr, ↓xi64_eql, 
      ↓xi64_or, ↓xi64_shl, Int.toNat_natCast, Int.reduceToNat, Nat.reduceMul, Nat.reduceAdd, Nat.reduceSub, Nat.mul_one, List.nil_append, List.cons_append, List.getElem?_toArray, List.getElem?_cons_zero, List.getElem?_cons_succ, 
      cells_int, cells_bool, cells_string, cells_slice, cells_pointer, cells_agg, one_int, one_bool, one_string, one_slice, one_pointer, List.setIfInBounds_toArray, List.set_cons_zero, List.set_cons_succ, ↓xDet_s, ↓xDet_ld, 
      ↓xDet_ld2, ↓xDet_ld3, ↓xDet_ld4, World.size_drew, Nat.zero_add, cell_drew, frozen_drew, cell_set_eq, cell_set_o, cell_set_b, Option.map_some, World.frozen?_setCell, decide_true, decide_false, List.not_mem_nil, not_false_eq_true, 
      ↓xGuard_tt, Bool.not_true, Bool.not_false, ←decide_not, ↓cv_3_39, g1, g2]
    exact ⟨by trivial, by (repeat (first | with_reducible exact Ext.refl _ _ | with_reducible assumption | with_reducible refine Ext.alloc' ?_ _ | with_reducible refine Ext.drew' ?_ | with_reducible refine Ext.set' ?_ ?_ | exact .inr (by first | omega | (simp only [World.size_alloc, World.size_drew, World.size_setCell] <;> omega)) | refine Ext.trans ?_ (by with_reducible assumption)))⟩
  obtain ⟨c, rfl⟩ : ∃ k : Nat, c = k := ⟨c.toNat, by omega⟩
  have hc : 1 ≤ c ∧ c ≤ 63 := by omega
  have t64 : (64 : Int) - (c : Int) = ((64 - c : Nat) : Int) := by omega
  have lo : ∀ i, (fieldB x 0 c).getLsbD i = (decide (i < c) && x.getLsbD i) := fun i => by
    rw [show fieldB x 0 (c : Int) = fieldB x ((0 : Nat) : Int) (c : Int) from rfl, field_bit x (by omega) (by omega), Nat.zero_add]
  have hi : ∀ i, (fieldB x c (64 - c : Nat)).getLsbD i = (decide (i < 64 - c) && x.getLsbD (c + i)) := fun i => field_bit x (by omega) (by omega) i
  have e1 : withB (fieldB x 0 c) c (64 - c : Nat) (fieldB x c (64 - c : Nat)) = x := by
    apply BitVec.eq_of_getLsbD_eq
    intro i hi'
    rw [with_bit _ _ (by omega) (by omega) hi']
    by_cases hl : c ≤ i
    · rw [if_pos (by omega), hi, show c + (i - c) = i by omega]
      simp [show i - c < 64 - c by omega]
    · rw [if_neg (by omega), lo]
      simp [show i < c by omega]
  have t1 := ofInt_small (n := c) (by omega)
  have t2 := ofInt_small (n := 64 - c) (by omega)
  have e2 : fieldB x 0 c ||| fieldB x c (64 - c : Nat) <<< c = x := by
    apply BitVec.eq_of_getLsbD_eq
    intro i hi'
    rw [BitVec.getLsbD_or, BitVec.getLsbD_shiftLeft, lo, hi]
    by_cases hl : i < c
    · simp [hl]
    · rw [show c + (i - c) = i by omega]
      simp [hl, hi', show i - c < 64 - c by omega]
  have e3 : turnB x (64 - c : Nat) = fieldB x c (64 - c : Nat) ||| fieldB x 0 c <<< (64 - c) := by
    apply BitVec.eq_of_getLsbD_eq
    intro i hi'
    rw [turn_bit x _ hi', BitVec.getLsbD_or, BitVec.getLsbD_shiftLeft, lo, hi]
    by_cases hl : i < 64 - c
    · rw [show (((i : Int) - ((64 - c : Nat) : Int)) % 64).toNat = c + i by omega]
      simp [hl]
    · rw [show (((i : Int) - ((64 - c : Nat) : Int)) % 64).toNat = i - (64 - c) by omega]
      simp [hl, hi', show i - (64 - c) < c by omega]
  simp (disch := (first | omega | decide | (simp only [World.size_alloc, World.size_setCell, World.size_drew, List.mem_cons, List.not_mem_nil, or_false, not_false_eq_true] <;> omega) | fail)) only [↓xBox_r, ↓loadK_some, ↓loadsK_s, ↓loadsK_n, ↓loadsR_s, ↓loadsR_n, ↓storesK_s, ↓storesK_n, setCells_c, setCells_n, World.setCell_alloc_at, World.setCell_alloc_past, World.cell?_alloc_at, World.cell?_alloc_past, 
      World.frozen?_alloc_at, World.frozen?_alloc_past, World.size_alloc, ↓xPick_t, ↓xPick_f, ↓xGuard_tt, ↓xGuard_ff, ↓xGuard_tf, ↓xGuard_ft, ↓xGuard_u, ↓xIf_t, tick_eq, tickV_eq, ne_eq, dlt_t, dlt_f, dle_t, dle_f, deq_t, deq_f, dne_t, 
      dne_f, not_true_eq_false, Int.reduceAdd, Int.reduceSub, Int.reduceMul, Int.reduceEq, Int.reduceLT, Int.reduceLE, Bool.false_and, Bool.true_and, Bool.and_true, Bool.and_false, ↓xBin_add', ↓xBin_sub', ↓xBin_mul', 
      ↓xBin_quo', ↓xBin_rem', wrap_in, ↓xIf_f, ↓xIf_tt, ↓xEx0, ↓xEx1, ↓xEx2, ↓xEx3, ↓xBin_eqs, ↓xBin_nes, ↓xUn_not, ↓xu8_sub, ↓xu8_or, ↓xu8_com, ↓xu8_shl, ↓xu8_eql, ↓xu8_lss, ↓xu8_gtr, ↓xu16_sub, ↓xu16_or, ↓xu16_com, ↓xu16_shl, 
      ↓xu16_eql, ↓xu16_lss, ↓xu16_gtr, ↓xu32_sub, ↓xu32_or, ↓xu32_com, ↓xu32_shl, ↓xu32_eql, ↓xu32_lss, ↓xu32_gtr, ↓xu64_sub, ↓xu64_or, ↓xu64_com, ↓xu64_shl, ↓xu64_eql, ↓xu64_lss, ↓xu64_gtr, ↓xi64_lss, ↓xi64_gtr, ↓xi64_eql, 
      ↓xi64_or, ↓xi64_shl, Int.toNat_natCast, Int.reduceToNat, Nat.reduceMul, Nat.reduceAdd, Nat.reduceSub, Nat.mul_one, List.nil_append, List.cons_append, List.getElem?_toArray, List.getElem?_cons_zero, List.getElem?_cons_succ, 
      cells_int, cells_bool, cells_string, cells_slice, cells_pointer, cells_agg, one_int, one_bool, one_string, one_slice, one_pointer, List.setIfInBounds_toArray, List.set_cons_zero, List.set_cons_succ, ↓xDet_s, ↓xDet_ld, 
      ↓xDet_ld2, ↓xDet_ld3, ↓xDet_ld4, World.size_drew, Nat.zero_add, cell_drew, frozen_drew, cell_set_eq, cell_set_o, cell_set_b, Option.map_some, World.frozen?_setCell, decide_true, decide_false, List.not_mem_nil, not_false_eq_true, 
      ↓xGuard_tt, Bool.not_true, Bool.not_false, ←decide_not, ↓cv_3_39, g1, g2, t64]
  refine bits_Field_call (Gives.to (Field_spec _ _ _ _) fun w2 E2 => ?_)
  have z2 := E2.size
  try simp only [World.size_alloc, World.size_setCell, World.size_drew] at z2
  simp (disch := (first | omega | decide | (simp only [World.size_alloc, World.size_setCell, World.size_drew, List.mem_cons, List.not_mem_nil, or_false, not_false_eq_true] <;> omega) | fail)) only [↓xBox_r, ↓loadK_some, ↓loadsK_s, ↓loadsK_n, ↓loadsR_s, ↓loadsR_n, ↓storesK_s, ↓storesK_n, setCells_c, setCells_n, World.setCell_alloc_at, World.setCell_alloc_past, World.cell?_alloc_at, World.cell?_alloc_past, 
      World.frozen?_alloc_at, World.frozen?_alloc_past, World.size_alloc, ↓xPick_t, ↓xPick_f, ↓xGuard_tt, ↓xGuard_ff, ↓xGuard_tf, ↓xGuard_ft, ↓xGuard_u, ↓xIf_t, tick_eq, tickV_eq, ne_eq, dlt_t, dlt_f, dle_t, dle_f, deq_t, deq_f, dne_t, 
      dne_f, not_true_eq_false, Int.reduceAdd, Int.reduceSub, Int.reduceMul, Int.reduceEq, Int.reduceLT, Int.reduceLE, Bool.false_and, Bool.true_and, Bool.and_true, Bool.and_false, ↓xBin_add', ↓xBin_sub', ↓xBin_mul', 
      ↓xBin_quo', ↓xBin_rem', wrap_in, ↓xIf_f, ↓xIf_tt, ↓xEx0, ↓xEx1, ↓xEx2, ↓xEx3, ↓xBin_eqs, ↓xBin_nes, ↓xUn_not, ↓xu8_sub, ↓xu8_or, ↓xu8_com, ↓xu8_shl, ↓xu8_eql, ↓xu8_lss, ↓xu8_gtr, ↓xu16_sub, ↓xu16_or, ↓xu16_com, ↓xu16_shl, 
      ↓xu16_eql, ↓xu16_lss, ↓xu16_gtr, ↓xu32_sub, ↓xu32_or, ↓xu32_com, ↓xu32_shl, ↓xu32_eql, ↓xu32_lss, ↓xu32_gtr, ↓xu64_sub, ↓xu64_or, ↓xu64_com, ↓xu64_shl, ↓xu64_eql, ↓xu64_lss, ↓xu64_gtr, ↓xi64_lss, ↓xi64_gtr, ↓xi64_eql, 
      ↓xi64_or, ↓xi64_shl, Int.toNat_natCast, Int.reduceToNat, Nat.reduceMul, Nat.reduceAdd, Nat.reduceSub, Nat.mul_one, List.nil_append, List.cons_append, List.getElem?_toArray, List.getElem?_cons_zero, List.getElem?_cons_succ, 
      cells_int, cells_bool, cells_string, cells_slice, cells_pointer, cells_agg, one_int, one_bool, one_string, one_slice, one_pointer, List.setIfInBounds_toArray, List.set_cons_zero, List.set_cons_succ, ↓xDet_s, ↓xDet_ld, 
      ↓xDet_ld2, ↓xDet_ld3, ↓xDet_ld4, World.size_drew, Nat.zero_add, cell_drew, frozen_drew, cell_set_eq, cell_set_o, cell_set_b, Option.map_some, World.frozen?_setCell, decide_true, decide_false, List.not_mem_nil, not_false_eq_true, 
      ↓xGuard_tt, Bool.not_true, Bool.not_false, ←decide_not, ↓cv_3_39, g1, g2, t64]
  refine bits_Field_call (Gives.to (Field_spec _ _ _ _) fun w3 E3 => ?_)
  have z3 := E3.size
  try simp only [World.size_alloc, World.size_setCell, World.size_drew] at z3
  simp (disch := (first | omega | decide | (simp only [World.size_alloc, World.size_setCell, World.size_drew, List.mem_cons, List.not_mem_nil, or_false, not_false_eq_true] <;> omega) | fail)) only [↓xBox_r, ↓loadK_some, ↓loadsK_s, ↓loadsK_n, ↓loadsR_s, ↓loadsR_n, ↓storesK_s, ↓storesK_n, setCells_c, setCells_n, World.setCell_alloc_at, World.setCell_alloc_past, World.cell?_alloc_at, World.cell?_alloc_past, 
      World.frozen?_alloc_at, World.frozen?_alloc_past, World.size_alloc, ↓xPick_t, ↓xPick_f, ↓xGuard_tt, ↓xGuard_ff, ↓xGuard_tf, ↓xGuard_ft, ↓xGuard_u, ↓xIf_t, tick_eq, tickV_eq, ne_eq, dlt_t, dlt_f, dle_t, dle_f, deq_t, deq_f, dne_t, 
      dne_f, not_true_eq_false, Int.reduceAdd, Int.reduceSub, Int.reduceMul, Int.reduceEq, Int.reduceLT, Int.reduceLE, Bool.false_and, Bool.true_and, Bool.and_true, Bool.and_false, ↓xBin_add', ↓xBin_sub', ↓xBin_mul', 
      ↓xBin_quo', ↓xBin_rem', wrap_in, ↓xIf_f, ↓xIf_tt, ↓xEx0, ↓xEx1, ↓xEx2, ↓xEx3, ↓xBin_eqs, ↓xBin_nes, ↓xUn_not, ↓xu8_sub, ↓xu8_or, ↓xu8_com, ↓xu8_shl, ↓xu8_eql, ↓xu8_lss, ↓xu8_gtr, ↓xu16_sub, ↓xu16_or, ↓xu16_com, ↓xu16_shl, 
      ↓xu16_eql, ↓xu16_lss, ↓xu16_gtr, ↓xu32_sub, ↓xu32_or, ↓xu32_com, ↓xu32_shl, ↓xu32_eql, ↓xu32_lss, ↓xu32_gtr, ↓xu64_sub, ↓xu64_or, ↓xu64_com, ↓xu64_shl, ↓xu64_eql, ↓xu64_lss, ↓xu64_gtr, ↓xi64_lss, ↓xi64_gtr, ↓xi64_eql, 
      ↓xi64_or, ↓xi64_shl, Int.toNat_natCast, Int.reduceToNat, Nat.reduceMul, Nat.reduceAdd, Nat.reduceSub, Nat.mul_one, List.nil_append, List.cons_append, List.getElem?_toArray, List.getElem?_cons_zero, List.getElem?_cons_succ, 
      cells_int, cells_bool, cells_string, cells_slice, cells_pointer, cells_agg, one_int, one_bool, one_string, one_slice, one_pointer, List.setIfInBounds_toArray, List.set_cons_zero, List.set_cons_succ, ↓xDet_s, ↓xDet_ld, 
      ↓xDet_ld2, ↓xDet_ld3, ↓xDet_ld4, World.size_drew, Nat.zero_add, cell_drew, frozen_drew, cell_set_eq, cell_set_o, cell_set_b, Option.map_some, World.frozen?_setCell, decide_true, decide_false, List.not_mem_nil, not_false_eq_true, 
      ↓xGuard_tt, Bool.not_true, Bool.not_false, ←decide_not, ↓cv_3_39, g1, g2, t64]
  refine bits_With_call (Gives.to (With_spec _ _ _ _ _) fun w4 E4 => ?_)
  have z4 := E4.size
  try simp only [World.size_alloc, World.size_setCell, World.size_drew] at z4
  rw [e1]
  simp (disch := (first | omega | decide | (simp only [World.size_alloc, World.size_setCell, World.size_drew, List.mem_cons, List.not_mem_nil, or_false, not_false_eq_true] <;> omega) | fail)) only [↓xBox_r, ↓loadK_some, ↓loadsK_s, ↓loadsK_n, ↓loadsR_s, ↓loadsR_n, ↓storesK_s, ↓storesK_n, setCells_c, setCells_n, World.setCell_alloc_at, World.setCell_alloc_past, World.cell?_alloc_at, World.cell?_alloc_past, 
      World.frozen?_alloc_at, World.frozen?_alloc_past, World.size_alloc, ↓xPick_t, ↓xPick_f, ↓xGuard_tt, ↓xGuard_ff, ↓xGuard_tf, ↓xGuard_ft, ↓xGuard_u, ↓xIf_t, tick_eq, tickV_eq, ne_eq, dlt_t, dlt_f, dle_t, dle_f, deq_t, deq_f, dne_t, 
      dne_f, not_true_eq_false, Int.reduceAdd, Int.reduceSub, Int.reduceMul, Int.reduceEq, Int.reduceLT, Int.reduceLE, Bool.false_and, Bool.true_and, Bool.and_true, Bool.and_false, ↓xBin_add', ↓xBin_sub', ↓xBin_mul', 
      ↓xBin_quo', ↓xBin_rem', wrap_in, ↓xIf_f, ↓xIf_tt, ↓xEx0, ↓xEx1, ↓xEx2, ↓xEx3, ↓xBin_eqs, ↓xBin_nes, ↓xUn_not, ↓xu8_sub, ↓xu8_or, ↓xu8_com, ↓xu8_shl, ↓xu8_eql, ↓xu8_lss, ↓xu8_gtr, ↓xu16_sub, ↓xu16_or, ↓xu16_com, ↓xu16_shl, 
      ↓xu16_eql, ↓xu16_lss, ↓xu16_gtr, ↓xu32_sub, ↓xu32_or, ↓xu32_com, ↓xu32_shl, ↓xu32_eql, ↓xu32_lss, ↓xu32_gtr, ↓xu64_sub, ↓xu64_or, ↓xu64_com, ↓xu64_shl, ↓xu64_eql, ↓xu64_lss, ↓xu64_gtr, ↓xi64_lss, ↓xi64_gtr, ↓xi64_eql, 
      ↓xi64_or, ↓xi64_shl, Int.toNat_natCast, Int.reduceToNat, Nat.reduceMul, Nat.reduceAdd, Nat.reduceSub, Nat.mul_one, List.nil_append, List.cons_append, List.getElem?_toArray, List.getElem?_cons_zero, List.getElem?_cons_succ, 
      cells_int, cells_bool, cells_string, cells_slice, cells_pointer, cells_agg, one_int, one_bool, one_string, one_slice, one_pointer, List.setIfInBounds_toArray, List.set_cons_zero, List.set_cons_succ, ↓xDet_s, ↓xDet_ld, 
      ↓xDet_ld2, ↓xDet_ld3, ↓xDet_ld4, World.size_drew, Nat.zero_add, cell_drew, frozen_drew, cell_set_eq, cell_set_o, cell_set_b, Option.map_some, World.frozen?_setCell, decide_true, decide_false, List.not_mem_nil, not_false_eq_true, 
      ↓xGuard_tt, Bool.not_true, Bool.not_false, ←decide_not, ↓cv_3_39, g1, g2, t64, t1, e2]
  refine bits_Turn_call (Gives.to (Turn_spec _ _ _) fun w5 E5 => ?_)
  have z5 := E5.size
  try simp only [World.size_alloc, World.size_setCell, World.size_drew] at z5
  rw [e3]
  simp (disch := (first | omega | decide | (simp only [World.size_alloc, World.size_setCell, World.size_drew, List.mem_cons, List.not_mem_nil, or_false, not_false_eq_true] <;> omega) | fail)) only [↓xBox_r, ↓loadK_some, ↓loadsK_s, ↓loadsK_n, ↓loadsR_s, ↓loadsR_n, ↓storesK_s, ↓storesK_n, setCells_c, setCells_n, World.setCell_alloc_at, World.setCell_alloc_past, World.cell?_alloc_at, World.cell?_alloc_past, 
      World.frozen?_alloc_at, World.frozen?_alloc_past, World.size_alloc, ↓xPick_t, ↓xPick_f, ↓xGuard_tt, ↓xGuard_ff, ↓xGuard_tf, ↓xGuard_ft, ↓xGuard_u, ↓xIf_t, tick_eq, tickV_eq, ne_eq, dlt_t, dlt_f, dle_t, dle_f, deq_t, deq_f, dne_t, 
      dne_f, not_true_eq_false, Int.reduceAdd, Int.reduceSub, Int.reduceMul, Int.reduceEq, Int.reduceLT, Int.reduceLE, Bool.false_and, Bool.true_and, Bool.and_true, Bool.and_false, ↓xBin_add', ↓xBin_sub', ↓xBin_mul', 
      ↓xBin_quo', ↓xBin_rem', wrap_in, ↓xIf_f, ↓xIf_tt, ↓xEx0, ↓xEx1, ↓xEx2, ↓xEx3, ↓xBin_eqs, ↓xBin_nes, ↓xUn_not, ↓xu8_sub, ↓xu8_or, ↓xu8_com, ↓xu8_shl, ↓xu8_eql, ↓xu8_lss, ↓xu8_gtr, ↓xu16_sub, ↓xu16_or, ↓xu16_com, ↓xu16_shl, 
      ↓xu16_eql, ↓xu16_lss, ↓xu16_gtr, ↓xu32_sub, ↓xu32_or, ↓xu32_com, ↓xu32_shl, ↓xu32_eql, ↓xu32_lss, ↓xu32_gtr, ↓xu64_sub, ↓xu64_or, ↓xu64_com, ↓xu64_shl, ↓xu64_eql, ↓xu64_lss, ↓xu64_gtr, ↓xi64_lss, ↓xi64_gtr, ↓xi64_eql, 
      ↓xi64_or, ↓xi64_shl, Int.toNat_natCast, Int.reduceToNat, Nat.reduceMul, Nat.reduceAdd, Nat.reduceSub, Nat.mul_one, List.nil_append, List.cons_append, List.getElem?_toArray, List.getElem?_cons_zero, List.getElem?_cons_succ, 
      cells_int, cells_bool, cells_string, cells_slice, cells_pointer, cells_agg, one_int, one_bool, one_string, one_slice, one_pointer, List.setIfInBounds_toArray, List.set_cons_zero, List.set_cons_succ, ↓xDet_s, ↓xDet_ld, 
      ↓xDet_ld2, ↓xDet_ld3, ↓xDet_ld4, World.size_drew, Nat.zero_add, cell_drew, frozen_drew, cell_set_eq, cell_set_o, cell_set_b, Option.map_some, World.frozen?_setCell, decide_true, decide_false, List.not_mem_nil, not_false_eq_true, 
      ↓xGuard_tt, Bool.not_true, Bool.not_false, ←decide_not, ↓cv_3_39, g1, g2, t64, t1, e2, t2]
  refine bits_Turn_call (Gives.to (Turn_spec _ _ _) fun w6 E6 => ?_)
  have z6 := E6.size
  try simp only [World.size_alloc, World.size_setCell, World.size_drew] at z6
  simp (disch := (first | omega | decide | (simp only [World.size_alloc, World.size_setCell, World.size_drew, List.mem_cons, List.not_mem_nil, or_false, not_false_eq_true] <;> omega) | fail)) only [↓xBox_r, ↓loadK_some, ↓loadsK_s, ↓loadsK_n, ↓loadsR_s, ↓loadsR_n, ↓storesK_s, ↓storesK_n, setCells_c, setCells_n, World.setCell_alloc_at, World.setCell_alloc_past, World.cell?_alloc_at, World.cell?_alloc_past, 
      World.frozen?_alloc_at, World.frozen?_alloc_past, World.size_alloc, ↓xPick_t, ↓xPick_f, ↓xGuard_tt, ↓xGuard_ff, ↓xGuard_tf, ↓xGuard_ft, ↓xGuard_u, ↓xIf_t, tick_eq, tickV_eq, ne_eq, dlt_t, dlt_f, dle_t, dle_f, deq_t, deq_f, dne_t, 
      dne_f, not_true_eq_false, Int.reduceAdd, Int.reduceSub, Int.reduceMul, Int.reduceEq, Int.reduceLT, Int.reduceLE, Bool.false_and, Bool.true_and, Bool.and_true, Bool.and_false, ↓xBin_add', ↓xBin_sub', ↓xBin_mul', 
      ↓xBin_quo', ↓xBin_rem', wrap_in, ↓xIf_f, ↓xIf_tt, ↓xEx0, ↓xEx1, ↓xEx2, ↓xEx3, ↓xBin_eqs, ↓xBin_nes, ↓xUn_not, ↓xu8_sub, ↓xu8_or, ↓xu8_com, ↓xu8_shl, ↓xu8_eql, ↓xu8_lss, ↓xu8_gtr, ↓xu16_sub, ↓xu16_or, ↓xu16_com, ↓xu16_shl, 
      ↓xu16_eql, ↓xu16_lss, ↓xu16_gtr, ↓xu32_sub, ↓xu32_or, ↓xu32_com, ↓xu32_shl, ↓xu32_eql, ↓xu32_lss, ↓xu32_gtr, ↓xu64_sub, ↓xu64_or, ↓xu64_com, ↓xu64_shl, ↓xu64_eql, ↓xu64_lss, ↓xu64_gtr, ↓xi64_lss, ↓xi64_gtr, ↓xi64_eql, 
      ↓xi64_or, ↓xi64_shl, Int.toNat_natCast, Int.reduceToNat, Nat.reduceMul, Nat.reduceAdd, Nat.reduceSub, Nat.mul_one, List.nil_append, List.cons_append, List.getElem?_toArray, List.getElem?_cons_zero, List.getElem?_cons_succ, 
      cells_int, cells_bool, cells_string, cells_slice, cells_pointer, cells_agg, one_int, one_bool, one_string, one_slice, one_pointer, List.setIfInBounds_toArray, List.set_cons_zero, List.set_cons_succ, ↓xDet_s, ↓xDet_ld, 
      ↓xDet_ld2, ↓xDet_ld3, ↓xDet_ld4, World.size_drew, Nat.zero_add, cell_drew, frozen_drew, cell_set_eq, cell_set_o, cell_set_b, Option.map_some, World.frozen?_setCell, decide_true, decide_false, List.not_mem_nil, not_false_eq_true, 
      ↓xGuard_tt, Bool.not_true, Bool.not_false, ←decide_not, ↓cv_3_39, g1, g2, t64, t1, e2, t2]
  refine loamref1_Turn_call (Gives.to (rTurn_spec _ _ _) fun w7 E7 => ?_)
  have z7 := E7.size
  try simp only [World.size_alloc, World.size_setCell, World.size_drew] at z7
  simp (disch := (first | omega | decide | (simp only [World.size_alloc, World.size_setCell, World.size_drew, List.mem_cons, List.not_mem_nil, or_false, not_false_eq_true] <;> omega) | fail)) only [↓xBox_r, ↓loadK_some, ↓loadsK_s, ↓loadsK_n, ↓loadsR_s, ↓loadsR_n, ↓storesK_s, ↓storesK_n, setCells_c, setCells_n, World.setCell_alloc_at, World.setCell_alloc_past, World.cell?_alloc_at, World.cell?_alloc_past, 
      World.frozen?_alloc_at, World.frozen?_alloc_past, World.size_alloc, ↓xPick_t, ↓xPick_f, ↓xGuard_tt, ↓xGuard_ff, ↓xGuard_tf, ↓xGuard_ft, ↓xGuard_u, ↓xIf_t, tick_eq, tickV_eq, ne_eq, dlt_t, dlt_f, dle_t, dle_f, deq_t, deq_f, dne_t, 
      dne_f, not_true_eq_false, Int.reduceAdd, Int.reduceSub, Int.reduceMul, Int.reduceEq, Int.reduceLT, Int.reduceLE, Bool.false_and, Bool.true_and, Bool.and_true, Bool.and_false, ↓xBin_add', ↓xBin_sub', ↓xBin_mul', 
      ↓xBin_quo', ↓xBin_rem', wrap_in, ↓xIf_f, ↓xIf_tt, ↓xEx0, ↓xEx1, ↓xEx2, ↓xEx3, ↓xBin_eqs, ↓xBin_nes, ↓xUn_not, ↓xu8_sub, ↓xu8_or, ↓xu8_com, ↓xu8_shl, ↓xu8_eql, ↓xu8_lss, ↓xu8_gtr, ↓xu16_sub, ↓xu16_or, ↓xu16_com, ↓xu16_shl, 
      ↓xu16_eql, ↓xu16_lss, ↓xu16_gtr, ↓xu32_sub, ↓xu32_or, ↓xu32_com, ↓xu32_shl, ↓xu32_eql, ↓xu32_lss, ↓xu32_gtr, ↓xu64_sub, ↓xu64_or, ↓xu64_com, ↓xu64_shl, ↓xu64_eql, ↓xu64_lss, ↓xu64_gtr, ↓xi64_lss, ↓xi64_gtr, ↓xi64_eql, 
      ↓xi64_or, ↓xi64_shl, Int.toNat_natCast, Int.reduceToNat, Nat.reduceMul, Nat.reduceAdd, Nat.reduceSub, Nat.mul_one, List.nil_append, List.cons_append, List.getElem?_toArray, List.getElem?_cons_zero, List.getElem?_cons_succ, 
      cells_int, cells_bool, cells_string, cells_slice, cells_pointer, cells_agg, one_int, one_bool, one_string, one_slice, one_pointer, List.setIfInBounds_toArray, List.set_cons_zero, List.set_cons_succ, ↓xDet_s, ↓xDet_ld, 
      ↓xDet_ld2, ↓xDet_ld3, ↓xDet_ld4, World.size_drew, Nat.zero_add, cell_drew, frozen_drew, cell_set_eq, cell_set_o, cell_set_b, Option.map_some, World.frozen?_setCell, decide_true, decide_false, List.not_mem_nil, not_false_eq_true, 
      ↓xGuard_tt, Bool.not_true, Bool.not_false, ←decide_not, ↓cv_3_39, g1, g2, t64, t1, e2, t2]
  exact ⟨by trivial, by (repeat (first | with_reducible exact Ext.refl _ _ | with_reducible assumption | with_reducible refine Ext.alloc' ?_ _ | with_reducible refine Ext.drew' ?_ | with_reducible refine Ext.set' ?_ ?_ | exact .inr (by first | omega | (simp only [World.size_alloc, World.size_drew, World.size_setCell] <;> omega)) | refine Ext.trans ?_ (by with_reducible assumption)))⟩
end Go.Proofs.Ytlijgnekpggejaa
