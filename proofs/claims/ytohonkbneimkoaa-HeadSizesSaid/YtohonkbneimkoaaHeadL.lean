/- The statements on headers, walked. -/
import Derived.Test.YtohonkbneimkoaaHeadU
set_option linter.unusedVariables false
set_option linter.unusedSimpArgs false
set_option maxHeartbeats 4000000
namespace Go.Proofs.Ytohonkbneimkoaa
open Go.Sh Go.RowKit

theorem known14_spec (w : World) : Gives Try.prog n_loamlaw14_known #[] w (.bool true) := by
  refine loamlaw14_known_of ?_
  unfold loamlaw14_known
  have a1 : packW 3 9 false 0 = BitVec.ofNat 64 9223372036855365638 := by decide +kernel
  have a2 : packE 3 9 false 0 = 0 := by decide +kernel
  have a3 : packW 0 0 true 7 = BitVec.ofNat 64 9223372066919546881 := by decide +kernel
  have a4 : packE 0 0 true 7 = 0 := by decide +kernel
  have b1 : vP (BitVec.ofNat 64 9223372036855365638) = 3 := by decide +kernel
  have b2 : vB (BitVec.ofNat 64 9223372036855365638) = 9 := by decide +kernel
  have b3 : vM (BitVec.ofNat 64 9223372036855365638) = false := by decide +kernel
  have b4 : vT (BitVec.ofNat 64 9223372036855365638) = 0 := by decide +kernel
  have b5 : unErr (BitVec.ofNat 64 9223372036855365638) = 0 := by decide +kernel
  have c5 : unErr (BitVec.ofNat 64 0) = 2 := by decide +kernel
  simp (disch := (first | omega | decide | (simp only [World.size_alloc, World.size_setCell, World.size_drew, List.mem_cons, List.not_mem_nil, or_false, not_false_eq_true] <;> omega) | fail)) only [↓xBox_r, ↓loadK_some, ↓loadsK_s, ↓loadsK_n, ↓loadsR_s, ↓loadsR_n, ↓storesK_s, ↓storesK_n, setCells_c, setCells_n, World.setCell_alloc_at, World.setCell_alloc_past, World.cell?_alloc_at, World.cell?_alloc_past, 
      World.frozen?_alloc_at, World.frozen?_alloc_past, World.size_alloc, ↓xPick_t, ↓xPick_f, ↓xGuard_tt, ↓xGuard_ff, ↓xGuard_tf, ↓xGuard_ft, ↓xIf_t, tick_eq, tickV_eq, ne_eq, not_true_eq_false, Int.reduceAdd, Int.reduceSub, Int.reduceMul, 
      Int.reduceEq, Int.reduceLT, Int.reduceLE, Bool.false_and, Bool.true_and, Bool.and_true, Bool.and_false, ↓xBin_add', ↓xBin_sub', ↓xBin_mul', ↓xBin_quo', ↓xBin_rem', wrap_in, ↓xIf_f, ↓xIf_tt, ↓xEx0, ↓xEx1, ↓xEx2, ↓xEx3, 
      ↓xBin_eqs, ↓xBin_nes, ↓xUn_not, ↓xu8_add, ↓xu8_com, ↓xu8_eql, ↓xu16_add, ↓xu16_com, ↓xu16_eql, ↓xu32_add, ↓xu32_com, ↓xu32_eql, ↓xu64_add, ↓xu64_com, ↓xu64_eql, ↓xi64_eql, Int.toNat_natCast, Int.reduceToNat, Nat.reduceMul, 
      Nat.reduceAdd, Nat.reduceSub, Nat.mul_one, List.nil_append, List.cons_append, List.getElem?_toArray, List.getElem?_cons_zero, List.getElem?_cons_succ, cells_int, cells_bool, cells_string, cells_slice, cells_pointer, 
      cells_agg, one_int, one_bool, one_string, one_slice, one_pointer, List.setIfInBounds_toArray, List.set_cons_zero, List.set_cons_succ, ↓xDet_s, ↓xDet_ld, ↓xDet_ld2, ↓xDet_ld3, ↓xDet_ld4, World.size_drew, Nat.zero_add, 
      cell_drew, frozen_drew, cell_set_eq, cell_set_o, cell_set_b, Option.map_some, World.frozen?_setCell, decide_true, decide_false, List.not_mem_nil, not_false_eq_true, ↓xGuard_tt, Bool.not_true, Bool.not_false, ←decide_not, ↓ld_3, ↓ld_63, ↓fa_63_0, ↓fa_63_1, ↓al_63, ↓st_63, ↓bd_63_0_1, ↓bd_63_0, ↓bd_63_2_3, ↓bd_63, eq_self]
  refine head_Pack_call (Gives.to (Pack_spec _ _ _ _ _) fun w1 E1 => ?_)
  have z1 := E1.size
  try simp only [World.size_alloc, World.size_setCell, World.size_drew] at z1
  rw [a1, a2]
  simp (disch := (first | omega | decide | (simp only [World.size_alloc, World.size_setCell, World.size_drew, List.mem_cons, List.not_mem_nil, or_false, not_false_eq_true] <;> omega) | fail)) only [↓xBox_r, ↓loadK_some, ↓loadsK_s, ↓loadsK_n, ↓loadsR_s, ↓loadsR_n, ↓storesK_s, ↓storesK_n, setCells_c, setCells_n, World.setCell_alloc_at, World.setCell_alloc_past, World.cell?_alloc_at, World.cell?_alloc_past, 
      World.frozen?_alloc_at, World.frozen?_alloc_past, World.size_alloc, ↓xPick_t, ↓xPick_f, ↓xGuard_tt, ↓xGuard_ff, ↓xGuard_tf, ↓xGuard_ft, ↓xIf_t, tick_eq, tickV_eq, ne_eq, not_true_eq_false, Int.reduceAdd, Int.reduceSub, Int.reduceMul, 
      Int.reduceEq, Int.reduceLT, Int.reduceLE, Bool.false_and, Bool.true_and, Bool.and_true, Bool.and_false, ↓xBin_add', ↓xBin_sub', ↓xBin_mul', ↓xBin_quo', ↓xBin_rem', wrap_in, ↓xIf_f, ↓xIf_tt, ↓xEx0, ↓xEx1, ↓xEx2, ↓xEx3, 
      ↓xBin_eqs, ↓xBin_nes, ↓xUn_not, ↓xu8_add, ↓xu8_com, ↓xu8_eql, ↓xu16_add, ↓xu16_com, ↓xu16_eql, ↓xu32_add, ↓xu32_com, ↓xu32_eql, ↓xu64_add, ↓xu64_com, ↓xu64_eql, ↓xi64_eql, Int.toNat_natCast, Int.reduceToNat, Nat.reduceMul, 
      Nat.reduceAdd, Nat.reduceSub, Nat.mul_one, List.nil_append, List.cons_append, List.getElem?_toArray, List.getElem?_cons_zero, List.getElem?_cons_succ, cells_int, cells_bool, cells_string, cells_slice, cells_pointer, 
      cells_agg, one_int, one_bool, one_string, one_slice, one_pointer, List.setIfInBounds_toArray, List.set_cons_zero, List.set_cons_succ, ↓xDet_s, ↓xDet_ld, ↓xDet_ld2, ↓xDet_ld3, ↓xDet_ld4, World.size_drew, Nat.zero_add, 
      cell_drew, frozen_drew, cell_set_eq, cell_set_o, cell_set_b, Option.map_some, World.frozen?_setCell, decide_true, decide_false, List.not_mem_nil, not_false_eq_true, ↓xGuard_tt, Bool.not_true, Bool.not_false, ←decide_not, ↓ld_3, ↓ld_63, ↓fa_63_0, ↓fa_63_1, ↓al_63, ↓st_63, ↓bd_63_0_1, ↓bd_63_0, ↓bd_63_2_3, ↓bd_63, eq_self]
  refine head_Unpack_call (Gives.to (Unpack_spec _ _) fun w2 E2 => ?_)
  have z2 := E2.size
  try simp only [World.size_alloc, World.size_setCell, World.size_drew] at z2
  rw [b1, b2, b3, b4, b5]
  simp (disch := (first | omega | decide | (simp only [World.size_alloc, World.size_setCell, World.size_drew, List.mem_cons, List.not_mem_nil, or_false, not_false_eq_true] <;> omega) | fail)) only [↓xBox_r, ↓loadK_some, ↓loadsK_s, ↓loadsK_n, ↓loadsR_s, ↓loadsR_n, ↓storesK_s, ↓storesK_n, setCells_c, setCells_n, World.setCell_alloc_at, World.setCell_alloc_past, World.cell?_alloc_at, World.cell?_alloc_past, 
      World.frozen?_alloc_at, World.frozen?_alloc_past, World.size_alloc, ↓xPick_t, ↓xPick_f, ↓xGuard_tt, ↓xGuard_ff, ↓xGuard_tf, ↓xGuard_ft, ↓xIf_t, tick_eq, tickV_eq, ne_eq, not_true_eq_false, Int.reduceAdd, Int.reduceSub, Int.reduceMul, 
      Int.reduceEq, Int.reduceLT, Int.reduceLE, Bool.false_and, Bool.true_and, Bool.and_true, Bool.and_false, ↓xBin_add', ↓xBin_sub', ↓xBin_mul', ↓xBin_quo', ↓xBin_rem', wrap_in, ↓xIf_f, ↓xIf_tt, ↓xEx0, ↓xEx1, ↓xEx2, ↓xEx3, 
      ↓xBin_eqs, ↓xBin_nes, ↓xUn_not, ↓xu8_add, ↓xu8_com, ↓xu8_eql, ↓xu16_add, ↓xu16_com, ↓xu16_eql, ↓xu32_add, ↓xu32_com, ↓xu32_eql, ↓xu64_add, ↓xu64_com, ↓xu64_eql, ↓xi64_eql, Int.toNat_natCast, Int.reduceToNat, Nat.reduceMul, 
      Nat.reduceAdd, Nat.reduceSub, Nat.mul_one, List.nil_append, List.cons_append, List.getElem?_toArray, List.getElem?_cons_zero, List.getElem?_cons_succ, cells_int, cells_bool, cells_string, cells_slice, cells_pointer, 
      cells_agg, one_int, one_bool, one_string, one_slice, one_pointer, List.setIfInBounds_toArray, List.set_cons_zero, List.set_cons_succ, ↓xDet_s, ↓xDet_ld, ↓xDet_ld2, ↓xDet_ld3, ↓xDet_ld4, World.size_drew, Nat.zero_add, 
      cell_drew, frozen_drew, cell_set_eq, cell_set_o, cell_set_b, Option.map_some, World.frozen?_setCell, decide_true, decide_false, List.not_mem_nil, not_false_eq_true, ↓xGuard_tt, Bool.not_true, Bool.not_false, ←decide_not, ↓ld_3, ↓ld_63, ↓fa_63_0, ↓fa_63_1, ↓al_63, ↓st_63, ↓bd_63_0_1, ↓bd_63_0, ↓bd_63_2_3, ↓bd_63, eq_self]
  refine head_Pack_call (Gives.to (Pack_spec _ _ _ _ _) fun w3 E3 => ?_)
  have z3 := E3.size
  try simp only [World.size_alloc, World.size_setCell, World.size_drew] at z3
  have e3_0 : ∀ o, w3.cell? ⟨w2.heap.size, o, none⟩ = _ := fun o => E3.cell_o (by first | omega | (simp only [World.size_alloc, World.size_setCell, World.size_drew] <;> omega))
  rw [a3, a4]
  simp (disch := (first | omega | decide | (simp only [World.size_alloc, World.size_setCell, World.size_drew, List.mem_cons, List.not_mem_nil, or_false, not_false_eq_true] <;> omega) | fail)) only [↓xBox_r, ↓loadK_some, ↓loadsK_s, ↓loadsK_n, ↓loadsR_s, ↓loadsR_n, ↓storesK_s, ↓storesK_n, setCells_c, setCells_n, World.setCell_alloc_at, World.setCell_alloc_past, World.cell?_alloc_at, World.cell?_alloc_past, 
      World.frozen?_alloc_at, World.frozen?_alloc_past, World.size_alloc, ↓xPick_t, ↓xPick_f, ↓xGuard_tt, ↓xGuard_ff, ↓xGuard_tf, ↓xGuard_ft, ↓xIf_t, tick_eq, tickV_eq, ne_eq, not_true_eq_false, Int.reduceAdd, Int.reduceSub, Int.reduceMul, 
      Int.reduceEq, Int.reduceLT, Int.reduceLE, Bool.false_and, Bool.true_and, Bool.and_true, Bool.and_false, ↓xBin_add', ↓xBin_sub', ↓xBin_mul', ↓xBin_quo', ↓xBin_rem', wrap_in, ↓xIf_f, ↓xIf_tt, ↓xEx0, ↓xEx1, ↓xEx2, ↓xEx3, 
      ↓xBin_eqs, ↓xBin_nes, ↓xUn_not, ↓xu8_add, ↓xu8_com, ↓xu8_eql, ↓xu16_add, ↓xu16_com, ↓xu16_eql, ↓xu32_add, ↓xu32_com, ↓xu32_eql, ↓xu64_add, ↓xu64_com, ↓xu64_eql, ↓xi64_eql, Int.toNat_natCast, Int.reduceToNat, Nat.reduceMul, 
      Nat.reduceAdd, Nat.reduceSub, Nat.mul_one, List.nil_append, List.cons_append, List.getElem?_toArray, List.getElem?_cons_zero, List.getElem?_cons_succ, cells_int, cells_bool, cells_string, cells_slice, cells_pointer, 
      cells_agg, one_int, one_bool, one_string, one_slice, one_pointer, List.setIfInBounds_toArray, List.set_cons_zero, List.set_cons_succ, ↓xDet_s, ↓xDet_ld, ↓xDet_ld2, ↓xDet_ld3, ↓xDet_ld4, World.size_drew, Nat.zero_add, 
      cell_drew, frozen_drew, cell_set_eq, cell_set_o, cell_set_b, Option.map_some, World.frozen?_setCell, decide_true, decide_false, List.not_mem_nil, not_false_eq_true, ↓xGuard_tt, Bool.not_true, Bool.not_false, ←decide_not, ↓ld_3, ↓ld_63, ↓fa_63_0, ↓fa_63_1, ↓al_63, ↓st_63, ↓bd_63_0_1, ↓bd_63_0, ↓bd_63_2_3, ↓bd_63, e3_0]
  refine head_Unpack_call (Gives.to (Unpack_spec _ _) fun w4 E4 => ?_)
  have z4 := E4.size
  try simp only [World.size_alloc, World.size_setCell, World.size_drew] at z4
  have e4_0 : ∀ o, w4.cell? ⟨w2.heap.size, o, none⟩ = _ := fun o => E4.cell_o (by first | omega | (simp only [World.size_alloc, World.size_setCell, World.size_drew] <;> omega))
  rw [c5]
  simp (disch := (first | omega | decide | (simp only [World.size_alloc, World.size_setCell, World.size_drew, List.mem_cons, List.not_mem_nil, or_false, not_false_eq_true] <;> omega) | fail)) only [↓xBox_r, ↓loadK_some, ↓loadsK_s, ↓loadsK_n, ↓loadsR_s, ↓loadsR_n, ↓storesK_s, ↓storesK_n, setCells_c, setCells_n, World.setCell_alloc_at, World.setCell_alloc_past, World.cell?_alloc_at, World.cell?_alloc_past, 
      World.frozen?_alloc_at, World.frozen?_alloc_past, World.size_alloc, ↓xPick_t, ↓xPick_f, ↓xGuard_tt, ↓xGuard_ff, ↓xGuard_tf, ↓xGuard_ft, ↓xIf_t, tick_eq, tickV_eq, ne_eq, not_true_eq_false, Int.reduceAdd, Int.reduceSub, Int.reduceMul, 
      Int.reduceEq, Int.reduceLT, Int.reduceLE, Bool.false_and, Bool.true_and, Bool.and_true, Bool.and_false, ↓xBin_add', ↓xBin_sub', ↓xBin_mul', ↓xBin_quo', ↓xBin_rem', wrap_in, ↓xIf_f, ↓xIf_tt, ↓xEx0, ↓xEx1, ↓xEx2, ↓xEx3, 
      ↓xBin_eqs, ↓xBin_nes, ↓xUn_not, ↓xu8_add, ↓xu8_com, ↓xu8_eql, ↓xu16_add, ↓xu16_com, ↓xu16_eql, ↓xu32_add, ↓xu32_com, ↓xu32_eql, ↓xu64_add, ↓xu64_com, ↓xu64_eql, ↓xi64_eql, Int.toNat_natCast, Int.reduceToNat, Nat.reduceMul, 
      Nat.reduceAdd, Nat.reduceSub, Nat.mul_one, List.nil_append, List.cons_append, List.getElem?_toArray, List.getElem?_cons_zero, List.getElem?_cons_succ, cells_int, cells_bool, cells_string, cells_slice, cells_pointer, 
      cells_agg, one_int, one_bool, one_string, one_slice, one_pointer, List.setIfInBounds_toArray, List.set_cons_zero, List.set_cons_succ, ↓xDet_s, ↓xDet_ld, ↓xDet_ld2, ↓xDet_ld3, ↓xDet_ld4, World.size_drew, Nat.zero_add, 
      cell_drew, frozen_drew, cell_set_eq, cell_set_o, cell_set_b, Option.map_some, World.frozen?_setCell, decide_true, decide_false, List.not_mem_nil, not_false_eq_true, ↓xGuard_tt, Bool.not_true, Bool.not_false, ←decide_not, ↓ld_3, ↓ld_63, ↓fa_63_0, ↓fa_63_1, ↓al_63, ↓st_63, ↓bd_63_0_1, ↓bd_63_0, ↓bd_63_2_3, ↓bd_63, e3_0, e4_0]
  refine head_Size_call (Gives.to (Size_spec _ _ _ _ _) fun w5 E5 => ?_)
  have z5 := E5.size
  try simp only [World.size_alloc, World.size_setCell, World.size_drew] at z5
  have e5_0 : ∀ o, w5.cell? ⟨w2.heap.size, o, none⟩ = _ := fun o => E5.cell_o (by first | omega | (simp only [World.size_alloc, World.size_setCell, World.size_drew] <;> omega))
  rw [show sizeV 3 9 false 0 = 6 by decide +kernel]
  simp (disch := (first | omega | decide | (simp only [World.size_alloc, World.size_setCell, World.size_drew, List.mem_cons, List.not_mem_nil, or_false, not_false_eq_true] <;> omega) | fail)) only [↓xBox_r, ↓loadK_some, ↓loadsK_s, ↓loadsK_n, ↓loadsR_s, ↓loadsR_n, ↓storesK_s, ↓storesK_n, setCells_c, setCells_n, World.setCell_alloc_at, World.setCell_alloc_past, World.cell?_alloc_at, World.cell?_alloc_past, 
      World.frozen?_alloc_at, World.frozen?_alloc_past, World.size_alloc, ↓xPick_t, ↓xPick_f, ↓xGuard_tt, ↓xGuard_ff, ↓xGuard_tf, ↓xGuard_ft, ↓xIf_t, tick_eq, tickV_eq, ne_eq, not_true_eq_false, Int.reduceAdd, Int.reduceSub, Int.reduceMul, 
      Int.reduceEq, Int.reduceLT, Int.reduceLE, Bool.false_and, Bool.true_and, Bool.and_true, Bool.and_false, ↓xBin_add', ↓xBin_sub', ↓xBin_mul', ↓xBin_quo', ↓xBin_rem', wrap_in, ↓xIf_f, ↓xIf_tt, ↓xEx0, ↓xEx1, ↓xEx2, ↓xEx3, 
      ↓xBin_eqs, ↓xBin_nes, ↓xUn_not, ↓xu8_add, ↓xu8_com, ↓xu8_eql, ↓xu16_add, ↓xu16_com, ↓xu16_eql, ↓xu32_add, ↓xu32_com, ↓xu32_eql, ↓xu64_add, ↓xu64_com, ↓xu64_eql, ↓xi64_eql, Int.toNat_natCast, Int.reduceToNat, Nat.reduceMul, 
      Nat.reduceAdd, Nat.reduceSub, Nat.mul_one, List.nil_append, List.cons_append, List.getElem?_toArray, List.getElem?_cons_zero, List.getElem?_cons_succ, cells_int, cells_bool, cells_string, cells_slice, cells_pointer, 
      cells_agg, one_int, one_bool, one_string, one_slice, one_pointer, List.setIfInBounds_toArray, List.set_cons_zero, List.set_cons_succ, ↓xDet_s, ↓xDet_ld, ↓xDet_ld2, ↓xDet_ld3, ↓xDet_ld4, World.size_drew, Nat.zero_add, 
      cell_drew, frozen_drew, cell_set_eq, cell_set_o, cell_set_b, Option.map_some, World.frozen?_setCell, decide_true, decide_false, List.not_mem_nil, not_false_eq_true, ↓xGuard_tt, Bool.not_true, Bool.not_false, ←decide_not, ↓ld_3, ↓ld_63, ↓fa_63_0, ↓fa_63_1, ↓al_63, ↓st_63, ↓bd_63_0_1, ↓bd_63_0, ↓bd_63_2_3, ↓bd_63, e3_0, e4_0, e5_0]
  refine head_Right_call (Gives.to (Right_spec _ _ _ _ _) fun w6 E6 => ?_)
  have z6 := E6.size
  try simp only [World.size_alloc, World.size_setCell, World.size_drew] at z6
  have e6_0 : ∀ o, w6.cell? ⟨w2.heap.size, o, none⟩ = _ := fun o => E6.cell_o (by first | omega | (simp only [World.size_alloc, World.size_setCell, World.size_drew] <;> omega))
  rw [show rightV 3 9 false 0 = true by decide +kernel]
  simp (disch := (first | omega | decide | (simp only [World.size_alloc, World.size_setCell, World.size_drew, List.mem_cons, List.not_mem_nil, or_false, not_false_eq_true] <;> omega) | fail)) only [↓xBox_r, ↓loadK_some, ↓loadsK_s, ↓loadsK_n, ↓loadsR_s, ↓loadsR_n, ↓storesK_s, ↓storesK_n, setCells_c, setCells_n, World.setCell_alloc_at, World.setCell_alloc_past, World.cell?_alloc_at, World.cell?_alloc_past, 
      World.frozen?_alloc_at, World.frozen?_alloc_past, World.size_alloc, ↓xPick_t, ↓xPick_f, ↓xGuard_tt, ↓xGuard_ff, ↓xGuard_tf, ↓xGuard_ft, ↓xIf_t, tick_eq, tickV_eq, ne_eq, not_true_eq_false, Int.reduceAdd, Int.reduceSub, Int.reduceMul, 
      Int.reduceEq, Int.reduceLT, Int.reduceLE, Bool.false_and, Bool.true_and, Bool.and_true, Bool.and_false, ↓xBin_add', ↓xBin_sub', ↓xBin_mul', ↓xBin_quo', ↓xBin_rem', wrap_in, ↓xIf_f, ↓xIf_tt, ↓xEx0, ↓xEx1, ↓xEx2, ↓xEx3, 
      ↓xBin_eqs, ↓xBin_nes, ↓xUn_not, ↓xu8_add, ↓xu8_com, ↓xu8_eql, ↓xu16_add, ↓xu16_com, ↓xu16_eql, ↓xu32_add, ↓xu32_com, ↓xu32_eql, ↓xu64_add, ↓xu64_com, ↓xu64_eql, ↓xi64_eql, Int.toNat_natCast, Int.reduceToNat, Nat.reduceMul, 
      Nat.reduceAdd, Nat.reduceSub, Nat.mul_one, List.nil_append, List.cons_append, List.getElem?_toArray, List.getElem?_cons_zero, List.getElem?_cons_succ, cells_int, cells_bool, cells_string, cells_slice, cells_pointer, 
      cells_agg, one_int, one_bool, one_string, one_slice, one_pointer, List.setIfInBounds_toArray, List.set_cons_zero, List.set_cons_succ, ↓xDet_s, ↓xDet_ld, ↓xDet_ld2, ↓xDet_ld3, ↓xDet_ld4, World.size_drew, Nat.zero_add, 
      cell_drew, frozen_drew, cell_set_eq, cell_set_o, cell_set_b, Option.map_some, World.frozen?_setCell, decide_true, decide_false, List.not_mem_nil, not_false_eq_true, ↓xGuard_tt, Bool.not_true, Bool.not_false, ←decide_not, ↓ld_3, ↓ld_63, ↓fa_63_0, ↓fa_63_1, ↓al_63, ↓st_63, ↓bd_63_0_1, ↓bd_63_0, ↓bd_63_2_3, ↓bd_63, e3_0, e4_0, e5_0, e6_0]
  refine head_Right_call (Gives.to (Right_spec _ _ _ _ _) fun w7 E7 => ?_)
  have z7 := E7.size
  try simp only [World.size_alloc, World.size_setCell, World.size_drew] at z7
  have e7_0 : ∀ o, w7.cell? ⟨w2.heap.size, o, none⟩ = _ := fun o => E7.cell_o (by first | omega | (simp only [World.size_alloc, World.size_setCell, World.size_drew] <;> omega))
  rw [show rightV 65 0 false 0 = false by decide +kernel]
  simp (disch := (first | omega | decide | (simp only [World.size_alloc, World.size_setCell, World.size_drew, List.mem_cons, List.not_mem_nil, or_false, not_false_eq_true] <;> omega) | fail)) only [↓xBox_r, ↓loadK_some, ↓loadsK_s, ↓loadsK_n, ↓loadsR_s, ↓loadsR_n, ↓storesK_s, ↓storesK_n, setCells_c, setCells_n, World.setCell_alloc_at, World.setCell_alloc_past, World.cell?_alloc_at, World.cell?_alloc_past, 
      World.frozen?_alloc_at, World.frozen?_alloc_past, World.size_alloc, ↓xPick_t, ↓xPick_f, ↓xGuard_tt, ↓xGuard_ff, ↓xGuard_tf, ↓xGuard_ft, ↓xIf_t, tick_eq, tickV_eq, ne_eq, not_true_eq_false, Int.reduceAdd, Int.reduceSub, Int.reduceMul, 
      Int.reduceEq, Int.reduceLT, Int.reduceLE, Bool.false_and, Bool.true_and, Bool.and_true, Bool.and_false, ↓xBin_add', ↓xBin_sub', ↓xBin_mul', ↓xBin_quo', ↓xBin_rem', wrap_in, ↓xIf_f, ↓xIf_tt, ↓xEx0, ↓xEx1, ↓xEx2, ↓xEx3, 
      ↓xBin_eqs, ↓xBin_nes, ↓xUn_not, ↓xu8_add, ↓xu8_com, ↓xu8_eql, ↓xu16_add, ↓xu16_com, ↓xu16_eql, ↓xu32_add, ↓xu32_com, ↓xu32_eql, ↓xu64_add, ↓xu64_com, ↓xu64_eql, ↓xi64_eql, Int.toNat_natCast, Int.reduceToNat, Nat.reduceMul, 
      Nat.reduceAdd, Nat.reduceSub, Nat.mul_one, List.nil_append, List.cons_append, List.getElem?_toArray, List.getElem?_cons_zero, List.getElem?_cons_succ, cells_int, cells_bool, cells_string, cells_slice, cells_pointer, 
      cells_agg, one_int, one_bool, one_string, one_slice, one_pointer, List.setIfInBounds_toArray, List.set_cons_zero, List.set_cons_succ, ↓xDet_s, ↓xDet_ld, ↓xDet_ld2, ↓xDet_ld3, ↓xDet_ld4, World.size_drew, Nat.zero_add, 
      cell_drew, frozen_drew, cell_set_eq, cell_set_o, cell_set_b, Option.map_some, World.frozen?_setCell, decide_true, decide_false, List.not_mem_nil, not_false_eq_true, ↓xGuard_tt, Bool.not_true, Bool.not_false, ←decide_not, ↓ld_3, ↓ld_63, ↓fa_63_0, ↓fa_63_1, ↓al_63, ↓st_63, ↓bd_63_0_1, ↓bd_63_0, ↓bd_63_2_3, ↓bd_63, e3_0, e4_0, e5_0, e6_0, e7_0]
  exact ⟨by trivial, by (repeat (first | with_reducible exact Ext.refl _ _ | with_reducible assumption | with_reducible refine Ext.alloc' ?_ _ | with_reducible refine Ext.drew' ?_ | with_reducible refine Ext.set' ?_ ?_ | exact .inr (by first | omega | (simp only [World.size_alloc, World.size_drew, World.size_setCell] <;> omega)) | refine Ext.trans ?_ (by with_reducible assumption)))⟩

theorem HeadBack_spec (p b : Int) (m : Bool) (t : Int) (w : World) : Gives Try.prog n_loamlaw14_HeadBack #[hd p b m t] w (.bool true) := by
  refine loamlaw14_HeadBack_of ?_
  unfold loamlaw14_HeadBack
  simp (disch := (first | omega | decide | (simp only [World.size_alloc, World.size_setCell, World.size_drew, List.mem_cons, List.not_mem_nil, or_false, not_false_eq_true] <;> omega) | fail)) only [↓xBox_r, ↓loadK_some, ↓loadsK_s, ↓loadsK_n, ↓loadsR_s, ↓loadsR_n, ↓storesK_s, ↓storesK_n, setCells_c, setCells_n, World.setCell_alloc_at, World.setCell_alloc_past, World.cell?_alloc_at, World.cell?_alloc_past, 
      World.frozen?_alloc_at, World.frozen?_alloc_past, World.size_alloc, ↓xPick_t, ↓xPick_f, ↓xGuard_tt, ↓xGuard_ff, ↓xGuard_tf, ↓xGuard_ft, ↓xIf_t, tick_eq, tickV_eq, ne_eq, not_true_eq_false, Int.reduceAdd, Int.reduceSub, Int.reduceMul, 
      Int.reduceEq, Int.reduceLT, Int.reduceLE, Bool.false_and, Bool.true_and, Bool.and_true, Bool.and_false, ↓xBin_add', ↓xBin_sub', ↓xBin_mul', ↓xBin_quo', ↓xBin_rem', wrap_in, ↓xIf_f, ↓xIf_tt, ↓xEx0, ↓xEx1, ↓xEx2, ↓xEx3, 
      ↓xBin_eqs, ↓xBin_nes, ↓xUn_not, ↓xu8_com, ↓xu8_eql, ↓xu8_neq, ↓xu16_com, ↓xu16_eql, ↓xu16_neq, ↓xu32_com, ↓xu32_eql, ↓xu32_neq, ↓xu64_com, ↓xu64_eql, ↓xu64_neq, ↓xi64_eql, ↓xi64_neq, ↓xi64_neg, Int.toNat_natCast, 
      Int.reduceToNat, Nat.reduceMul, Nat.reduceAdd, Nat.reduceSub, Nat.mul_one, List.nil_append, List.cons_append, List.getElem?_toArray, List.getElem?_cons_zero, List.getElem?_cons_succ, cells_int, cells_bool, cells_string, 
      cells_slice, cells_pointer, cells_agg, one_int, one_bool, one_string, one_slice, one_pointer, List.setIfInBounds_toArray, List.set_cons_zero, List.set_cons_succ, ↓xDet_s, ↓xDet_ld, ↓xDet_ld2, ↓xDet_ld3, ↓xDet_ld4, 
      World.size_drew, Nat.zero_add, cell_drew, frozen_drew, cell_set_eq, cell_set_o, cell_set_b, Option.map_some, World.frozen?_setCell, decide_true, decide_false, List.not_mem_nil, not_false_eq_true, ↓xGuard_tt, Bool.not_true, 
      Bool.not_false, ←decide_not, ↓ld_63, ↓al_63, ↓st_63, ↓eb_4, ↓es_63, ↓nb_4, eq_self]
  refine loamlaw14_known_call (Gives.to (known14_spec _) fun w1 E1 => ?_)
  have z1 := E1.size
  try simp only [World.size_alloc, World.size_setCell, World.size_drew] at z1
  have e1_0 : ∀ o, w1.cell? ⟨w.heap.size, o, none⟩ = _ := fun o => E1.cell_o (by first | omega | (simp only [World.size_alloc, World.size_setCell, World.size_drew] <;> omega))
  simp (disch := (first | omega | decide | (simp only [World.size_alloc, World.size_setCell, World.size_drew, List.mem_cons, List.not_mem_nil, or_false, not_false_eq_true] <;> omega) | fail)) only [↓xBox_r, ↓loadK_some, ↓loadsK_s, ↓loadsK_n, ↓loadsR_s, ↓loadsR_n, ↓storesK_s, ↓storesK_n, setCells_c, setCells_n, World.setCell_alloc_at, World.setCell_alloc_past, World.cell?_alloc_at, World.cell?_alloc_past, 
      World.frozen?_alloc_at, World.frozen?_alloc_past, World.size_alloc, ↓xPick_t, ↓xPick_f, ↓xGuard_tt, ↓xGuard_ff, ↓xGuard_tf, ↓xGuard_ft, ↓xIf_t, tick_eq, tickV_eq, ne_eq, not_true_eq_false, Int.reduceAdd, Int.reduceSub, Int.reduceMul, 
      Int.reduceEq, Int.reduceLT, Int.reduceLE, Bool.false_and, Bool.true_and, Bool.and_true, Bool.and_false, ↓xBin_add', ↓xBin_sub', ↓xBin_mul', ↓xBin_quo', ↓xBin_rem', wrap_in, ↓xIf_f, ↓xIf_tt, ↓xEx0, ↓xEx1, ↓xEx2, ↓xEx3, 
      ↓xBin_eqs, ↓xBin_nes, ↓xUn_not, ↓xu8_com, ↓xu8_eql, ↓xu8_neq, ↓xu16_com, ↓xu16_eql, ↓xu16_neq, ↓xu32_com, ↓xu32_eql, ↓xu32_neq, ↓xu64_com, ↓xu64_eql, ↓xu64_neq, ↓xi64_eql, ↓xi64_neq, ↓xi64_neg, Int.toNat_natCast, 
      Int.reduceToNat, Nat.reduceMul, Nat.reduceAdd, Nat.reduceSub, Nat.mul_one, List.nil_append, List.cons_append, List.getElem?_toArray, List.getElem?_cons_zero, List.getElem?_cons_succ, cells_int, cells_bool, cells_string, 
      cells_slice, cells_pointer, cells_agg, one_int, one_bool, one_string, one_slice, one_pointer, List.setIfInBounds_toArray, List.set_cons_zero, List.set_cons_succ, ↓xDet_s, ↓xDet_ld, ↓xDet_ld2, ↓xDet_ld3, ↓xDet_ld4, 
      World.size_drew, Nat.zero_add, cell_drew, frozen_drew, cell_set_eq, cell_set_o, cell_set_b, Option.map_some, World.frozen?_setCell, decide_true, decide_false, List.not_mem_nil, not_false_eq_true, ↓xGuard_tt, Bool.not_true, 
      Bool.not_false, ←decide_not, ↓ld_63, ↓al_63, ↓st_63, ↓eb_4, ↓es_63, ↓nb_4, e1_0]
  refine head_Pack_call (Gives.to (Pack_spec _ _ _ _ _) fun w2 E2 => ?_)
  have z2 := E2.size
  try simp only [World.size_alloc, World.size_setCell, World.size_drew] at z2
  have e2_0 : ∀ o, w2.cell? ⟨w.heap.size, o, none⟩ = _ := fun o => E2.cell_o (by first | omega | (simp only [World.size_alloc, World.size_setCell, World.size_drew] <;> omega))
  simp (disch := (first | omega | decide | (simp only [World.size_alloc, World.size_setCell, World.size_drew, List.mem_cons, List.not_mem_nil, or_false, not_false_eq_true] <;> omega) | fail)) only [↓xBox_r, ↓loadK_some, ↓loadsK_s, ↓loadsK_n, ↓loadsR_s, ↓loadsR_n, ↓storesK_s, ↓storesK_n, setCells_c, setCells_n, World.setCell_alloc_at, World.setCell_alloc_past, World.cell?_alloc_at, World.cell?_alloc_past, 
      World.frozen?_alloc_at, World.frozen?_alloc_past, World.size_alloc, ↓xPick_t, ↓xPick_f, ↓xGuard_tt, ↓xGuard_ff, ↓xGuard_tf, ↓xGuard_ft, ↓xIf_t, tick_eq, tickV_eq, ne_eq, not_true_eq_false, Int.reduceAdd, Int.reduceSub, Int.reduceMul, 
      Int.reduceEq, Int.reduceLT, Int.reduceLE, Bool.false_and, Bool.true_and, Bool.and_true, Bool.and_false, ↓xBin_add', ↓xBin_sub', ↓xBin_mul', ↓xBin_quo', ↓xBin_rem', wrap_in, ↓xIf_f, ↓xIf_tt, ↓xEx0, ↓xEx1, ↓xEx2, ↓xEx3, 
      ↓xBin_eqs, ↓xBin_nes, ↓xUn_not, ↓xu8_com, ↓xu8_eql, ↓xu8_neq, ↓xu16_com, ↓xu16_eql, ↓xu16_neq, ↓xu32_com, ↓xu32_eql, ↓xu32_neq, ↓xu64_com, ↓xu64_eql, ↓xu64_neq, ↓xi64_eql, ↓xi64_neq, ↓xi64_neg, Int.toNat_natCast, 
      Int.reduceToNat, Nat.reduceMul, Nat.reduceAdd, Nat.reduceSub, Nat.mul_one, List.nil_append, List.cons_append, List.getElem?_toArray, List.getElem?_cons_zero, List.getElem?_cons_succ, cells_int, cells_bool, cells_string, 
      cells_slice, cells_pointer, cells_agg, one_int, one_bool, one_string, one_slice, one_pointer, List.setIfInBounds_toArray, List.set_cons_zero, List.set_cons_succ, ↓xDet_s, ↓xDet_ld, ↓xDet_ld2, ↓xDet_ld3, ↓xDet_ld4, 
      World.size_drew, Nat.zero_add, cell_drew, frozen_drew, cell_set_eq, cell_set_o, cell_set_b, Option.map_some, World.frozen?_setCell, decide_true, decide_false, List.not_mem_nil, not_false_eq_true, ↓xGuard_tt, Bool.not_true, 
      Bool.not_false, ←decide_not, ↓ld_63, ↓al_63, ↓st_63, ↓eb_4, ↓es_63, ↓nb_4, e1_0, e2_0]
  refine loamlaw14_Of_call (Gives.to (Of14_spec _ _ _ _ _) fun w3 E3 => ?_)
  have z3 := E3.size
  try simp only [World.size_alloc, World.size_setCell, World.size_drew] at z3
  have e3_0 : ∀ o, w3.cell? ⟨w.heap.size, o, none⟩ = _ := fun o => E3.cell_o (by first | omega | (simp only [World.size_alloc, World.size_setCell, World.size_drew] <;> omega))
  simp (disch := (first | omega | decide | (simp only [World.size_alloc, World.size_setCell, World.size_drew, List.mem_cons, List.not_mem_nil, or_false, not_false_eq_true] <;> omega) | fail)) only [↓xBox_r, ↓loadK_some, ↓loadsK_s, ↓loadsK_n, ↓loadsR_s, ↓loadsR_n, ↓storesK_s, ↓storesK_n, setCells_c, setCells_n, World.setCell_alloc_at, World.setCell_alloc_past, World.cell?_alloc_at, World.cell?_alloc_past, 
      World.frozen?_alloc_at, World.frozen?_alloc_past, World.size_alloc, ↓xPick_t, ↓xPick_f, ↓xGuard_tt, ↓xGuard_ff, ↓xGuard_tf, ↓xGuard_ft, ↓xIf_t, tick_eq, tickV_eq, ne_eq, not_true_eq_false, Int.reduceAdd, Int.reduceSub, Int.reduceMul, 
      Int.reduceEq, Int.reduceLT, Int.reduceLE, Bool.false_and, Bool.true_and, Bool.and_true, Bool.and_false, ↓xBin_add', ↓xBin_sub', ↓xBin_mul', ↓xBin_quo', ↓xBin_rem', wrap_in, ↓xIf_f, ↓xIf_tt, ↓xEx0, ↓xEx1, ↓xEx2, ↓xEx3, 
      ↓xBin_eqs, ↓xBin_nes, ↓xUn_not, ↓xu8_com, ↓xu8_eql, ↓xu8_neq, ↓xu16_com, ↓xu16_eql, ↓xu16_neq, ↓xu32_com, ↓xu32_eql, ↓xu32_neq, ↓xu64_com, ↓xu64_eql, ↓xu64_neq, ↓xi64_eql, ↓xi64_neq, ↓xi64_neg, Int.toNat_natCast, 
      Int.reduceToNat, Nat.reduceMul, Nat.reduceAdd, Nat.reduceSub, Nat.mul_one, List.nil_append, List.cons_append, List.getElem?_toArray, List.getElem?_cons_zero, List.getElem?_cons_succ, cells_int, cells_bool, cells_string, 
      cells_slice, cells_pointer, cells_agg, one_int, one_bool, one_string, one_slice, one_pointer, List.setIfInBounds_toArray, List.set_cons_zero, List.set_cons_succ, ↓xDet_s, ↓xDet_ld, ↓xDet_ld2, ↓xDet_ld3, ↓xDet_ld4, 
      World.size_drew, Nat.zero_add, cell_drew, frozen_drew, cell_set_eq, cell_set_o, cell_set_b, Option.map_some, World.frozen?_setCell, decide_true, decide_false, List.not_mem_nil, not_false_eq_true, ↓xGuard_tt, Bool.not_true, 
      Bool.not_false, ←decide_not, ↓ld_63, ↓al_63, ↓st_63, ↓eb_4, ↓es_63, ↓nb_4, e1_0, e2_0, e3_0]
  refine loamref14_Pack_call (Gives.to (rPack_spec _ _ _ _ _) fun w4 E4 => ?_)
  have z4 := E4.size
  try simp only [World.size_alloc, World.size_setCell, World.size_drew] at z4
  have e4_0 : ∀ o, w4.cell? ⟨w.heap.size, o, none⟩ = _ := fun o => E4.cell_o (by first | omega | (simp only [World.size_alloc, World.size_setCell, World.size_drew] <;> omega))
  simp (disch := (first | omega | decide | (simp only [World.size_alloc, World.size_setCell, World.size_drew, List.mem_cons, List.not_mem_nil, or_false, not_false_eq_true] <;> omega) | fail)) only [↓xBox_r, ↓loadK_some, ↓loadsK_s, ↓loadsK_n, ↓loadsR_s, ↓loadsR_n, ↓storesK_s, ↓storesK_n, setCells_c, setCells_n, World.setCell_alloc_at, World.setCell_alloc_past, World.cell?_alloc_at, World.cell?_alloc_past, 
      World.frozen?_alloc_at, World.frozen?_alloc_past, World.size_alloc, ↓xPick_t, ↓xPick_f, ↓xGuard_tt, ↓xGuard_ff, ↓xGuard_tf, ↓xGuard_ft, ↓xIf_t, tick_eq, tickV_eq, ne_eq, not_true_eq_false, Int.reduceAdd, Int.reduceSub, Int.reduceMul, 
      Int.reduceEq, Int.reduceLT, Int.reduceLE, Bool.false_and, Bool.true_and, Bool.and_true, Bool.and_false, ↓xBin_add', ↓xBin_sub', ↓xBin_mul', ↓xBin_quo', ↓xBin_rem', wrap_in, ↓xIf_f, ↓xIf_tt, ↓xEx0, ↓xEx1, ↓xEx2, ↓xEx3, 
      ↓xBin_eqs, ↓xBin_nes, ↓xUn_not, ↓xu8_com, ↓xu8_eql, ↓xu8_neq, ↓xu16_com, ↓xu16_eql, ↓xu16_neq, ↓xu32_com, ↓xu32_eql, ↓xu32_neq, ↓xu64_com, ↓xu64_eql, ↓xu64_neq, ↓xi64_eql, ↓xi64_neq, ↓xi64_neg, Int.toNat_natCast, 
      Int.reduceToNat, Nat.reduceMul, Nat.reduceAdd, Nat.reduceSub, Nat.mul_one, List.nil_append, List.cons_append, List.getElem?_toArray, List.getElem?_cons_zero, List.getElem?_cons_succ, cells_int, cells_bool, cells_string, 
      cells_slice, cells_pointer, cells_agg, one_int, one_bool, one_string, one_slice, one_pointer, List.setIfInBounds_toArray, List.set_cons_zero, List.set_cons_succ, ↓xDet_s, ↓xDet_ld, ↓xDet_ld2, ↓xDet_ld3, ↓xDet_ld4, 
      World.size_drew, Nat.zero_add, cell_drew, frozen_drew, cell_set_eq, cell_set_o, cell_set_b, Option.map_some, World.frozen?_setCell, decide_true, decide_false, List.not_mem_nil, not_false_eq_true, ↓xGuard_tt, Bool.not_true, 
      Bool.not_false, ←decide_not, ↓ld_63, ↓al_63, ↓st_63, ↓eb_4, ↓es_63, ↓nb_4, e1_0, e2_0, e3_0, e4_0]
  refine xDraw_ext [] [] ?_
  simp (disch := (first | omega | decide | (simp only [World.size_alloc, World.size_setCell, World.size_drew, List.mem_cons, List.not_mem_nil, or_false, not_false_eq_true] <;> omega) | fail)) only [↓xBox_r, ↓loadK_some, ↓loadsK_s, ↓loadsK_n, ↓loadsR_s, ↓loadsR_n, ↓storesK_s, ↓storesK_n, setCells_c, setCells_n, World.setCell_alloc_at, World.setCell_alloc_past, World.cell?_alloc_at, World.cell?_alloc_past, 
      World.frozen?_alloc_at, World.frozen?_alloc_past, World.size_alloc, ↓xPick_t, ↓xPick_f, ↓xGuard_tt, ↓xGuard_ff, ↓xGuard_tf, ↓xGuard_ft, ↓xIf_t, tick_eq, tickV_eq, ne_eq, not_true_eq_false, Int.reduceAdd, Int.reduceSub, Int.reduceMul, 
      Int.reduceEq, Int.reduceLT, Int.reduceLE, Bool.false_and, Bool.true_and, Bool.and_true, Bool.and_false, ↓xBin_add', ↓xBin_sub', ↓xBin_mul', ↓xBin_quo', ↓xBin_rem', wrap_in, ↓xIf_f, ↓xIf_tt, ↓xEx0, ↓xEx1, ↓xEx2, ↓xEx3, 
      ↓xBin_eqs, ↓xBin_nes, ↓xUn_not, ↓xu8_com, ↓xu8_eql, ↓xu8_neq, ↓xu16_com, ↓xu16_eql, ↓xu16_neq, ↓xu32_com, ↓xu32_eql, ↓xu32_neq, ↓xu64_com, ↓xu64_eql, ↓xu64_neq, ↓xi64_eql, ↓xi64_neq, ↓xi64_neg, Int.toNat_natCast, 
      Int.reduceToNat, Nat.reduceMul, Nat.reduceAdd, Nat.reduceSub, Nat.mul_one, List.nil_append, List.cons_append, List.getElem?_toArray, List.getElem?_cons_zero, List.getElem?_cons_succ, cells_int, cells_bool, cells_string, 
      cells_slice, cells_pointer, cells_agg, one_int, one_bool, one_string, one_slice, one_pointer, List.setIfInBounds_toArray, List.set_cons_zero, List.set_cons_succ, ↓xDet_s, ↓xDet_ld, ↓xDet_ld2, ↓xDet_ld3, ↓xDet_ld4, 
      World.size_drew, Nat.zero_add, cell_drew, frozen_drew, cell_set_eq, cell_set_o, cell_set_b, Option.map_some, World.frozen?_setCell, decide_true, decide_false, List.not_mem_nil, not_false_eq_true, ↓xGuard_tt, Bool.not_true, 
      Bool.not_false, ←decide_not, ↓ld_63, ↓al_63, ↓st_63, ↓eb_4, ↓es_63, ↓nb_4, e1_0, e2_0, e3_0, e4_0]
  apply xDet_x
  · exact fun w hw => head_Right_call (Gives.lq (Right_spec _ _ _ _ _))
  simp (disch := (first | omega | decide | (simp only [World.size_alloc, World.size_setCell, World.size_drew, List.mem_cons, List.not_mem_nil, or_false, not_false_eq_true] <;> omega) | fail)) only [↓xBox_r, ↓loadK_some, ↓loadsK_s, ↓loadsK_n, ↓loadsR_s, ↓loadsR_n, ↓storesK_s, ↓storesK_n, setCells_c, setCells_n, World.setCell_alloc_at, World.setCell_alloc_past, World.cell?_alloc_at, World.cell?_alloc_past, 
      World.frozen?_alloc_at, World.frozen?_alloc_past, World.size_alloc, ↓xPick_t, ↓xPick_f, ↓xGuard_tt, ↓xGuard_ff, ↓xGuard_tf, ↓xGuard_ft, ↓xIf_t, tick_eq, tickV_eq, ne_eq, not_true_eq_false, Int.reduceAdd, Int.reduceSub, Int.reduceMul, 
      Int.reduceEq, Int.reduceLT, Int.reduceLE, Bool.false_and, Bool.true_and, Bool.and_true, Bool.and_false, ↓xBin_add', ↓xBin_sub', ↓xBin_mul', ↓xBin_quo', ↓xBin_rem', wrap_in, ↓xIf_f, ↓xIf_tt, ↓xEx0, ↓xEx1, ↓xEx2, ↓xEx3, 
      ↓xBin_eqs, ↓xBin_nes, ↓xUn_not, ↓xu8_com, ↓xu8_eql, ↓xu8_neq, ↓xu16_com, ↓xu16_eql, ↓xu16_neq, ↓xu32_com, ↓xu32_eql, ↓xu32_neq, ↓xu64_com, ↓xu64_eql, ↓xu64_neq, ↓xi64_eql, ↓xi64_neq, ↓xi64_neg, Int.toNat_natCast, 
      Int.reduceToNat, Nat.reduceMul, Nat.reduceAdd, Nat.reduceSub, Nat.mul_one, List.nil_append, List.cons_append, List.getElem?_toArray, List.getElem?_cons_zero, List.getElem?_cons_succ, cells_int, cells_bool, cells_string, 
      cells_slice, cells_pointer, cells_agg, one_int, one_bool, one_string, one_slice, one_pointer, List.setIfInBounds_toArray, List.set_cons_zero, List.set_cons_succ, ↓xDet_s, ↓xDet_ld, ↓xDet_ld2, ↓xDet_ld3, ↓xDet_ld4, 
      World.size_drew, Nat.zero_add, cell_drew, frozen_drew, cell_set_eq, cell_set_o, cell_set_b, Option.map_some, World.frozen?_setCell, decide_true, decide_false, List.not_mem_nil, not_false_eq_true, ↓xGuard_tt, Bool.not_true, 
      Bool.not_false, ←decide_not, ↓ld_63, ↓al_63, ↓st_63, ↓eb_4, ↓es_63, ↓nb_4, e1_0, e2_0, e3_0, e4_0]
  apply xDet_x
  · exact fun w hw => loamlaw14_Of_call (Gives.lq (Of14_spec _ _ _ _ _))
  simp (disch := (first | omega | decide | (simp only [World.size_alloc, World.size_setCell, World.size_drew, List.mem_cons, List.not_mem_nil, or_false, not_false_eq_true] <;> omega) | fail)) only [↓xBox_r, ↓loadK_some, ↓loadsK_s, ↓loadsK_n, ↓loadsR_s, ↓loadsR_n, ↓storesK_s, ↓storesK_n, setCells_c, setCells_n, World.setCell_alloc_at, World.setCell_alloc_past, World.cell?_alloc_at, World.cell?_alloc_past, 
      World.frozen?_alloc_at, World.frozen?_alloc_past, World.size_alloc, ↓xPick_t, ↓xPick_f, ↓xGuard_tt, ↓xGuard_ff, ↓xGuard_tf, ↓xGuard_ft, ↓xIf_t, tick_eq, tickV_eq, ne_eq, not_true_eq_false, Int.reduceAdd, Int.reduceSub, Int.reduceMul, 
      Int.reduceEq, Int.reduceLT, Int.reduceLE, Bool.false_and, Bool.true_and, Bool.and_true, Bool.and_false, ↓xBin_add', ↓xBin_sub', ↓xBin_mul', ↓xBin_quo', ↓xBin_rem', wrap_in, ↓xIf_f, ↓xIf_tt, ↓xEx0, ↓xEx1, ↓xEx2, ↓xEx3, 
      ↓xBin_eqs, ↓xBin_nes, ↓xUn_not, ↓xu8_com, ↓xu8_eql, ↓xu8_neq, ↓xu16_com, ↓xu16_eql, ↓xu16_neq, ↓xu32_com, ↓xu32_eql, ↓xu32_neq, ↓xu64_com, ↓xu64_eql, ↓xu64_neq, ↓xi64_eql, ↓xi64_neq, ↓xi64_neg, Int.toNat_natCast, 
      Int.reduceToNat, Nat.reduceMul, Nat.reduceAdd, Nat.reduceSub, Nat.mul_one, List.nil_append, List.cons_append, List.getElem?_toArray, List.getElem?_cons_zero, List.getElem?_cons_succ, cells_int, cells_bool, cells_string, 
      cells_slice, cells_pointer, cells_agg, one_int, one_bool, one_string, one_slice, one_pointer, List.setIfInBounds_toArray, List.set_cons_zero, List.set_cons_succ, ↓xDet_s, ↓xDet_ld, ↓xDet_ld2, ↓xDet_ld3, ↓xDet_ld4, 
      World.size_drew, Nat.zero_add, cell_drew, frozen_drew, cell_set_eq, cell_set_o, cell_set_b, Option.map_some, World.frozen?_setCell, decide_true, decide_false, List.not_mem_nil, not_false_eq_true, ↓xGuard_tt, Bool.not_true, 
      Bool.not_false, ←decide_not, ↓ld_63, ↓al_63, ↓st_63, ↓eb_4, ↓es_63, ↓nb_4, e1_0, e2_0, e3_0, e4_0]
  apply xDet_x
  · exact fun w hw => loamref14_Right_call (Gives.lq (rRight_spec _ _ _ _ _))
  simp (disch := (first | omega | decide | (simp only [World.size_alloc, World.size_setCell, World.size_drew, List.mem_cons, List.not_mem_nil, or_false, not_false_eq_true] <;> omega) | fail)) only [↓xBox_r, ↓loadK_some, ↓loadsK_s, ↓loadsK_n, ↓loadsR_s, ↓loadsR_n, ↓storesK_s, ↓storesK_n, setCells_c, setCells_n, World.setCell_alloc_at, World.setCell_alloc_past, World.cell?_alloc_at, World.cell?_alloc_past, 
      World.frozen?_alloc_at, World.frozen?_alloc_past, World.size_alloc, ↓xPick_t, ↓xPick_f, ↓xGuard_tt, ↓xGuard_ff, ↓xGuard_tf, ↓xGuard_ft, ↓xIf_t, tick_eq, tickV_eq, ne_eq, not_true_eq_false, Int.reduceAdd, Int.reduceSub, Int.reduceMul, 
      Int.reduceEq, Int.reduceLT, Int.reduceLE, Bool.false_and, Bool.true_and, Bool.and_true, Bool.and_false, ↓xBin_add', ↓xBin_sub', ↓xBin_mul', ↓xBin_quo', ↓xBin_rem', wrap_in, ↓xIf_f, ↓xIf_tt, ↓xEx0, ↓xEx1, ↓xEx2, ↓xEx3, 
      ↓xBin_eqs, ↓xBin_nes, ↓xUn_not, ↓xu8_com, ↓xu8_eql, ↓xu8_neq, ↓xu16_com, ↓xu16_eql, ↓xu16_neq, ↓xu32_com, ↓xu32_eql, ↓xu32_neq, ↓xu64_com, ↓xu64_eql, ↓xu64_neq, ↓xi64_eql, ↓xi64_neq, ↓xi64_neg, Int.toNat_natCast, 
      Int.reduceToNat, Nat.reduceMul, Nat.reduceAdd, Nat.reduceSub, Nat.mul_one, List.nil_append, List.cons_append, List.getElem?_toArray, List.getElem?_cons_zero, List.getElem?_cons_succ, cells_int, cells_bool, cells_string, 
      cells_slice, cells_pointer, cells_agg, one_int, one_bool, one_string, one_slice, one_pointer, List.setIfInBounds_toArray, List.set_cons_zero, List.set_cons_succ, ↓xDet_s, ↓xDet_ld, ↓xDet_ld2, ↓xDet_ld3, ↓xDet_ld4, 
      World.size_drew, Nat.zero_add, cell_drew, frozen_drew, cell_set_eq, cell_set_o, cell_set_b, Option.map_some, World.frozen?_setCell, decide_true, decide_false, List.not_mem_nil, not_false_eq_true, ↓xGuard_tt, Bool.not_true, 
      Bool.not_false, ←decide_not, ↓ld_63, ↓al_63, ↓st_63, ↓eb_4, ↓es_63, ↓nb_4, e1_0, e2_0, e3_0, e4_0, beq_self_eq_true]
  apply xDet_x
  · exact fun w hw => head_Size_call (Gives.lq (Size_spec _ _ _ _ _))
  simp (disch := (first | omega | decide | (simp only [World.size_alloc, World.size_setCell, World.size_drew, List.mem_cons, List.not_mem_nil, or_false, not_false_eq_true] <;> omega) | fail)) only [↓xBox_r, ↓loadK_some, ↓loadsK_s, ↓loadsK_n, ↓loadsR_s, ↓loadsR_n, ↓storesK_s, ↓storesK_n, setCells_c, setCells_n, World.setCell_alloc_at, World.setCell_alloc_past, World.cell?_alloc_at, World.cell?_alloc_past, 
      World.frozen?_alloc_at, World.frozen?_alloc_past, World.size_alloc, ↓xPick_t, ↓xPick_f, ↓xGuard_tt, ↓xGuard_ff, ↓xGuard_tf, ↓xGuard_ft, ↓xIf_t, tick_eq, tickV_eq, ne_eq, not_true_eq_false, Int.reduceAdd, Int.reduceSub, Int.reduceMul, 
      Int.reduceEq, Int.reduceLT, Int.reduceLE, Bool.false_and, Bool.true_and, Bool.and_true, Bool.and_false, ↓xBin_add', ↓xBin_sub', ↓xBin_mul', ↓xBin_quo', ↓xBin_rem', wrap_in, ↓xIf_f, ↓xIf_tt, ↓xEx0, ↓xEx1, ↓xEx2, ↓xEx3, 
      ↓xBin_eqs, ↓xBin_nes, ↓xUn_not, ↓xu8_com, ↓xu8_eql, ↓xu8_neq, ↓xu16_com, ↓xu16_eql, ↓xu16_neq, ↓xu32_com, ↓xu32_eql, ↓xu32_neq, ↓xu64_com, ↓xu64_eql, ↓xu64_neq, ↓xi64_eql, ↓xi64_neq, ↓xi64_neg, Int.toNat_natCast, 
      Int.reduceToNat, Nat.reduceMul, Nat.reduceAdd, Nat.reduceSub, Nat.mul_one, List.nil_append, List.cons_append, List.getElem?_toArray, List.getElem?_cons_zero, List.getElem?_cons_succ, cells_int, cells_bool, cells_string, 
      cells_slice, cells_pointer, cells_agg, one_int, one_bool, one_string, one_slice, one_pointer, List.setIfInBounds_toArray, List.set_cons_zero, List.set_cons_succ, ↓xDet_s, ↓xDet_ld, ↓xDet_ld2, ↓xDet_ld3, ↓xDet_ld4, 
      World.size_drew, Nat.zero_add, cell_drew, frozen_drew, cell_set_eq, cell_set_o, cell_set_b, Option.map_some, World.frozen?_setCell, decide_true, decide_false, List.not_mem_nil, not_false_eq_true, ↓xGuard_tt, Bool.not_true, 
      Bool.not_false, ←decide_not, ↓ld_63, ↓al_63, ↓st_63, ↓eb_4, ↓es_63, ↓nb_4, e1_0, e2_0, e3_0, e4_0, beq_self_eq_true]
  apply xDet_x
  · exact fun w hw => loamlaw14_Of_call (Gives.lq (Of14_spec _ _ _ _ _))
  simp (disch := (first | omega | decide | (simp only [World.size_alloc, World.size_setCell, World.size_drew, List.mem_cons, List.not_mem_nil, or_false, not_false_eq_true] <;> omega) | fail)) only [↓xBox_r, ↓loadK_some, ↓loadsK_s, ↓loadsK_n, ↓loadsR_s, ↓loadsR_n, ↓storesK_s, ↓storesK_n, setCells_c, setCells_n, World.setCell_alloc_at, World.setCell_alloc_past, World.cell?_alloc_at, World.cell?_alloc_past, 
      World.frozen?_alloc_at, World.frozen?_alloc_past, World.size_alloc, ↓xPick_t, ↓xPick_f, ↓xGuard_tt, ↓xGuard_ff, ↓xGuard_tf, ↓xGuard_ft, ↓xIf_t, tick_eq, tickV_eq, ne_eq, not_true_eq_false, Int.reduceAdd, Int.reduceSub, Int.reduceMul, 
      Int.reduceEq, Int.reduceLT, Int.reduceLE, Bool.false_and, Bool.true_and, Bool.and_true, Bool.and_false, ↓xBin_add', ↓xBin_sub', ↓xBin_mul', ↓xBin_quo', ↓xBin_rem', wrap_in, ↓xIf_f, ↓xIf_tt, ↓xEx0, ↓xEx1, ↓xEx2, ↓xEx3, 
      ↓xBin_eqs, ↓xBin_nes, ↓xUn_not, ↓xu8_com, ↓xu8_eql, ↓xu8_neq, ↓xu16_com, ↓xu16_eql, ↓xu16_neq, ↓xu32_com, ↓xu32_eql, ↓xu32_neq, ↓xu64_com, ↓xu64_eql, ↓xu64_neq, ↓xi64_eql, ↓xi64_neq, ↓xi64_neg, Int.toNat_natCast, 
      Int.reduceToNat, Nat.reduceMul, Nat.reduceAdd, Nat.reduceSub, Nat.mul_one, List.nil_append, List.cons_append, List.getElem?_toArray, List.getElem?_cons_zero, List.getElem?_cons_succ, cells_int, cells_bool, cells_string, 
      cells_slice, cells_pointer, cells_agg, one_int, one_bool, one_string, one_slice, one_pointer, List.setIfInBounds_toArray, List.set_cons_zero, List.set_cons_succ, ↓xDet_s, ↓xDet_ld, ↓xDet_ld2, ↓xDet_ld3, ↓xDet_ld4, 
      World.size_drew, Nat.zero_add, cell_drew, frozen_drew, cell_set_eq, cell_set_o, cell_set_b, Option.map_some, World.frozen?_setCell, decide_true, decide_false, List.not_mem_nil, not_false_eq_true, ↓xGuard_tt, Bool.not_true, 
      Bool.not_false, ←decide_not, ↓ld_63, ↓al_63, ↓st_63, ↓eb_4, ↓es_63, ↓nb_4, e1_0, e2_0, e3_0, e4_0, beq_self_eq_true]
  apply xDet_x
  · exact fun w hw => loamref14_Size_call (Gives.lq (rSize_spec _ _ _ _ _))
  simp (disch := (first | omega | decide | (simp only [World.size_alloc, World.size_setCell, World.size_drew, List.mem_cons, List.not_mem_nil, or_false, not_false_eq_true] <;> omega) | fail)) only [↓xBox_r, ↓loadK_some, ↓loadsK_s, ↓loadsK_n, ↓loadsR_s, ↓loadsR_n, ↓storesK_s, ↓storesK_n, setCells_c, setCells_n, World.setCell_alloc_at, World.setCell_alloc_past, World.cell?_alloc_at, World.cell?_alloc_past, 
      World.frozen?_alloc_at, World.frozen?_alloc_past, World.size_alloc, ↓xPick_t, ↓xPick_f, ↓xGuard_tt, ↓xGuard_ff, ↓xGuard_tf, ↓xGuard_ft, ↓xIf_t, tick_eq, tickV_eq, ne_eq, not_true_eq_false, Int.reduceAdd, Int.reduceSub, Int.reduceMul, 
      Int.reduceEq, Int.reduceLT, Int.reduceLE, Bool.false_and, Bool.true_and, Bool.and_true, Bool.and_false, ↓xBin_add', ↓xBin_sub', ↓xBin_mul', ↓xBin_quo', ↓xBin_rem', wrap_in, ↓xIf_f, ↓xIf_tt, ↓xEx0, ↓xEx1, ↓xEx2, ↓xEx3, 
      ↓xBin_eqs, ↓xBin_nes, ↓xUn_not, ↓xu8_com, ↓xu8_eql, ↓xu8_neq, ↓xu16_com, ↓xu16_eql, ↓xu16_neq, ↓xu32_com, ↓xu32_eql, ↓xu32_neq, ↓xu64_com, ↓xu64_eql, ↓xu64_neq, ↓xi64_eql, ↓xi64_neq, ↓xi64_neg, Int.toNat_natCast, 
      Int.reduceToNat, Nat.reduceMul, Nat.reduceAdd, Nat.reduceSub, Nat.mul_one, List.nil_append, List.cons_append, List.getElem?_toArray, List.getElem?_cons_zero, List.getElem?_cons_succ, cells_int, cells_bool, cells_string, 
      cells_slice, cells_pointer, cells_agg, one_int, one_bool, one_string, one_slice, one_pointer, List.setIfInBounds_toArray, List.set_cons_zero, List.set_cons_succ, ↓xDet_s, ↓xDet_ld, ↓xDet_ld2, ↓xDet_ld3, ↓xDet_ld4, 
      World.size_drew, Nat.zero_add, cell_drew, frozen_drew, cell_set_eq, cell_set_o, cell_set_b, Option.map_some, World.frozen?_setCell, decide_true, decide_false, List.not_mem_nil, not_false_eq_true, ↓xGuard_tt, Bool.not_true, 
      Bool.not_false, ←decide_not, ↓ld_63, ↓al_63, ↓st_63, ↓eb_4, ↓es_63, ↓nb_4, e1_0, e2_0, e3_0, e4_0, beq_self_eq_true]
  refine xEnd_i fun w9 hw => ?_
  have E9 := hw.ext
  have z9 := E9.size
  try simp only [World.size_alloc, World.size_setCell, World.size_drew] at z9
  have e9_0 : ∀ o, w9.cell? ⟨w.heap.size, o, none⟩ = _ := fun o => E9.cell_o (by simp only [World.size_alloc, World.size_drew]; omega)
  by_cases h : rightP p b m t
  · obtain ⟨u1, u2, u3, u4⟩ := un_pack h
    have hi := un_pack_is h
    simp (disch := (first | omega | decide | (simp only [World.size_alloc, World.size_setCell, World.size_drew, List.mem_cons, List.not_mem_nil, or_false, not_false_eq_true] <;> omega) | fail)) only [↓xBox_r, ↓loadK_some, ↓loadsK_s, ↓loadsK_n, ↓loadsR_s, ↓loadsR_n, ↓storesK_s, ↓storesK_n, setCells_c, setCells_n, World.setCell_alloc_at, World.setCell_alloc_past, World.cell?_alloc_at, World.cell?_alloc_past, 
      World.frozen?_alloc_at, World.frozen?_alloc_past, World.size_alloc, ↓xPick_t, ↓xPick_f, ↓xGuard_tt, ↓xGuard_ff, ↓xGuard_tf, ↓xGuard_ft, ↓xIf_t, tick_eq, tickV_eq, ne_eq, not_true_eq_false, Int.reduceAdd, Int.reduceSub, Int.reduceMul, 
      Int.reduceEq, Int.reduceLT, Int.reduceLE, Bool.false_and, Bool.true_and, Bool.and_true, Bool.and_false, ↓xBin_add', ↓xBin_sub', ↓xBin_mul', ↓xBin_quo', ↓xBin_rem', wrap_in, ↓xIf_f, ↓xIf_tt, ↓xEx0, ↓xEx1, ↓xEx2, ↓xEx3, 
      ↓xBin_eqs, ↓xBin_nes, ↓xUn_not, ↓xu8_com, ↓xu8_eql, ↓xu8_neq, ↓xu16_com, ↓xu16_eql, ↓xu16_neq, ↓xu32_com, ↓xu32_eql, ↓xu32_neq, ↓xu64_com, ↓xu64_eql, ↓xu64_neq, ↓xi64_eql, ↓xi64_neq, ↓xi64_neg, Int.toNat_natCast, 
      Int.reduceToNat, Nat.reduceMul, Nat.reduceAdd, Nat.reduceSub, Nat.mul_one, List.nil_append, List.cons_append, List.getElem?_toArray, List.getElem?_cons_zero, List.getElem?_cons_succ, cells_int, cells_bool, cells_string, 
      cells_slice, cells_pointer, cells_agg, one_int, one_bool, one_string, one_slice, one_pointer, List.setIfInBounds_toArray, List.set_cons_zero, List.set_cons_succ, ↓xDet_s, ↓xDet_ld, ↓xDet_ld2, ↓xDet_ld3, ↓xDet_ld4, 
      World.size_drew, Nat.zero_add, cell_drew, frozen_drew, cell_set_eq, cell_set_o, cell_set_b, Option.map_some, World.frozen?_setCell, decide_true, decide_false, List.not_mem_nil, not_false_eq_true, ↓xGuard_tt, Bool.not_true, 
      Bool.not_false, ←decide_not, ↓ld_63, ↓al_63, ↓st_63, ↓eb_4, ↓es_63, ↓nb_4, e1_0, e2_0, e3_0, e4_0, beq_self_eq_true, packE, if_pos h]
    refine head_Unpack_call (Gives.to (Unpack_spec _ _) fun w5 E5 => ?_)
    have z5 := E5.size
    try simp only [World.size_alloc, World.size_setCell, World.size_drew] at z5
    have e5_0 : ∀ o, w5.cell? ⟨w.heap.size, o, none⟩ = _ := fun o => E5.cell_o (by first | omega | (simp only [World.size_alloc, World.size_setCell, World.size_drew] <;> omega))
    rw [show vP (packW p b m t) = p by rw [vP, if_pos hi, u1], show vB (packW p b m t) = b by rw [vB, if_pos hi, u2], show vM (packW p b m t) = m by rw [vM, if_pos hi, u3], show vT (packW p b m t) = t by rw [vT, if_pos hi, u4], show unErr (packW p b m t) = 0 by rw [unErr, if_pos hi]]
    simp (disch := (first | omega | decide | (simp only [World.size_alloc, World.size_setCell, World.size_drew, List.mem_cons, List.not_mem_nil, or_false, not_false_eq_true] <;> omega) | fail)) only [↓xBox_r, ↓loadK_some, ↓loadsK_s, ↓loadsK_n, ↓loadsR_s, ↓loadsR_n, ↓storesK_s, ↓storesK_n, setCells_c, setCells_n, World.setCell_alloc_at, World.setCell_alloc_past, World.cell?_alloc_at, World.cell?_alloc_past, 
      World.frozen?_alloc_at, World.frozen?_alloc_past, World.size_alloc, ↓xPick_t, ↓xPick_f, ↓xGuard_tt, ↓xGuard_ff, ↓xGuard_tf, ↓xGuard_ft, ↓xIf_t, tick_eq, tickV_eq, ne_eq, not_true_eq_false, Int.reduceAdd, Int.reduceSub, Int.reduceMul, 
      Int.reduceEq, Int.reduceLT, Int.reduceLE, Bool.false_and, Bool.true_and, Bool.and_true, Bool.and_false, ↓xBin_add', ↓xBin_sub', ↓xBin_mul', ↓xBin_quo', ↓xBin_rem', wrap_in, ↓xIf_f, ↓xIf_tt, ↓xEx0, ↓xEx1, ↓xEx2, ↓xEx3, 
      ↓xBin_eqs, ↓xBin_nes, ↓xUn_not, ↓xu8_com, ↓xu8_eql, ↓xu8_neq, ↓xu16_com, ↓xu16_eql, ↓xu16_neq, ↓xu32_com, ↓xu32_eql, ↓xu32_neq, ↓xu64_com, ↓xu64_eql, ↓xu64_neq, ↓xi64_eql, ↓xi64_neq, ↓xi64_neg, Int.toNat_natCast, 
      Int.reduceToNat, Nat.reduceMul, Nat.reduceAdd, Nat.reduceSub, Nat.mul_one, List.nil_append, List.cons_append, List.getElem?_toArray, List.getElem?_cons_zero, List.getElem?_cons_succ, cells_int, cells_bool, cells_string, 
      cells_slice, cells_pointer, cells_agg, one_int, one_bool, one_string, one_slice, one_pointer, List.setIfInBounds_toArray, List.set_cons_zero, List.set_cons_succ, ↓xDet_s, ↓xDet_ld, ↓xDet_ld2, ↓xDet_ld3, ↓xDet_ld4, 
      World.size_drew, Nat.zero_add, cell_drew, frozen_drew, cell_set_eq, cell_set_o, cell_set_b, Option.map_some, World.frozen?_setCell, decide_true, decide_false, List.not_mem_nil, not_false_eq_true, ↓xGuard_tt, Bool.not_true, 
      Bool.not_false, ←decide_not, ↓ld_63, ↓al_63, ↓st_63, ↓eb_4, ↓es_63, ↓nb_4, e1_0, e2_0, e3_0, e4_0, beq_self_eq_true, packE, if_pos h, e5_0, e9_0]
    exact ⟨by trivial, by (repeat (first | with_reducible exact Ext.refl _ _ | with_reducible assumption | with_reducible refine Ext.alloc' ?_ _ | with_reducible refine Ext.drew' ?_ | with_reducible refine Ext.set' ?_ ?_ | exact .inr (by first | omega | (simp only [World.size_alloc, World.size_drew, World.size_setCell] <;> omega)) | refine Ext.trans ?_ (by with_reducible assumption)))⟩
  · simp (disch := (first | omega | decide | (simp only [World.size_alloc, World.size_setCell, World.size_drew, List.mem_cons, List.not_mem_nil, or_false, not_false_eq_true] <;> omega) | fail)) only [↓xBox_r, ↓loadK_some, ↓loadsK_s, ↓loadsK_n, ↓loadsR_s, ↓loadsR_n, ↓storesK_s, ↓storesK_n, setCells_c, setCells_n, World.setCell_alloc_at, World.setCell_alloc_past, World.cell?_alloc_at, World.cell?_alloc_past, 
      World.frozen?_alloc_at, World.frozen?_alloc_past, World.size_alloc, ↓xPick_t, ↓xPick_f, ↓xGuard_tt, ↓xGuard_ff, ↓xGuard_tf, ↓xGuard_ft, ↓xIf_t, tick_eq, tickV_eq, ne_eq, not_true_eq_false, Int.reduceAdd, Int.reduceSub, Int.reduceMul, 
      Int.reduceEq, Int.reduceLT, Int.reduceLE, Bool.false_and, Bool.true_and, Bool.and_true, Bool.and_false, ↓xBin_add', ↓xBin_sub', ↓xBin_mul', ↓xBin_quo', ↓xBin_rem', wrap_in, ↓xIf_f, ↓xIf_tt, ↓xEx0, ↓xEx1, ↓xEx2, ↓xEx3, 
      ↓xBin_eqs, ↓xBin_nes, ↓xUn_not, ↓xu8_com, ↓xu8_eql, ↓xu8_neq, ↓xu16_com, ↓xu16_eql, ↓xu16_neq, ↓xu32_com, ↓xu32_eql, ↓xu32_neq, ↓xu64_com, ↓xu64_eql, ↓xu64_neq, ↓xi64_eql, ↓xi64_neq, ↓xi64_neg, Int.toNat_natCast, 
      Int.reduceToNat, Nat.reduceMul, Nat.reduceAdd, Nat.reduceSub, Nat.mul_one, List.nil_append, List.cons_append, List.getElem?_toArray, List.getElem?_cons_zero, List.getElem?_cons_succ, cells_int, cells_bool, cells_string, 
      cells_slice, cells_pointer, cells_agg, one_int, one_bool, one_string, one_slice, one_pointer, List.setIfInBounds_toArray, List.set_cons_zero, List.set_cons_succ, ↓xDet_s, ↓xDet_ld, ↓xDet_ld2, ↓xDet_ld3, ↓xDet_ld4, 
      World.size_drew, Nat.zero_add, cell_drew, frozen_drew, cell_set_eq, cell_set_o, cell_set_b, Option.map_some, World.frozen?_setCell, decide_true, decide_false, List.not_mem_nil, not_false_eq_true, ↓xGuard_tt, Bool.not_true, 
      Bool.not_false, ←decide_not, ↓ld_63, ↓al_63, ↓st_63, ↓eb_4, ↓es_63, ↓nb_4, e1_0, e2_0, e3_0, e4_0, beq_self_eq_true, packE, if_neg h]
    exact ⟨by trivial, by (repeat (first | with_reducible exact Ext.refl _ _ | with_reducible assumption | with_reducible refine Ext.alloc' ?_ _ | with_reducible refine Ext.drew' ?_ | with_reducible refine Ext.set' ?_ ?_ | exact .inr (by first | omega | (simp only [World.size_alloc, World.size_drew, World.size_setCell] <;> omega)) | refine Ext.trans ?_ (by with_reducible assumption)))⟩

theorem HeadWords_spec (n : Int) (hn : 0 ≤ n ∧ n ≤ 18446744073709551615) (w : World) : Gives Try.prog n_loamlaw14_HeadWords #[.int .u64 n] w (.bool true) := by
  rw [u64_of hn.1 hn.2]
  generalize BitVec.ofInt 64 n = x
  refine loamlaw14_HeadWords_of ?_
  unfold loamlaw14_HeadWords
  simp (disch := (first | omega | decide | (simp only [World.size_alloc, World.size_setCell, World.size_drew, List.mem_cons, List.not_mem_nil, or_false, not_false_eq_true] <;> omega) | fail)) only [↓xBox_r, ↓loadK_some, ↓loadsK_s, ↓loadsK_n, ↓loadsR_s, ↓loadsR_n, ↓storesK_s, ↓storesK_n, setCells_c, setCells_n, World.setCell_alloc_at, World.setCell_alloc_past, World.cell?_alloc_at, World.cell?_alloc_past, 
      World.frozen?_alloc_at, World.frozen?_alloc_past, World.size_alloc, ↓xPick_t, ↓xPick_f, ↓xGuard_tt, ↓xGuard_ff, ↓xGuard_tf, ↓xGuard_ft, ↓xIf_t, tick_eq, tickV_eq, ne_eq, not_true_eq_false, Int.reduceAdd, Int.reduceSub, Int.reduceMul, 
      Int.reduceEq, Int.reduceLT, Int.reduceLE, Bool.false_and, Bool.true_and, Bool.and_true, Bool.and_false, ↓xBin_add', ↓xBin_sub', ↓xBin_mul', ↓xBin_quo', ↓xBin_rem', wrap_in, ↓xIf_f, ↓xIf_tt, ↓xEx0, ↓xEx1, ↓xEx2, ↓xEx3, 
      ↓xBin_eqs, ↓xBin_nes, ↓xUn_not, ↓xu8_com, ↓xu8_eql, ↓xu8_neq, ↓xu16_com, ↓xu16_eql, ↓xu16_neq, ↓xu32_com, ↓xu32_eql, ↓xu32_neq, ↓xu64_com, ↓xu64_eql, ↓xu64_neq, ↓xi64_eql, ↓xi64_neq, ↓xi64_neg, Int.toNat_natCast, 
      Int.reduceToNat, Nat.reduceMul, Nat.reduceAdd, Nat.reduceSub, Nat.mul_one, List.nil_append, List.cons_append, List.getElem?_toArray, List.getElem?_cons_zero, List.getElem?_cons_succ, cells_int, cells_bool, cells_string, 
      cells_slice, cells_pointer, cells_agg, one_int, one_bool, one_string, one_slice, one_pointer, List.setIfInBounds_toArray, List.set_cons_zero, List.set_cons_succ, ↓xDet_s, ↓xDet_ld, ↓xDet_ld2, ↓xDet_ld3, ↓xDet_ld4, 
      World.size_drew, Nat.zero_add, cell_drew, frozen_drew, cell_set_eq, cell_set_o, cell_set_b, Option.map_some, World.frozen?_setCell, decide_true, decide_false, List.not_mem_nil, not_false_eq_true, ↓xGuard_tt, Bool.not_true, 
      Bool.not_false, ←decide_not, ↓ld_63, ↓ld_69, ↓al_63, ↓al_69, ↓st_63, ↓st_69, ↓ns_69, eq_self]
  refine loamlaw14_known_call (Gives.to (known14_spec _) fun w1 E1 => ?_)
  have z1 := E1.size
  try simp only [World.size_alloc, World.size_setCell, World.size_drew] at z1
  simp (disch := (first | omega | decide | (simp only [World.size_alloc, World.size_setCell, World.size_drew, List.mem_cons, List.not_mem_nil, or_false, not_false_eq_true] <;> omega) | fail)) only [↓xBox_r, ↓loadK_some, ↓loadsK_s, ↓loadsK_n, ↓loadsR_s, ↓loadsR_n, ↓storesK_s, ↓storesK_n, setCells_c, setCells_n, World.setCell_alloc_at, World.setCell_alloc_past, World.cell?_alloc_at, World.cell?_alloc_past, 
      World.frozen?_alloc_at, World.frozen?_alloc_past, World.size_alloc, ↓xPick_t, ↓xPick_f, ↓xGuard_tt, ↓xGuard_ff, ↓xGuard_tf, ↓xGuard_ft, ↓xIf_t, tick_eq, tickV_eq, ne_eq, not_true_eq_false, Int.reduceAdd, Int.reduceSub, Int.reduceMul, 
      Int.reduceEq, Int.reduceLT, Int.reduceLE, Bool.false_and, Bool.true_and, Bool.and_true, Bool.and_false, ↓xBin_add', ↓xBin_sub', ↓xBin_mul', ↓xBin_quo', ↓xBin_rem', wrap_in, ↓xIf_f, ↓xIf_tt, ↓xEx0, ↓xEx1, ↓xEx2, ↓xEx3, 
      ↓xBin_eqs, ↓xBin_nes, ↓xUn_not, ↓xu8_com, ↓xu8_eql, ↓xu8_neq, ↓xu16_com, ↓xu16_eql, ↓xu16_neq, ↓xu32_com, ↓xu32_eql, ↓xu32_neq, ↓xu64_com, ↓xu64_eql, ↓xu64_neq, ↓xi64_eql, ↓xi64_neq, ↓xi64_neg, Int.toNat_natCast, 
      Int.reduceToNat, Nat.reduceMul, Nat.reduceAdd, Nat.reduceSub, Nat.mul_one, List.nil_append, List.cons_append, List.getElem?_toArray, List.getElem?_cons_zero, List.getElem?_cons_succ, cells_int, cells_bool, cells_string, 
      cells_slice, cells_pointer, cells_agg, one_int, one_bool, one_string, one_slice, one_pointer, List.setIfInBounds_toArray, List.set_cons_zero, List.set_cons_succ, ↓xDet_s, ↓xDet_ld, ↓xDet_ld2, ↓xDet_ld3, ↓xDet_ld4, 
      World.size_drew, Nat.zero_add, cell_drew, frozen_drew, cell_set_eq, cell_set_o, cell_set_b, Option.map_some, World.frozen?_setCell, decide_true, decide_false, List.not_mem_nil, not_false_eq_true, ↓xGuard_tt, Bool.not_true, 
      Bool.not_false, ←decide_not, ↓ld_63, ↓ld_69, ↓al_63, ↓al_69, ↓st_63, ↓st_69, ↓ns_69, eq_self]
  refine head_Unpack_call (Gives.to (Unpack_spec _ _) fun w2 E2 => ?_)
  have z2 := E2.size
  try simp only [World.size_alloc, World.size_setCell, World.size_drew] at z2
  simp (disch := (first | omega | decide | (simp only [World.size_alloc, World.size_setCell, World.size_drew, List.mem_cons, List.not_mem_nil, or_false, not_false_eq_true] <;> omega) | fail)) only [↓xBox_r, ↓loadK_some, ↓loadsK_s, ↓loadsK_n, ↓loadsR_s, ↓loadsR_n, ↓storesK_s, ↓storesK_n, setCells_c, setCells_n, World.setCell_alloc_at, World.setCell_alloc_past, World.cell?_alloc_at, World.cell?_alloc_past, 
      World.frozen?_alloc_at, World.frozen?_alloc_past, World.size_alloc, ↓xPick_t, ↓xPick_f, ↓xGuard_tt, ↓xGuard_ff, ↓xGuard_tf, ↓xGuard_ft, ↓xIf_t, tick_eq, tickV_eq, ne_eq, not_true_eq_false, Int.reduceAdd, Int.reduceSub, Int.reduceMul, 
      Int.reduceEq, Int.reduceLT, Int.reduceLE, Bool.false_and, Bool.true_and, Bool.and_true, Bool.and_false, ↓xBin_add', ↓xBin_sub', ↓xBin_mul', ↓xBin_quo', ↓xBin_rem', wrap_in, ↓xIf_f, ↓xIf_tt, ↓xEx0, ↓xEx1, ↓xEx2, ↓xEx3, 
      ↓xBin_eqs, ↓xBin_nes, ↓xUn_not, ↓xu8_com, ↓xu8_eql, ↓xu8_neq, ↓xu16_com, ↓xu16_eql, ↓xu16_neq, ↓xu32_com, ↓xu32_eql, ↓xu32_neq, ↓xu64_com, ↓xu64_eql, ↓xu64_neq, ↓xi64_eql, ↓xi64_neq, ↓xi64_neg, Int.toNat_natCast, 
      Int.reduceToNat, Nat.reduceMul, Nat.reduceAdd, Nat.reduceSub, Nat.mul_one, List.nil_append, List.cons_append, List.getElem?_toArray, List.getElem?_cons_zero, List.getElem?_cons_succ, cells_int, cells_bool, cells_string, 
      cells_slice, cells_pointer, cells_agg, one_int, one_bool, one_string, one_slice, one_pointer, List.setIfInBounds_toArray, List.set_cons_zero, List.set_cons_succ, ↓xDet_s, ↓xDet_ld, ↓xDet_ld2, ↓xDet_ld3, ↓xDet_ld4, 
      World.size_drew, Nat.zero_add, cell_drew, frozen_drew, cell_set_eq, cell_set_o, cell_set_b, Option.map_some, World.frozen?_setCell, decide_true, decide_false, List.not_mem_nil, not_false_eq_true, ↓xGuard_tt, Bool.not_true, 
      Bool.not_false, ←decide_not, ↓ld_63, ↓ld_69, ↓al_63, ↓al_69, ↓st_63, ↓st_69, ↓ns_69, eq_self]
  refine loamref14_Unpack_call (Gives.to (rUnpack_spec _ _) fun w3 E3 => ?_)
  have z3 := E3.size
  try simp only [World.size_alloc, World.size_setCell, World.size_drew] at z3
  have e3_0 : ∀ o, w3.cell? ⟨w2.heap.size, o, none⟩ = _ := fun o => E3.cell_o (by first | omega | (simp only [World.size_alloc, World.size_setCell, World.size_drew] <;> omega))
  simp (disch := (first | omega | decide | (simp only [World.size_alloc, World.size_setCell, World.size_drew, List.mem_cons, List.not_mem_nil, or_false, not_false_eq_true] <;> omega) | fail)) only [↓xBox_r, ↓loadK_some, ↓loadsK_s, ↓loadsK_n, ↓loadsR_s, ↓loadsR_n, ↓storesK_s, ↓storesK_n, setCells_c, setCells_n, World.setCell_alloc_at, World.setCell_alloc_past, World.cell?_alloc_at, World.cell?_alloc_past, 
      World.frozen?_alloc_at, World.frozen?_alloc_past, World.size_alloc, ↓xPick_t, ↓xPick_f, ↓xGuard_tt, ↓xGuard_ff, ↓xGuard_tf, ↓xGuard_ft, ↓xIf_t, tick_eq, tickV_eq, ne_eq, not_true_eq_false, Int.reduceAdd, Int.reduceSub, Int.reduceMul, 
      Int.reduceEq, Int.reduceLT, Int.reduceLE, Bool.false_and, Bool.true_and, Bool.and_true, Bool.and_false, ↓xBin_add', ↓xBin_sub', ↓xBin_mul', ↓xBin_quo', ↓xBin_rem', wrap_in, ↓xIf_f, ↓xIf_tt, ↓xEx0, ↓xEx1, ↓xEx2, ↓xEx3, 
      ↓xBin_eqs, ↓xBin_nes, ↓xUn_not, ↓xu8_com, ↓xu8_eql, ↓xu8_neq, ↓xu16_com, ↓xu16_eql, ↓xu16_neq, ↓xu32_com, ↓xu32_eql, ↓xu32_neq, ↓xu64_com, ↓xu64_eql, ↓xu64_neq, ↓xi64_eql, ↓xi64_neq, ↓xi64_neg, Int.toNat_natCast, 
      Int.reduceToNat, Nat.reduceMul, Nat.reduceAdd, Nat.reduceSub, Nat.mul_one, List.nil_append, List.cons_append, List.getElem?_toArray, List.getElem?_cons_zero, List.getElem?_cons_succ, cells_int, cells_bool, cells_string, 
      cells_slice, cells_pointer, cells_agg, one_int, one_bool, one_string, one_slice, one_pointer, List.setIfInBounds_toArray, List.set_cons_zero, List.set_cons_succ, ↓xDet_s, ↓xDet_ld, ↓xDet_ld2, ↓xDet_ld3, ↓xDet_ld4, 
      World.size_drew, Nat.zero_add, cell_drew, frozen_drew, cell_set_eq, cell_set_o, cell_set_b, Option.map_some, World.frozen?_setCell, decide_true, decide_false, List.not_mem_nil, not_false_eq_true, ↓xGuard_tt, Bool.not_true, 
      Bool.not_false, ←decide_not, ↓ld_63, ↓ld_69, ↓al_63, ↓al_69, ↓st_63, ↓st_69, ↓ns_69, e3_0]
  refine xDraw_ext [] [] ?_
  simp (disch := (first | omega | decide | (simp only [World.size_alloc, World.size_setCell, World.size_drew, List.mem_cons, List.not_mem_nil, or_false, not_false_eq_true] <;> omega) | fail)) only [↓xBox_r, ↓loadK_some, ↓loadsK_s, ↓loadsK_n, ↓loadsR_s, ↓loadsR_n, ↓storesK_s, ↓storesK_n, setCells_c, setCells_n, World.setCell_alloc_at, World.setCell_alloc_past, World.cell?_alloc_at, World.cell?_alloc_past, 
      World.frozen?_alloc_at, World.frozen?_alloc_past, World.size_alloc, ↓xPick_t, ↓xPick_f, ↓xGuard_tt, ↓xGuard_ff, ↓xGuard_tf, ↓xGuard_ft, ↓xIf_t, tick_eq, tickV_eq, ne_eq, not_true_eq_false, Int.reduceAdd, Int.reduceSub, Int.reduceMul, 
      Int.reduceEq, Int.reduceLT, Int.reduceLE, Bool.false_and, Bool.true_and, Bool.and_true, Bool.and_false, ↓xBin_add', ↓xBin_sub', ↓xBin_mul', ↓xBin_quo', ↓xBin_rem', wrap_in, ↓xIf_f, ↓xIf_tt, ↓xEx0, ↓xEx1, ↓xEx2, ↓xEx3, 
      ↓xBin_eqs, ↓xBin_nes, ↓xUn_not, ↓xu8_com, ↓xu8_eql, ↓xu8_neq, ↓xu16_com, ↓xu16_eql, ↓xu16_neq, ↓xu32_com, ↓xu32_eql, ↓xu32_neq, ↓xu64_com, ↓xu64_eql, ↓xu64_neq, ↓xi64_eql, ↓xi64_neq, ↓xi64_neg, Int.toNat_natCast, 
      Int.reduceToNat, Nat.reduceMul, Nat.reduceAdd, Nat.reduceSub, Nat.mul_one, List.nil_append, List.cons_append, List.getElem?_toArray, List.getElem?_cons_zero, List.getElem?_cons_succ, cells_int, cells_bool, cells_string, 
      cells_slice, cells_pointer, cells_agg, one_int, one_bool, one_string, one_slice, one_pointer, List.setIfInBounds_toArray, List.set_cons_zero, List.set_cons_succ, ↓xDet_s, ↓xDet_ld, ↓xDet_ld2, ↓xDet_ld3, ↓xDet_ld4, 
      World.size_drew, Nat.zero_add, cell_drew, frozen_drew, cell_set_eq, cell_set_o, cell_set_b, Option.map_some, World.frozen?_setCell, decide_true, decide_false, List.not_mem_nil, not_false_eq_true, ↓xGuard_tt, Bool.not_true, 
      Bool.not_false, ←decide_not, ↓ld_63, ↓ld_69, ↓al_63, ↓al_69, ↓st_63, ↓st_69, ↓ns_69, e3_0]
  apply xDet_x
  · exact fun w hw => loamlaw14_Of_call (Gives.lq (Of14_spec _ _ _ _ _))
  simp (disch := (first | omega | decide | (simp only [World.size_alloc, World.size_setCell, World.size_drew, List.mem_cons, List.not_mem_nil, or_false, not_false_eq_true] <;> omega) | fail)) only [↓xBox_r, ↓loadK_some, ↓loadsK_s, ↓loadsK_n, ↓loadsR_s, ↓loadsR_n, ↓storesK_s, ↓storesK_n, setCells_c, setCells_n, World.setCell_alloc_at, World.setCell_alloc_past, World.cell?_alloc_at, World.cell?_alloc_past, 
      World.frozen?_alloc_at, World.frozen?_alloc_past, World.size_alloc, ↓xPick_t, ↓xPick_f, ↓xGuard_tt, ↓xGuard_ff, ↓xGuard_tf, ↓xGuard_ft, ↓xIf_t, tick_eq, tickV_eq, ne_eq, not_true_eq_false, Int.reduceAdd, Int.reduceSub, Int.reduceMul, 
      Int.reduceEq, Int.reduceLT, Int.reduceLE, Bool.false_and, Bool.true_and, Bool.and_true, Bool.and_false, ↓xBin_add', ↓xBin_sub', ↓xBin_mul', ↓xBin_quo', ↓xBin_rem', wrap_in, ↓xIf_f, ↓xIf_tt, ↓xEx0, ↓xEx1, ↓xEx2, ↓xEx3, 
      ↓xBin_eqs, ↓xBin_nes, ↓xUn_not, ↓xu8_com, ↓xu8_eql, ↓xu8_neq, ↓xu16_com, ↓xu16_eql, ↓xu16_neq, ↓xu32_com, ↓xu32_eql, ↓xu32_neq, ↓xu64_com, ↓xu64_eql, ↓xu64_neq, ↓xi64_eql, ↓xi64_neq, ↓xi64_neg, Int.toNat_natCast, 
      Int.reduceToNat, Nat.reduceMul, Nat.reduceAdd, Nat.reduceSub, Nat.mul_one, List.nil_append, List.cons_append, List.getElem?_toArray, List.getElem?_cons_zero, List.getElem?_cons_succ, cells_int, cells_bool, cells_string, 
      cells_slice, cells_pointer, cells_agg, one_int, one_bool, one_string, one_slice, one_pointer, List.setIfInBounds_toArray, List.set_cons_zero, List.set_cons_succ, ↓xDet_s, ↓xDet_ld, ↓xDet_ld2, ↓xDet_ld3, ↓xDet_ld4, 
      World.size_drew, Nat.zero_add, cell_drew, frozen_drew, cell_set_eq, cell_set_o, cell_set_b, Option.map_some, World.frozen?_setCell, decide_true, decide_false, List.not_mem_nil, not_false_eq_true, ↓xGuard_tt, Bool.not_true, 
      Bool.not_false, ←decide_not, ↓ld_63, ↓ld_69, ↓al_63, ↓al_69, ↓st_63, ↓st_69, ↓ns_69, e3_0, beq_self_eq_true]
  refine xEnd_i fun w9 hw => ?_
  have E9 := hw.ext
  have z9 := E9.size
  try simp only [World.size_alloc, World.size_setCell, World.size_drew] at z9
  have e9_0 : ∀ o, w9.cell? ⟨w2.heap.size, o, none⟩ = _ := fun o => E9.cell_o (by simp only [World.size_alloc, World.size_drew]; omega)
  by_cases h : isHead x
  · have h1 := h.1
    have h2 := h.2
    simp (disch := (first | omega | decide | (simp only [World.size_alloc, World.size_setCell, World.size_drew, List.mem_cons, List.not_mem_nil, or_false, not_false_eq_true] <;> omega) | fail)) only [↓xBox_r, ↓loadK_some, ↓loadsK_s, ↓loadsK_n, ↓loadsR_s, ↓loadsR_n, ↓storesK_s, ↓storesK_n, setCells_c, setCells_n, World.setCell_alloc_at, World.setCell_alloc_past, World.cell?_alloc_at, World.cell?_alloc_past, 
      World.frozen?_alloc_at, World.frozen?_alloc_past, World.size_alloc, ↓xPick_t, ↓xPick_f, ↓xGuard_tt, ↓xGuard_ff, ↓xGuard_tf, ↓xGuard_ft, ↓xIf_t, tick_eq, tickV_eq, ne_eq, not_true_eq_false, Int.reduceAdd, Int.reduceSub, Int.reduceMul, 
      Int.reduceEq, Int.reduceLT, Int.reduceLE, Bool.false_and, Bool.true_and, Bool.and_true, Bool.and_false, ↓xBin_add', ↓xBin_sub', ↓xBin_mul', ↓xBin_quo', ↓xBin_rem', wrap_in, ↓xIf_f, ↓xIf_tt, ↓xEx0, ↓xEx1, ↓xEx2, ↓xEx3, 
      ↓xBin_eqs, ↓xBin_nes, ↓xUn_not, ↓xu8_com, ↓xu8_eql, ↓xu8_neq, ↓xu16_com, ↓xu16_eql, ↓xu16_neq, ↓xu32_com, ↓xu32_eql, ↓xu32_neq, ↓xu64_com, ↓xu64_eql, ↓xu64_neq, ↓xi64_eql, ↓xi64_neq, ↓xi64_neg, Int.toNat_natCast, 
      Int.reduceToNat, Nat.reduceMul, Nat.reduceAdd, Nat.reduceSub, Nat.mul_one, List.nil_append, List.cons_append, List.getElem?_toArray, List.getElem?_cons_zero, List.getElem?_cons_succ, cells_int, cells_bool, cells_string, 
      cells_slice, cells_pointer, cells_agg, one_int, one_bool, one_string, one_slice, one_pointer, List.setIfInBounds_toArray, List.set_cons_zero, List.set_cons_succ, ↓xDet_s, ↓xDet_ld, ↓xDet_ld2, ↓xDet_ld3, ↓xDet_ld4, 
      World.size_drew, Nat.zero_add, cell_drew, frozen_drew, cell_set_eq, cell_set_o, cell_set_b, Option.map_some, World.frozen?_setCell, decide_true, decide_false, List.not_mem_nil, not_false_eq_true, ↓xGuard_tt, Bool.not_true, 
      Bool.not_false, ←decide_not, ↓ld_63, ↓ld_69, ↓al_63, ↓al_69, ↓st_63, ↓st_69, ↓ns_69, e3_0, beq_self_eq_true, unErr, if_pos h, vP, vB, vM, vT, e9_0]
    refine head_Pack_call (Gives.to (Pack_spec _ _ _ _ _) fun w4 E4 => ?_)
    have z4 := E4.size
    try simp only [World.size_alloc, World.size_setCell, World.size_drew] at z4
    simp (disch := (first | omega | decide | (simp only [World.size_alloc, World.size_setCell, World.size_drew, List.mem_cons, List.not_mem_nil, or_false, not_false_eq_true] <;> omega) | fail)) only [↓xBox_r, ↓loadK_some, ↓loadsK_s, ↓loadsK_n, ↓loadsR_s, ↓loadsR_n, ↓storesK_s, ↓storesK_n, setCells_c, setCells_n, World.setCell_alloc_at, World.setCell_alloc_past, World.cell?_alloc_at, World.cell?_alloc_past, 
      World.frozen?_alloc_at, World.frozen?_alloc_past, World.size_alloc, ↓xPick_t, ↓xPick_f, ↓xGuard_tt, ↓xGuard_ff, ↓xGuard_tf, ↓xGuard_ft, ↓xIf_t, tick_eq, tickV_eq, ne_eq, not_true_eq_false, Int.reduceAdd, Int.reduceSub, Int.reduceMul, 
      Int.reduceEq, Int.reduceLT, Int.reduceLE, Bool.false_and, Bool.true_and, Bool.and_true, Bool.and_false, ↓xBin_add', ↓xBin_sub', ↓xBin_mul', ↓xBin_quo', ↓xBin_rem', wrap_in, ↓xIf_f, ↓xIf_tt, ↓xEx0, ↓xEx1, ↓xEx2, ↓xEx3, 
      ↓xBin_eqs, ↓xBin_nes, ↓xUn_not, ↓xu8_com, ↓xu8_eql, ↓xu8_neq, ↓xu16_com, ↓xu16_eql, ↓xu16_neq, ↓xu32_com, ↓xu32_eql, ↓xu32_neq, ↓xu64_com, ↓xu64_eql, ↓xu64_neq, ↓xi64_eql, ↓xi64_neq, ↓xi64_neg, Int.toNat_natCast, 
      Int.reduceToNat, Nat.reduceMul, Nat.reduceAdd, Nat.reduceSub, Nat.mul_one, List.nil_append, List.cons_append, List.getElem?_toArray, List.getElem?_cons_zero, List.getElem?_cons_succ, cells_int, cells_bool, cells_string, 
      cells_slice, cells_pointer, cells_agg, one_int, one_bool, one_string, one_slice, one_pointer, List.setIfInBounds_toArray, List.set_cons_zero, List.set_cons_succ, ↓xDet_s, ↓xDet_ld, ↓xDet_ld2, ↓xDet_ld3, ↓xDet_ld4, 
      World.size_drew, Nat.zero_add, cell_drew, frozen_drew, cell_set_eq, cell_set_o, cell_set_b, Option.map_some, World.frozen?_setCell, decide_true, decide_false, List.not_mem_nil, not_false_eq_true, ↓xGuard_tt, Bool.not_true, 
      Bool.not_false, ←decide_not, ↓ld_63, ↓ld_69, ↓al_63, ↓al_69, ↓st_63, ↓st_69, ↓ns_69, e3_0, beq_self_eq_true, unErr, if_pos h, vP, vB, vM, vT, e9_0, packE, if_pos h1, h2]
    exact ⟨by trivial, by (repeat (first | with_reducible exact Ext.refl _ _ | with_reducible assumption | with_reducible refine Ext.alloc' ?_ _ | with_reducible refine Ext.drew' ?_ | with_reducible refine Ext.set' ?_ ?_ | exact .inr (by first | omega | (simp only [World.size_alloc, World.size_drew, World.size_setCell] <;> omega)) | refine Ext.trans ?_ (by with_reducible assumption)))⟩
  · simp (disch := (first | omega | decide | (simp only [World.size_alloc, World.size_setCell, World.size_drew, List.mem_cons, List.not_mem_nil, or_false, not_false_eq_true] <;> omega) | fail)) only [↓xBox_r, ↓loadK_some, ↓loadsK_s, ↓loadsK_n, ↓loadsR_s, ↓loadsR_n, ↓storesK_s, ↓storesK_n, setCells_c, setCells_n, World.setCell_alloc_at, World.setCell_alloc_past, World.cell?_alloc_at, World.cell?_alloc_past, 
      World.frozen?_alloc_at, World.frozen?_alloc_past, World.size_alloc, ↓xPick_t, ↓xPick_f, ↓xGuard_tt, ↓xGuard_ff, ↓xGuard_tf, ↓xGuard_ft, ↓xIf_t, tick_eq, tickV_eq, ne_eq, not_true_eq_false, Int.reduceAdd, Int.reduceSub, Int.reduceMul, 
      Int.reduceEq, Int.reduceLT, Int.reduceLE, Bool.false_and, Bool.true_and, Bool.and_true, Bool.and_false, ↓xBin_add', ↓xBin_sub', ↓xBin_mul', ↓xBin_quo', ↓xBin_rem', wrap_in, ↓xIf_f, ↓xIf_tt, ↓xEx0, ↓xEx1, ↓xEx2, ↓xEx3, 
      ↓xBin_eqs, ↓xBin_nes, ↓xUn_not, ↓xu8_com, ↓xu8_eql, ↓xu8_neq, ↓xu16_com, ↓xu16_eql, ↓xu16_neq, ↓xu32_com, ↓xu32_eql, ↓xu32_neq, ↓xu64_com, ↓xu64_eql, ↓xu64_neq, ↓xi64_eql, ↓xi64_neq, ↓xi64_neg, Int.toNat_natCast, 
      Int.reduceToNat, Nat.reduceMul, Nat.reduceAdd, Nat.reduceSub, Nat.mul_one, List.nil_append, List.cons_append, List.getElem?_toArray, List.getElem?_cons_zero, List.getElem?_cons_succ, cells_int, cells_bool, cells_string, 
      cells_slice, cells_pointer, cells_agg, one_int, one_bool, one_string, one_slice, one_pointer, List.setIfInBounds_toArray, List.set_cons_zero, List.set_cons_succ, ↓xDet_s, ↓xDet_ld, ↓xDet_ld2, ↓xDet_ld3, ↓xDet_ld4, 
      World.size_drew, Nat.zero_add, cell_drew, frozen_drew, cell_set_eq, cell_set_o, cell_set_b, Option.map_some, World.frozen?_setCell, decide_true, decide_false, List.not_mem_nil, not_false_eq_true, ↓xGuard_tt, Bool.not_true, 
      Bool.not_false, ←decide_not, ↓ld_63, ↓ld_69, ↓al_63, ↓al_69, ↓st_63, ↓st_69, ↓ns_69, e3_0, beq_self_eq_true, unErr, if_neg h]
    exact ⟨by trivial, by (repeat (first | with_reducible exact Ext.refl _ _ | with_reducible assumption | with_reducible refine Ext.alloc' ?_ _ | with_reducible refine Ext.drew' ?_ | with_reducible refine Ext.set' ?_ ?_ | exact .inr (by first | omega | (simp only [World.size_alloc, World.size_drew, World.size_setCell] <;> omega)) | refine Ext.trans ?_ (by with_reducible assumption)))⟩

theorem map1_spec (m : Bool) (w : World) : Gives Try.prog n_loamlaw14_map1 #[.bool m] w (u64 (if m then BitVec.ofNat 64 1 else BitVec.ofNat 64 0)) := by
  refine loamlaw14_map1_of ?_
  unfold loamlaw14_map1
  cases m
  · simp (disch := (first | omega | decide | (simp only [World.size_alloc, World.size_setCell, World.size_drew, List.mem_cons, List.not_mem_nil, or_false, not_false_eq_true] <;> omega) | fail)) only [↓xBox_r, ↓loadK_some, ↓loadsK_s, ↓loadsK_n, ↓loadsR_s, ↓loadsR_n, ↓storesK_s, ↓storesK_n, setCells_c, setCells_n, World.setCell_alloc_at, World.setCell_alloc_past, World.cell?_alloc_at, World.cell?_alloc_past, 
      World.frozen?_alloc_at, World.frozen?_alloc_past, World.size_alloc, ↓xPick_t, ↓xPick_f, ↓xGuard_tt, ↓xGuard_ff, ↓xGuard_tf, ↓xGuard_ft, ↓xIf_t, tick_eq, tickV_eq, ne_eq, not_true_eq_false, Int.reduceAdd, Int.reduceSub, Int.reduceMul, 
      Int.reduceEq, Int.reduceLT, Int.reduceLE, Bool.false_and, Bool.true_and, Bool.and_true, Bool.and_false, ↓xBin_add', ↓xBin_sub', ↓xBin_mul', ↓xBin_quo', ↓xBin_rem', wrap_in, ↓xIf_f, ↓xIf_tt, ↓xEx0, ↓xEx1, ↓xEx2, ↓xEx3, 
      ↓xBin_eqs, ↓xBin_nes, ↓xUn_not, Int.toNat_natCast, Int.reduceToNat, Nat.reduceMul, Nat.reduceAdd, Nat.reduceSub, Nat.mul_one, List.nil_append, List.cons_append, List.getElem?_toArray, List.getElem?_cons_zero, List.getElem?_cons_succ, 
      cells_int, cells_bool, cells_string, cells_slice, cells_pointer, cells_agg, one_int, one_bool, one_string, one_slice, one_pointer, List.setIfInBounds_toArray, List.set_cons_zero, List.set_cons_succ, ↓xDet_s, ↓xDet_ld, 
      ↓xDet_ld2, ↓xDet_ld3, ↓xDet_ld4, World.size_drew, Nat.zero_add, cell_drew, frozen_drew, cell_set_eq, cell_set_o, cell_set_b, Option.map_some, World.frozen?_setCell, decide_true, decide_false, List.not_mem_nil, not_false_eq_true, 
      ↓xGuard_tt, Bool.not_true, Bool.not_false, ←decide_not, eq_self, eq_self]
    exact ⟨by trivial, by (repeat (first | with_reducible exact Ext.refl _ _ | with_reducible assumption | with_reducible refine Ext.alloc' ?_ _ | with_reducible refine Ext.drew' ?_ | with_reducible refine Ext.set' ?_ ?_ | exact .inr (by first | omega | (simp only [World.size_alloc, World.size_drew, World.size_setCell] <;> omega)) | refine Ext.trans ?_ (by with_reducible assumption)))⟩
  · simp (disch := (first | omega | decide | (simp only [World.size_alloc, World.size_setCell, World.size_drew, List.mem_cons, List.not_mem_nil, or_false, not_false_eq_true] <;> omega) | fail)) only [↓xBox_r, ↓loadK_some, ↓loadsK_s, ↓loadsK_n, ↓loadsR_s, ↓loadsR_n, ↓storesK_s, ↓storesK_n, setCells_c, setCells_n, World.setCell_alloc_at, World.setCell_alloc_past, World.cell?_alloc_at, World.cell?_alloc_past, 
      World.frozen?_alloc_at, World.frozen?_alloc_past, World.size_alloc, ↓xPick_t, ↓xPick_f, ↓xGuard_tt, ↓xGuard_ff, ↓xGuard_tf, ↓xGuard_ft, ↓xIf_t, tick_eq, tickV_eq, ne_eq, not_true_eq_false, Int.reduceAdd, Int.reduceSub, Int.reduceMul, 
      Int.reduceEq, Int.reduceLT, Int.reduceLE, Bool.false_and, Bool.true_and, Bool.and_true, Bool.and_false, ↓xBin_add', ↓xBin_sub', ↓xBin_mul', ↓xBin_quo', ↓xBin_rem', wrap_in, ↓xIf_f, ↓xIf_tt, ↓xEx0, ↓xEx1, ↓xEx2, ↓xEx3, 
      ↓xBin_eqs, ↓xBin_nes, ↓xUn_not, Int.toNat_natCast, Int.reduceToNat, Nat.reduceMul, Nat.reduceAdd, Nat.reduceSub, Nat.mul_one, List.nil_append, List.cons_append, List.getElem?_toArray, List.getElem?_cons_zero, List.getElem?_cons_succ, 
      cells_int, cells_bool, cells_string, cells_slice, cells_pointer, cells_agg, one_int, one_bool, one_string, one_slice, one_pointer, List.setIfInBounds_toArray, List.set_cons_zero, List.set_cons_succ, ↓xDet_s, ↓xDet_ld, 
      ↓xDet_ld2, ↓xDet_ld3, ↓xDet_ld4, World.size_drew, Nat.zero_add, cell_drew, frozen_drew, cell_set_eq, cell_set_o, cell_set_b, Option.map_some, World.frozen?_setCell, decide_true, decide_false, List.not_mem_nil, not_false_eq_true, 
      ↓xGuard_tt, Bool.not_true, Bool.not_false, ←decide_not, eq_self, eq_self]
    exact ⟨by trivial, by (repeat (first | with_reducible exact Ext.refl _ _ | with_reducible assumption | with_reducible refine Ext.alloc' ?_ _ | with_reducible refine Ext.drew' ?_ | with_reducible refine Ext.set' ?_ ?_ | exact .inr (by first | omega | (simp only [World.size_alloc, World.size_drew, World.size_setCell] <;> omega)) | refine Ext.trans ?_ (by with_reducible assumption)))⟩
theorem low_bit {p b t : Int} {m : Bool} (h : rightP p b m t) : packW p b m t &&& BitVec.ofNat 64 1 = if m then BitVec.ofNat 64 1 else BitVec.ofNat 64 0 := by
  have hu := (un_pack h).2.2.1
  cases m
  · unfold uM at hu
    apply BitVec.eq_of_toNat_eq
    rw [BitVec.toNat_and, show (BitVec.ofNat 64 1).toNat = 2 ^ 1 - 1 by decide, Nat.and_two_pow_sub_one_eq_mod]
    have := of_decide_eq_false hu
    simp
    omega
  · exact (low_one _).2 hu
theorem HeadUnlike_spec (p b : Int) (m : Bool) (t p' b' : Int) (m' : Bool) (t' : Int) (w : World) : Gives Try.prog n_loamlaw14_HeadUnlike #[hd p b m t, hd p' b' m' t'] w (.bool true) := by
  refine loamlaw14_HeadUnlike_of ?_
  unfold loamlaw14_HeadUnlike
  simp (disch := (first | omega | decide | (simp only [World.size_alloc, World.size_setCell, World.size_drew, List.mem_cons, List.not_mem_nil, or_false, not_false_eq_true] <;> omega) | fail)) only [↓xBox_r, ↓loadK_some, ↓loadsK_s, ↓loadsK_n, ↓loadsR_s, ↓loadsR_n, ↓storesK_s, ↓storesK_n, setCells_c, setCells_n, World.setCell_alloc_at, World.setCell_alloc_past, World.cell?_alloc_at, World.cell?_alloc_past, 
      World.frozen?_alloc_at, World.frozen?_alloc_past, World.size_alloc, ↓xPick_t, ↓xPick_f, ↓xGuard_tt, ↓xGuard_ff, ↓xGuard_tf, ↓xGuard_ft, ↓xIf_t, tick_eq, tickV_eq, ne_eq, not_true_eq_false, Int.reduceAdd, Int.reduceSub, Int.reduceMul, 
      Int.reduceEq, Int.reduceLT, Int.reduceLE, Bool.false_and, Bool.true_and, Bool.and_true, Bool.and_false, ↓xBin_add', ↓xBin_sub', ↓xBin_mul', ↓xBin_quo', ↓xBin_rem', wrap_in, ↓xIf_f, ↓xIf_tt, ↓xEx0, ↓xEx1, ↓xEx2, ↓xEx3, 
      ↓xBin_eqs, ↓xBin_nes, ↓xUn_not, ↓xu8_add, ↓xu8_and, ↓xu8_com, ↓xu8_shr, ↓xu8_eql, ↓xu8_neq, ↓xu16_add, ↓xu16_and, ↓xu16_com, ↓xu16_shr, ↓xu16_eql, ↓xu16_neq, ↓xu32_add, ↓xu32_and, ↓xu32_com, ↓xu32_shr, ↓xu32_eql, 
      ↓xu32_neq, ↓xu64_add, ↓xu64_and, ↓xu64_com, ↓xu64_shr, ↓xu64_eql, ↓xu64_neq, ↓xi64_eql, ↓xi64_neq, ↓xi64_and, ↓xi64_shr, ↓xi64_neg, Int.toNat_natCast, Int.reduceToNat, Nat.reduceMul, Nat.reduceAdd, Nat.reduceSub, 
      Nat.mul_one, List.nil_append, List.cons_append, List.getElem?_toArray, List.getElem?_cons_zero, List.getElem?_cons_succ, cells_int, cells_bool, cells_string, cells_slice, cells_pointer, cells_agg, one_int, one_bool, 
      one_string, one_slice, one_pointer, List.setIfInBounds_toArray, List.set_cons_zero, List.set_cons_succ, ↓xDet_s, ↓xDet_ld, ↓xDet_ld2, ↓xDet_ld3, ↓xDet_ld4, World.size_drew, Nat.zero_add, cell_drew, frozen_drew, cell_set_eq, 
      cell_set_o, cell_set_b, Option.map_some, World.frozen?_setCell, decide_true, decide_false, List.not_mem_nil, not_false_eq_true, ↓xGuard_tt, Bool.not_true, Bool.not_false, ←decide_not, ↓ld_4, ↓ld_63, ↓fa_63_2, ↓eb_4, ↓es_63, ↓nb_4, eq_self]
  refine loamlaw14_known_call (Gives.to (known14_spec _) fun w1 E1 => ?_)
  have z1 := E1.size
  try simp only [World.size_alloc, World.size_setCell, World.size_drew] at z1
  have e1_0 : ∀ o, w1.cell? ⟨w.heap.size, o, none⟩ = _ := fun o => E1.cell_o (by first | omega | (simp only [World.size_alloc, World.size_setCell, World.size_drew] <;> omega))
  have e1_1 : ∀ o, w1.cell? ⟨w.heap.size + 1, o, none⟩ = _ := fun o => E1.cell_o (by first | omega | (simp only [World.size_alloc, World.size_setCell, World.size_drew] <;> omega))
  simp (disch := (first | omega | decide | (simp only [World.size_alloc, World.size_setCell, World.size_drew, List.mem_cons, List.not_mem_nil, or_false, not_false_eq_true] <;> omega) | fail)) only [↓xBox_r, ↓loadK_some, ↓loadsK_s, ↓loadsK_n, ↓loadsR_s, ↓loadsR_n, ↓storesK_s, ↓storesK_n, setCells_c, setCells_n, World.setCell_alloc_at, World.setCell_alloc_past, World.cell?_alloc_at, World.cell?_alloc_past, 
      World.frozen?_alloc_at, World.frozen?_alloc_past, World.size_alloc, ↓xPick_t, ↓xPick_f, ↓xGuard_tt, ↓xGuard_ff, ↓xGuard_tf, ↓xGuard_ft, ↓xIf_t, tick_eq, tickV_eq, ne_eq, not_true_eq_false, Int.reduceAdd, Int.reduceSub, Int.reduceMul, 
      Int.reduceEq, Int.reduceLT, Int.reduceLE, Bool.false_and, Bool.true_and, Bool.and_true, Bool.and_false, ↓xBin_add', ↓xBin_sub', ↓xBin_mul', ↓xBin_quo', ↓xBin_rem', wrap_in, ↓xIf_f, ↓xIf_tt, ↓xEx0, ↓xEx1, ↓xEx2, ↓xEx3, 
      ↓xBin_eqs, ↓xBin_nes, ↓xUn_not, ↓xu8_add, ↓xu8_and, ↓xu8_com, ↓xu8_shr, ↓xu8_eql, ↓xu8_neq, ↓xu16_add, ↓xu16_and, ↓xu16_com, ↓xu16_shr, ↓xu16_eql, ↓xu16_neq, ↓xu32_add, ↓xu32_and, ↓xu32_com, ↓xu32_shr, ↓xu32_eql, 
      ↓xu32_neq, ↓xu64_add, ↓xu64_and, ↓xu64_com, ↓xu64_shr, ↓xu64_eql, ↓xu64_neq, ↓xi64_eql, ↓xi64_neq, ↓xi64_and, ↓xi64_shr, ↓xi64_neg, Int.toNat_natCast, Int.reduceToNat, Nat.reduceMul, Nat.reduceAdd, Nat.reduceSub, 
      Nat.mul_one, List.nil_append, List.cons_append, List.getElem?_toArray, List.getElem?_cons_zero, List.getElem?_cons_succ, cells_int, cells_bool, cells_string, cells_slice, cells_pointer, cells_agg, one_int, one_bool, 
      one_string, one_slice, one_pointer, List.setIfInBounds_toArray, List.set_cons_zero, List.set_cons_succ, ↓xDet_s, ↓xDet_ld, ↓xDet_ld2, ↓xDet_ld3, ↓xDet_ld4, World.size_drew, Nat.zero_add, cell_drew, frozen_drew, cell_set_eq, 
      cell_set_o, cell_set_b, Option.map_some, World.frozen?_setCell, decide_true, decide_false, List.not_mem_nil, not_false_eq_true, ↓xGuard_tt, Bool.not_true, Bool.not_false, ←decide_not, ↓ld_4, ↓ld_63, ↓fa_63_2, ↓eb_4, ↓es_63, ↓nb_4, e1_0, e1_1]
  refine head_Pack_call (Gives.to (Pack_spec _ _ _ _ _) fun w2 E2 => ?_)
  have z2 := E2.size
  try simp only [World.size_alloc, World.size_setCell, World.size_drew] at z2
  have e2_0 : ∀ o, w2.cell? ⟨w.heap.size, o, none⟩ = _ := fun o => E2.cell_o (by first | omega | (simp only [World.size_alloc, World.size_setCell, World.size_drew] <;> omega))
  have e2_1 : ∀ o, w2.cell? ⟨w.heap.size + 1, o, none⟩ = _ := fun o => E2.cell_o (by first | omega | (simp only [World.size_alloc, World.size_setCell, World.size_drew] <;> omega))
  simp (disch := (first | omega | decide | (simp only [World.size_alloc, World.size_setCell, World.size_drew, List.mem_cons, List.not_mem_nil, or_false, not_false_eq_true] <;> omega) | fail)) only [↓xBox_r, ↓loadK_some, ↓loadsK_s, ↓loadsK_n, ↓loadsR_s, ↓loadsR_n, ↓storesK_s, ↓storesK_n, setCells_c, setCells_n, World.setCell_alloc_at, World.setCell_alloc_past, World.cell?_alloc_at, World.cell?_alloc_past, 
      World.frozen?_alloc_at, World.frozen?_alloc_past, World.size_alloc, ↓xPick_t, ↓xPick_f, ↓xGuard_tt, ↓xGuard_ff, ↓xGuard_tf, ↓xGuard_ft, ↓xIf_t, tick_eq, tickV_eq, ne_eq, not_true_eq_false, Int.reduceAdd, Int.reduceSub, Int.reduceMul, 
      Int.reduceEq, Int.reduceLT, Int.reduceLE, Bool.false_and, Bool.true_and, Bool.and_true, Bool.and_false, ↓xBin_add', ↓xBin_sub', ↓xBin_mul', ↓xBin_quo', ↓xBin_rem', wrap_in, ↓xIf_f, ↓xIf_tt, ↓xEx0, ↓xEx1, ↓xEx2, ↓xEx3, 
      ↓xBin_eqs, ↓xBin_nes, ↓xUn_not, ↓xu8_add, ↓xu8_and, ↓xu8_com, ↓xu8_shr, ↓xu8_eql, ↓xu8_neq, ↓xu16_add, ↓xu16_and, ↓xu16_com, ↓xu16_shr, ↓xu16_eql, ↓xu16_neq, ↓xu32_add, ↓xu32_and, ↓xu32_com, ↓xu32_shr, ↓xu32_eql, 
      ↓xu32_neq, ↓xu64_add, ↓xu64_and, ↓xu64_com, ↓xu64_shr, ↓xu64_eql, ↓xu64_neq, ↓xi64_eql, ↓xi64_neq, ↓xi64_and, ↓xi64_shr, ↓xi64_neg, Int.toNat_natCast, Int.reduceToNat, Nat.reduceMul, Nat.reduceAdd, Nat.reduceSub, 
      Nat.mul_one, List.nil_append, List.cons_append, List.getElem?_toArray, List.getElem?_cons_zero, List.getElem?_cons_succ, cells_int, cells_bool, cells_string, cells_slice, cells_pointer, cells_agg, one_int, one_bool, 
      one_string, one_slice, one_pointer, List.setIfInBounds_toArray, List.set_cons_zero, List.set_cons_succ, ↓xDet_s, ↓xDet_ld, ↓xDet_ld2, ↓xDet_ld3, ↓xDet_ld4, World.size_drew, Nat.zero_add, cell_drew, frozen_drew, cell_set_eq, 
      cell_set_o, cell_set_b, Option.map_some, World.frozen?_setCell, decide_true, decide_false, List.not_mem_nil, not_false_eq_true, ↓xGuard_tt, Bool.not_true, Bool.not_false, ←decide_not, ↓ld_4, ↓ld_63, ↓fa_63_2, ↓eb_4, ↓es_63, ↓nb_4, e1_0, e1_1, e2_0, e2_1]
  refine head_Pack_call (Gives.to (Pack_spec _ _ _ _ _) fun w3 E3 => ?_)
  have z3 := E3.size
  try simp only [World.size_alloc, World.size_setCell, World.size_drew] at z3
  have e3_0 : ∀ o, w3.cell? ⟨w.heap.size, o, none⟩ = _ := fun o => E3.cell_o (by first | omega | (simp only [World.size_alloc, World.size_setCell, World.size_drew] <;> omega))
  have e3_1 : ∀ o, w3.cell? ⟨w.heap.size + 1, o, none⟩ = _ := fun o => E3.cell_o (by first | omega | (simp only [World.size_alloc, World.size_setCell, World.size_drew] <;> omega))
  by_cases h : rightP p b m t
  · have h1 : rightV p b m t = true := decide_eq_true h
    by_cases h' : rightP p' b' m' t'
    · have q1 := top_bit h
      have q2 := top_bit h'
      have q3 := low_bit h
      simp (disch := (first | omega | decide | (simp only [World.size_alloc, World.size_setCell, World.size_drew, List.mem_cons, List.not_mem_nil, or_false, not_false_eq_true] <;> omega) | fail)) only [↓xBox_r, ↓loadK_some, ↓loadsK_s, ↓loadsK_n, ↓loadsR_s, ↓loadsR_n, ↓storesK_s, ↓storesK_n, setCells_c, setCells_n, World.setCell_alloc_at, World.setCell_alloc_past, World.cell?_alloc_at, World.cell?_alloc_past, 
      World.frozen?_alloc_at, World.frozen?_alloc_past, World.size_alloc, ↓xPick_t, ↓xPick_f, ↓xGuard_tt, ↓xGuard_ff, ↓xGuard_tf, ↓xGuard_ft, ↓xIf_t, tick_eq, tickV_eq, ne_eq, not_true_eq_false, Int.reduceAdd, Int.reduceSub, Int.reduceMul, 
      Int.reduceEq, Int.reduceLT, Int.reduceLE, Bool.false_and, Bool.true_and, Bool.and_true, Bool.and_false, ↓xBin_add', ↓xBin_sub', ↓xBin_mul', ↓xBin_quo', ↓xBin_rem', wrap_in, ↓xIf_f, ↓xIf_tt, ↓xEx0, ↓xEx1, ↓xEx2, ↓xEx3, 
      ↓xBin_eqs, ↓xBin_nes, ↓xUn_not, ↓xu8_add, ↓xu8_and, ↓xu8_com, ↓xu8_shr, ↓xu8_eql, ↓xu8_neq, ↓xu16_add, ↓xu16_and, ↓xu16_com, ↓xu16_shr, ↓xu16_eql, ↓xu16_neq, ↓xu32_add, ↓xu32_and, ↓xu32_com, ↓xu32_shr, ↓xu32_eql, 
      ↓xu32_neq, ↓xu64_add, ↓xu64_and, ↓xu64_com, ↓xu64_shr, ↓xu64_eql, ↓xu64_neq, ↓xi64_eql, ↓xi64_neq, ↓xi64_and, ↓xi64_shr, ↓xi64_neg, Int.toNat_natCast, Int.reduceToNat, Nat.reduceMul, Nat.reduceAdd, Nat.reduceSub, 
      Nat.mul_one, List.nil_append, List.cons_append, List.getElem?_toArray, List.getElem?_cons_zero, List.getElem?_cons_succ, cells_int, cells_bool, cells_string, cells_slice, cells_pointer, cells_agg, one_int, one_bool, 
      one_string, one_slice, one_pointer, List.setIfInBounds_toArray, List.set_cons_zero, List.set_cons_succ, ↓xDet_s, ↓xDet_ld, ↓xDet_ld2, ↓xDet_ld3, ↓xDet_ld4, World.size_drew, Nat.zero_add, cell_drew, frozen_drew, cell_set_eq, 
      cell_set_o, cell_set_b, Option.map_some, World.frozen?_setCell, decide_true, decide_false, List.not_mem_nil, not_false_eq_true, ↓xGuard_tt, Bool.not_true, Bool.not_false, ←decide_not, ↓ld_4, ↓ld_63, ↓fa_63_2, ↓eb_4, ↓es_63, ↓nb_4, e1_0, e1_1, e2_0, e2_1, e3_0, e3_1, packE, if_pos h, if_pos h']
      by_cases e : packW p b m t = packW p' b' m' t'
      · obtain ⟨rfl, rfl, rfl, rfl⟩ := pack_inj h h' e
        simp (disch := (first | omega | decide | (simp only [World.size_alloc, World.size_setCell, World.size_drew, List.mem_cons, List.not_mem_nil, or_false, not_false_eq_true] <;> omega) | fail)) only [↓xBox_r, ↓loadK_some, ↓loadsK_s, ↓loadsK_n, ↓loadsR_s, ↓loadsR_n, ↓storesK_s, ↓storesK_n, setCells_c, setCells_n, World.setCell_alloc_at, World.setCell_alloc_past, World.cell?_alloc_at, World.cell?_alloc_past, 
      World.frozen?_alloc_at, World.frozen?_alloc_past, World.size_alloc, ↓xPick_t, ↓xPick_f, ↓xGuard_tt, ↓xGuard_ff, ↓xGuard_tf, ↓xGuard_ft, ↓xIf_t, tick_eq, tickV_eq, ne_eq, not_true_eq_false, Int.reduceAdd, Int.reduceSub, Int.reduceMul, 
      Int.reduceEq, Int.reduceLT, Int.reduceLE, Bool.false_and, Bool.true_and, Bool.and_true, Bool.and_false, ↓xBin_add', ↓xBin_sub', ↓xBin_mul', ↓xBin_quo', ↓xBin_rem', wrap_in, ↓xIf_f, ↓xIf_tt, ↓xEx0, ↓xEx1, ↓xEx2, ↓xEx3, 
      ↓xBin_eqs, ↓xBin_nes, ↓xUn_not, ↓xu8_add, ↓xu8_and, ↓xu8_com, ↓xu8_shr, ↓xu8_eql, ↓xu8_neq, ↓xu16_add, ↓xu16_and, ↓xu16_com, ↓xu16_shr, ↓xu16_eql, ↓xu16_neq, ↓xu32_add, ↓xu32_and, ↓xu32_com, ↓xu32_shr, ↓xu32_eql, 
      ↓xu32_neq, ↓xu64_add, ↓xu64_and, ↓xu64_com, ↓xu64_shr, ↓xu64_eql, ↓xu64_neq, ↓xi64_eql, ↓xi64_neq, ↓xi64_and, ↓xi64_shr, ↓xi64_neg, Int.toNat_natCast, Int.reduceToNat, Nat.reduceMul, Nat.reduceAdd, Nat.reduceSub, 
      Nat.mul_one, List.nil_append, List.cons_append, List.getElem?_toArray, List.getElem?_cons_zero, List.getElem?_cons_succ, cells_int, cells_bool, cells_string, cells_slice, cells_pointer, cells_agg, one_int, one_bool, 
      one_string, one_slice, one_pointer, List.setIfInBounds_toArray, List.set_cons_zero, List.set_cons_succ, ↓xDet_s, ↓xDet_ld, ↓xDet_ld2, ↓xDet_ld3, ↓xDet_ld4, World.size_drew, Nat.zero_add, cell_drew, frozen_drew, cell_set_eq, 
      cell_set_o, cell_set_b, Option.map_some, World.frozen?_setCell, decide_true, decide_false, List.not_mem_nil, not_false_eq_true, ↓xGuard_tt, Bool.not_true, Bool.not_false, ←decide_not, ↓ld_4, ↓ld_63, ↓fa_63_2, ↓eb_4, ↓es_63, ↓nb_4, e1_0, e1_1, e2_0, e2_1, e3_0, e3_1, packE, if_pos h, if_pos h', beq_self_eq_true, q1, q3]
        refine loamlaw14_map1_call (Gives.to (map1_spec _ _) fun w4 E4 => ?_)
        have z4 := E4.size
        try simp only [World.size_alloc, World.size_setCell, World.size_drew] at z4
        simp (disch := (first | omega | decide | (simp only [World.size_alloc, World.size_setCell, World.size_drew, List.mem_cons, List.not_mem_nil, or_false, not_false_eq_true] <;> omega) | fail)) only [↓xBox_r, ↓loadK_some, ↓loadsK_s, ↓loadsK_n, ↓loadsR_s, ↓loadsR_n, ↓storesK_s, ↓storesK_n, setCells_c, setCells_n, World.setCell_alloc_at, World.setCell_alloc_past, World.cell?_alloc_at, World.cell?_alloc_past, 
      World.frozen?_alloc_at, World.frozen?_alloc_past, World.size_alloc, ↓xPick_t, ↓xPick_f, ↓xGuard_tt, ↓xGuard_ff, ↓xGuard_tf, ↓xGuard_ft, ↓xIf_t, tick_eq, tickV_eq, ne_eq, not_true_eq_false, Int.reduceAdd, Int.reduceSub, Int.reduceMul, 
      Int.reduceEq, Int.reduceLT, Int.reduceLE, Bool.false_and, Bool.true_and, Bool.and_true, Bool.and_false, ↓xBin_add', ↓xBin_sub', ↓xBin_mul', ↓xBin_quo', ↓xBin_rem', wrap_in, ↓xIf_f, ↓xIf_tt, ↓xEx0, ↓xEx1, ↓xEx2, ↓xEx3, 
      ↓xBin_eqs, ↓xBin_nes, ↓xUn_not, ↓xu8_add, ↓xu8_and, ↓xu8_com, ↓xu8_shr, ↓xu8_eql, ↓xu8_neq, ↓xu16_add, ↓xu16_and, ↓xu16_com, ↓xu16_shr, ↓xu16_eql, ↓xu16_neq, ↓xu32_add, ↓xu32_and, ↓xu32_com, ↓xu32_shr, ↓xu32_eql, 
      ↓xu32_neq, ↓xu64_add, ↓xu64_and, ↓xu64_com, ↓xu64_shr, ↓xu64_eql, ↓xu64_neq, ↓xi64_eql, ↓xi64_neq, ↓xi64_and, ↓xi64_shr, ↓xi64_neg, Int.toNat_natCast, Int.reduceToNat, Nat.reduceMul, Nat.reduceAdd, Nat.reduceSub, 
      Nat.mul_one, List.nil_append, List.cons_append, List.getElem?_toArray, List.getElem?_cons_zero, List.getElem?_cons_succ, cells_int, cells_bool, cells_string, cells_slice, cells_pointer, cells_agg, one_int, one_bool, 
      one_string, one_slice, one_pointer, List.setIfInBounds_toArray, List.set_cons_zero, List.set_cons_succ, ↓xDet_s, ↓xDet_ld, ↓xDet_ld2, ↓xDet_ld3, ↓xDet_ld4, World.size_drew, Nat.zero_add, cell_drew, frozen_drew, cell_set_eq, 
      cell_set_o, cell_set_b, Option.map_some, World.frozen?_setCell, decide_true, decide_false, List.not_mem_nil, not_false_eq_true, ↓xGuard_tt, Bool.not_true, Bool.not_false, ←decide_not, ↓ld_4, ↓ld_63, ↓fa_63_2, ↓eb_4, ↓es_63, ↓nb_4, e1_0, e1_1, e2_0, e2_1, e3_0, e3_1, packE, if_pos h, if_pos h', beq_self_eq_true, q1, q3]
        exact ⟨by trivial, by (repeat (first | with_reducible exact Ext.refl _ _ | with_reducible assumption | with_reducible refine Ext.alloc' ?_ _ | with_reducible refine Ext.drew' ?_ | with_reducible refine Ext.set' ?_ ?_ | exact .inr (by first | omega | (simp only [World.size_alloc, World.size_drew, World.size_setCell] <;> omega)) | refine Ext.trans ?_ (by with_reducible assumption)))⟩
      · have e' : ¬ (p = p' ∧ b = b' ∧ m = m' ∧ t = t') := fun ⟨h1, h2, h3, h4⟩ => e (by rw [h1, h2, h3, h4])
        have e2 : (decide (p = p') && (decide (b = b') && ((m == m') && (decide (t = t') && true)))) = false := by
          rw [Bool.eq_false_iff]; intro hc; simp at hc; exact e' ⟨hc.1, hc.2.1, hc.2.2.1, hc.2.2.2⟩
        have e3 := e2
        rw [Bool.and_true] at e3
        simp (disch := (first | omega | decide | (simp only [World.size_alloc, World.size_setCell, World.size_drew, List.mem_cons, List.not_mem_nil, or_false, not_false_eq_true] <;> omega) | fail)) only [↓xBox_r, ↓loadK_some, ↓loadsK_s, ↓loadsK_n, ↓loadsR_s, ↓loadsR_n, ↓storesK_s, ↓storesK_n, setCells_c, setCells_n, World.setCell_alloc_at, World.setCell_alloc_past, World.cell?_alloc_at, World.cell?_alloc_past, 
      World.frozen?_alloc_at, World.frozen?_alloc_past, World.size_alloc, ↓xPick_t, ↓xPick_f, ↓xGuard_tt, ↓xGuard_ff, ↓xGuard_tf, ↓xGuard_ft, ↓xIf_t, tick_eq, tickV_eq, ne_eq, not_true_eq_false, Int.reduceAdd, Int.reduceSub, Int.reduceMul, 
      Int.reduceEq, Int.reduceLT, Int.reduceLE, Bool.false_and, Bool.true_and, Bool.and_true, Bool.and_false, ↓xBin_add', ↓xBin_sub', ↓xBin_mul', ↓xBin_quo', ↓xBin_rem', wrap_in, ↓xIf_f, ↓xIf_tt, ↓xEx0, ↓xEx1, ↓xEx2, ↓xEx3, 
      ↓xBin_eqs, ↓xBin_nes, ↓xUn_not, ↓xu8_add, ↓xu8_and, ↓xu8_com, ↓xu8_shr, ↓xu8_eql, ↓xu8_neq, ↓xu16_add, ↓xu16_and, ↓xu16_com, ↓xu16_shr, ↓xu16_eql, ↓xu16_neq, ↓xu32_add, ↓xu32_and, ↓xu32_com, ↓xu32_shr, ↓xu32_eql, 
      ↓xu32_neq, ↓xu64_add, ↓xu64_and, ↓xu64_com, ↓xu64_shr, ↓xu64_eql, ↓xu64_neq, ↓xi64_eql, ↓xi64_neq, ↓xi64_and, ↓xi64_shr, ↓xi64_neg, Int.toNat_natCast, Int.reduceToNat, Nat.reduceMul, Nat.reduceAdd, Nat.reduceSub, 
      Nat.mul_one, List.nil_append, List.cons_append, List.getElem?_toArray, List.getElem?_cons_zero, List.getElem?_cons_succ, cells_int, cells_bool, cells_string, cells_slice, cells_pointer, cells_agg, one_int, one_bool, 
      one_string, one_slice, one_pointer, List.setIfInBounds_toArray, List.set_cons_zero, List.set_cons_succ, ↓xDet_s, ↓xDet_ld, ↓xDet_ld2, ↓xDet_ld3, ↓xDet_ld4, World.size_drew, Nat.zero_add, cell_drew, frozen_drew, cell_set_eq, 
      cell_set_o, cell_set_b, Option.map_some, World.frozen?_setCell, decide_true, decide_false, List.not_mem_nil, not_false_eq_true, ↓xGuard_tt, Bool.not_true, Bool.not_false, ←decide_not, ↓ld_4, ↓ld_63, ↓fa_63_2, ↓eb_4, ↓es_63, ↓nb_4, e1_0, e1_1, e2_0, e2_1, e3_0, e3_1, packE, if_pos h, if_pos h', e2, e3, decide_eq_false e, beq_self_eq_true, q1, q2, q3]
        refine loamlaw14_map1_call (Gives.to (map1_spec _ _) fun w5 E5 => ?_)
        have z5 := E5.size
        try simp only [World.size_alloc, World.size_setCell, World.size_drew] at z5
        simp (disch := (first | omega | decide | (simp only [World.size_alloc, World.size_setCell, World.size_drew, List.mem_cons, List.not_mem_nil, or_false, not_false_eq_true] <;> omega) | fail)) only [↓xBox_r, ↓loadK_some, ↓loadsK_s, ↓loadsK_n, ↓loadsR_s, ↓loadsR_n, ↓storesK_s, ↓storesK_n, setCells_c, setCells_n, World.setCell_alloc_at, World.setCell_alloc_past, World.cell?_alloc_at, World.cell?_alloc_past, 
      World.frozen?_alloc_at, World.frozen?_alloc_past, World.size_alloc, ↓xPick_t, ↓xPick_f, ↓xGuard_tt, ↓xGuard_ff, ↓xGuard_tf, ↓xGuard_ft, ↓xIf_t, tick_eq, tickV_eq, ne_eq, not_true_eq_false, Int.reduceAdd, Int.reduceSub, Int.reduceMul, 
      Int.reduceEq, Int.reduceLT, Int.reduceLE, Bool.false_and, Bool.true_and, Bool.and_true, Bool.and_false, ↓xBin_add', ↓xBin_sub', ↓xBin_mul', ↓xBin_quo', ↓xBin_rem', wrap_in, ↓xIf_f, ↓xIf_tt, ↓xEx0, ↓xEx1, ↓xEx2, ↓xEx3, 
      ↓xBin_eqs, ↓xBin_nes, ↓xUn_not, ↓xu8_add, ↓xu8_and, ↓xu8_com, ↓xu8_shr, ↓xu8_eql, ↓xu8_neq, ↓xu16_add, ↓xu16_and, ↓xu16_com, ↓xu16_shr, ↓xu16_eql, ↓xu16_neq, ↓xu32_add, ↓xu32_and, ↓xu32_com, ↓xu32_shr, ↓xu32_eql, 
      ↓xu32_neq, ↓xu64_add, ↓xu64_and, ↓xu64_com, ↓xu64_shr, ↓xu64_eql, ↓xu64_neq, ↓xi64_eql, ↓xi64_neq, ↓xi64_and, ↓xi64_shr, ↓xi64_neg, Int.toNat_natCast, Int.reduceToNat, Nat.reduceMul, Nat.reduceAdd, Nat.reduceSub, 
      Nat.mul_one, List.nil_append, List.cons_append, List.getElem?_toArray, List.getElem?_cons_zero, List.getElem?_cons_succ, cells_int, cells_bool, cells_string, cells_slice, cells_pointer, cells_agg, one_int, one_bool, 
      one_string, one_slice, one_pointer, List.setIfInBounds_toArray, List.set_cons_zero, List.set_cons_succ, ↓xDet_s, ↓xDet_ld, ↓xDet_ld2, ↓xDet_ld3, ↓xDet_ld4, World.size_drew, Nat.zero_add, cell_drew, frozen_drew, cell_set_eq, 
      cell_set_o, cell_set_b, Option.map_some, World.frozen?_setCell, decide_true, decide_false, List.not_mem_nil, not_false_eq_true, ↓xGuard_tt, Bool.not_true, Bool.not_false, ←decide_not, ↓ld_4, ↓ld_63, ↓fa_63_2, ↓eb_4, ↓es_63, ↓nb_4, e1_0, e1_1, e2_0, e2_1, e3_0, e3_1, packE, if_pos h, if_pos h', e2, e3, decide_eq_false e, beq_self_eq_true, q1, q2, q3]
        exact ⟨by trivial, by (repeat (first | with_reducible exact Ext.refl _ _ | with_reducible assumption | with_reducible refine Ext.alloc' ?_ _ | with_reducible refine Ext.drew' ?_ | with_reducible refine Ext.set' ?_ ?_ | exact .inr (by first | omega | (simp only [World.size_alloc, World.size_drew, World.size_setCell] <;> omega)) | refine Ext.trans ?_ (by with_reducible assumption)))⟩
    · simp (disch := (first | omega | decide | (simp only [World.size_alloc, World.size_setCell, World.size_drew, List.mem_cons, List.not_mem_nil, or_false, not_false_eq_true] <;> omega) | fail)) only [↓xBox_r, ↓loadK_some, ↓loadsK_s, ↓loadsK_n, ↓loadsR_s, ↓loadsR_n, ↓storesK_s, ↓storesK_n, setCells_c, setCells_n, World.setCell_alloc_at, World.setCell_alloc_past, World.cell?_alloc_at, World.cell?_alloc_past, 
      World.frozen?_alloc_at, World.frozen?_alloc_past, World.size_alloc, ↓xPick_t, ↓xPick_f, ↓xGuard_tt, ↓xGuard_ff, ↓xGuard_tf, ↓xGuard_ft, ↓xIf_t, tick_eq, tickV_eq, ne_eq, not_true_eq_false, Int.reduceAdd, Int.reduceSub, Int.reduceMul, 
      Int.reduceEq, Int.reduceLT, Int.reduceLE, Bool.false_and, Bool.true_and, Bool.and_true, Bool.and_false, ↓xBin_add', ↓xBin_sub', ↓xBin_mul', ↓xBin_quo', ↓xBin_rem', wrap_in, ↓xIf_f, ↓xIf_tt, ↓xEx0, ↓xEx1, ↓xEx2, ↓xEx3, 
      ↓xBin_eqs, ↓xBin_nes, ↓xUn_not, ↓xu8_add, ↓xu8_and, ↓xu8_com, ↓xu8_shr, ↓xu8_eql, ↓xu8_neq, ↓xu16_add, ↓xu16_and, ↓xu16_com, ↓xu16_shr, ↓xu16_eql, ↓xu16_neq, ↓xu32_add, ↓xu32_and, ↓xu32_com, ↓xu32_shr, ↓xu32_eql, 
      ↓xu32_neq, ↓xu64_add, ↓xu64_and, ↓xu64_com, ↓xu64_shr, ↓xu64_eql, ↓xu64_neq, ↓xi64_eql, ↓xi64_neq, ↓xi64_and, ↓xi64_shr, ↓xi64_neg, Int.toNat_natCast, Int.reduceToNat, Nat.reduceMul, Nat.reduceAdd, Nat.reduceSub, 
      Nat.mul_one, List.nil_append, List.cons_append, List.getElem?_toArray, List.getElem?_cons_zero, List.getElem?_cons_succ, cells_int, cells_bool, cells_string, cells_slice, cells_pointer, cells_agg, one_int, one_bool, 
      one_string, one_slice, one_pointer, List.setIfInBounds_toArray, List.set_cons_zero, List.set_cons_succ, ↓xDet_s, ↓xDet_ld, ↓xDet_ld2, ↓xDet_ld3, ↓xDet_ld4, World.size_drew, Nat.zero_add, cell_drew, frozen_drew, cell_set_eq, 
      cell_set_o, cell_set_b, Option.map_some, World.frozen?_setCell, decide_true, decide_false, List.not_mem_nil, not_false_eq_true, ↓xGuard_tt, Bool.not_true, Bool.not_false, ←decide_not, ↓ld_4, ↓ld_63, ↓fa_63_2, ↓eb_4, ↓es_63, ↓nb_4, e1_0, e1_1, e2_0, e2_1, e3_0, e3_1, packE, if_pos h, if_neg h']
      refine head_Right_call (Gives.to (Right_spec _ _ _ _ _) fun w6 E6 => ?_)
      have z6 := E6.size
      try simp only [World.size_alloc, World.size_setCell, World.size_drew] at z6
      have e6_0 : ∀ o, w6.cell? ⟨w.heap.size, o, none⟩ = _ := fun o => E6.cell_o (by first | omega | (simp only [World.size_alloc, World.size_setCell, World.size_drew] <;> omega))
      have e6_1 : ∀ o, w6.cell? ⟨w.heap.size + 1, o, none⟩ = _ := fun o => E6.cell_o (by first | omega | (simp only [World.size_alloc, World.size_setCell, World.size_drew] <;> omega))
      simp (disch := (first | omega | decide | (simp only [World.size_alloc, World.size_setCell, World.size_drew, List.mem_cons, List.not_mem_nil, or_false, not_false_eq_true] <;> omega) | fail)) only [↓xBox_r, ↓loadK_some, ↓loadsK_s, ↓loadsK_n, ↓loadsR_s, ↓loadsR_n, ↓storesK_s, ↓storesK_n, setCells_c, setCells_n, World.setCell_alloc_at, World.setCell_alloc_past, World.cell?_alloc_at, World.cell?_alloc_past, 
      World.frozen?_alloc_at, World.frozen?_alloc_past, World.size_alloc, ↓xPick_t, ↓xPick_f, ↓xGuard_tt, ↓xGuard_ff, ↓xGuard_tf, ↓xGuard_ft, ↓xIf_t, tick_eq, tickV_eq, ne_eq, not_true_eq_false, Int.reduceAdd, Int.reduceSub, Int.reduceMul, 
      Int.reduceEq, Int.reduceLT, Int.reduceLE, Bool.false_and, Bool.true_and, Bool.and_true, Bool.and_false, ↓xBin_add', ↓xBin_sub', ↓xBin_mul', ↓xBin_quo', ↓xBin_rem', wrap_in, ↓xIf_f, ↓xIf_tt, ↓xEx0, ↓xEx1, ↓xEx2, ↓xEx3, 
      ↓xBin_eqs, ↓xBin_nes, ↓xUn_not, ↓xu8_add, ↓xu8_and, ↓xu8_com, ↓xu8_shr, ↓xu8_eql, ↓xu8_neq, ↓xu16_add, ↓xu16_and, ↓xu16_com, ↓xu16_shr, ↓xu16_eql, ↓xu16_neq, ↓xu32_add, ↓xu32_and, ↓xu32_com, ↓xu32_shr, ↓xu32_eql, 
      ↓xu32_neq, ↓xu64_add, ↓xu64_and, ↓xu64_com, ↓xu64_shr, ↓xu64_eql, ↓xu64_neq, ↓xi64_eql, ↓xi64_neq, ↓xi64_and, ↓xi64_shr, ↓xi64_neg, Int.toNat_natCast, Int.reduceToNat, Nat.reduceMul, Nat.reduceAdd, Nat.reduceSub, 
      Nat.mul_one, List.nil_append, List.cons_append, List.getElem?_toArray, List.getElem?_cons_zero, List.getElem?_cons_succ, cells_int, cells_bool, cells_string, cells_slice, cells_pointer, cells_agg, one_int, one_bool, 
      one_string, one_slice, one_pointer, List.setIfInBounds_toArray, List.set_cons_zero, List.set_cons_succ, ↓xDet_s, ↓xDet_ld, ↓xDet_ld2, ↓xDet_ld3, ↓xDet_ld4, World.size_drew, Nat.zero_add, cell_drew, frozen_drew, cell_set_eq, 
      cell_set_o, cell_set_b, Option.map_some, World.frozen?_setCell, decide_true, decide_false, List.not_mem_nil, not_false_eq_true, ↓xGuard_tt, Bool.not_true, Bool.not_false, ←decide_not, ↓ld_4, ↓ld_63, ↓fa_63_2, ↓eb_4, ↓es_63, ↓nb_4, e1_0, e1_1, e2_0, e2_1, e3_0, e3_1, packE, if_pos h, if_neg h', e6_0, e6_1, h1]
      exact ⟨by trivial, by (repeat (first | with_reducible exact Ext.refl _ _ | with_reducible assumption | with_reducible refine Ext.alloc' ?_ _ | with_reducible refine Ext.drew' ?_ | with_reducible refine Ext.set' ?_ ?_ | exact .inr (by first | omega | (simp only [World.size_alloc, World.size_drew, World.size_setCell] <;> omega)) | refine Ext.trans ?_ (by with_reducible assumption)))⟩
  · have h1 : rightV p b m t = false := decide_eq_false h
    by_cases h' : rightP p' b' m' t'
    · have h2 : rightV p' b' m' t' = true := decide_eq_true h'
      simp (disch := (first | omega | decide | (simp only [World.size_alloc, World.size_setCell, World.size_drew, List.mem_cons, List.not_mem_nil, or_false, not_false_eq_true] <;> omega) | fail)) only [↓xBox_r, ↓loadK_some, ↓loadsK_s, ↓loadsK_n, ↓loadsR_s, ↓loadsR_n, ↓storesK_s, ↓storesK_n, setCells_c, setCells_n, World.setCell_alloc_at, World.setCell_alloc_past, World.cell?_alloc_at, World.cell?_alloc_past, 
      World.frozen?_alloc_at, World.frozen?_alloc_past, World.size_alloc, ↓xPick_t, ↓xPick_f, ↓xGuard_tt, ↓xGuard_ff, ↓xGuard_tf, ↓xGuard_ft, ↓xIf_t, tick_eq, tickV_eq, ne_eq, not_true_eq_false, Int.reduceAdd, Int.reduceSub, Int.reduceMul, 
      Int.reduceEq, Int.reduceLT, Int.reduceLE, Bool.false_and, Bool.true_and, Bool.and_true, Bool.and_false, ↓xBin_add', ↓xBin_sub', ↓xBin_mul', ↓xBin_quo', ↓xBin_rem', wrap_in, ↓xIf_f, ↓xIf_tt, ↓xEx0, ↓xEx1, ↓xEx2, ↓xEx3, 
      ↓xBin_eqs, ↓xBin_nes, ↓xUn_not, ↓xu8_add, ↓xu8_and, ↓xu8_com, ↓xu8_shr, ↓xu8_eql, ↓xu8_neq, ↓xu16_add, ↓xu16_and, ↓xu16_com, ↓xu16_shr, ↓xu16_eql, ↓xu16_neq, ↓xu32_add, ↓xu32_and, ↓xu32_com, ↓xu32_shr, ↓xu32_eql, 
      ↓xu32_neq, ↓xu64_add, ↓xu64_and, ↓xu64_com, ↓xu64_shr, ↓xu64_eql, ↓xu64_neq, ↓xi64_eql, ↓xi64_neq, ↓xi64_and, ↓xi64_shr, ↓xi64_neg, Int.toNat_natCast, Int.reduceToNat, Nat.reduceMul, Nat.reduceAdd, Nat.reduceSub, 
      Nat.mul_one, List.nil_append, List.cons_append, List.getElem?_toArray, List.getElem?_cons_zero, List.getElem?_cons_succ, cells_int, cells_bool, cells_string, cells_slice, cells_pointer, cells_agg, one_int, one_bool, 
      one_string, one_slice, one_pointer, List.setIfInBounds_toArray, List.set_cons_zero, List.set_cons_succ, ↓xDet_s, ↓xDet_ld, ↓xDet_ld2, ↓xDet_ld3, ↓xDet_ld4, World.size_drew, Nat.zero_add, cell_drew, frozen_drew, cell_set_eq, 
      cell_set_o, cell_set_b, Option.map_some, World.frozen?_setCell, decide_true, decide_false, List.not_mem_nil, not_false_eq_true, ↓xGuard_tt, Bool.not_true, Bool.not_false, ←decide_not, ↓ld_4, ↓ld_63, ↓fa_63_2, ↓eb_4, ↓es_63, ↓nb_4, e1_0, e1_1, e2_0, e2_1, e3_0, e3_1, packE, if_neg h, if_pos h']
      refine head_Right_call (Gives.to (Right_spec _ _ _ _ _) fun w7 E7 => ?_)
      have z7 := E7.size
      try simp only [World.size_alloc, World.size_setCell, World.size_drew] at z7
      have e7_0 : ∀ o, w7.cell? ⟨w.heap.size, o, none⟩ = _ := fun o => E7.cell_o (by first | omega | (simp only [World.size_alloc, World.size_setCell, World.size_drew] <;> omega))
      have e7_1 : ∀ o, w7.cell? ⟨w.heap.size + 1, o, none⟩ = _ := fun o => E7.cell_o (by first | omega | (simp only [World.size_alloc, World.size_setCell, World.size_drew] <;> omega))
      simp (disch := (first | omega | decide | (simp only [World.size_alloc, World.size_setCell, World.size_drew, List.mem_cons, List.not_mem_nil, or_false, not_false_eq_true] <;> omega) | fail)) only [↓xBox_r, ↓loadK_some, ↓loadsK_s, ↓loadsK_n, ↓loadsR_s, ↓loadsR_n, ↓storesK_s, ↓storesK_n, setCells_c, setCells_n, World.setCell_alloc_at, World.setCell_alloc_past, World.cell?_alloc_at, World.cell?_alloc_past, 
      World.frozen?_alloc_at, World.frozen?_alloc_past, World.size_alloc, ↓xPick_t, ↓xPick_f, ↓xGuard_tt, ↓xGuard_ff, ↓xGuard_tf, ↓xGuard_ft, ↓xIf_t, tick_eq, tickV_eq, ne_eq, not_true_eq_false, Int.reduceAdd, Int.reduceSub, Int.reduceMul, 
      Int.reduceEq, Int.reduceLT, Int.reduceLE, Bool.false_and, Bool.true_and, Bool.and_true, Bool.and_false, ↓xBin_add', ↓xBin_sub', ↓xBin_mul', ↓xBin_quo', ↓xBin_rem', wrap_in, ↓xIf_f, ↓xIf_tt, ↓xEx0, ↓xEx1, ↓xEx2, ↓xEx3, 
      ↓xBin_eqs, ↓xBin_nes, ↓xUn_not, ↓xu8_add, ↓xu8_and, ↓xu8_com, ↓xu8_shr, ↓xu8_eql, ↓xu8_neq, ↓xu16_add, ↓xu16_and, ↓xu16_com, ↓xu16_shr, ↓xu16_eql, ↓xu16_neq, ↓xu32_add, ↓xu32_and, ↓xu32_com, ↓xu32_shr, ↓xu32_eql, 
      ↓xu32_neq, ↓xu64_add, ↓xu64_and, ↓xu64_com, ↓xu64_shr, ↓xu64_eql, ↓xu64_neq, ↓xi64_eql, ↓xi64_neq, ↓xi64_and, ↓xi64_shr, ↓xi64_neg, Int.toNat_natCast, Int.reduceToNat, Nat.reduceMul, Nat.reduceAdd, Nat.reduceSub, 
      Nat.mul_one, List.nil_append, List.cons_append, List.getElem?_toArray, List.getElem?_cons_zero, List.getElem?_cons_succ, cells_int, cells_bool, cells_string, cells_slice, cells_pointer, cells_agg, one_int, one_bool, 
      one_string, one_slice, one_pointer, List.setIfInBounds_toArray, List.set_cons_zero, List.set_cons_succ, ↓xDet_s, ↓xDet_ld, ↓xDet_ld2, ↓xDet_ld3, ↓xDet_ld4, World.size_drew, Nat.zero_add, cell_drew, frozen_drew, cell_set_eq, 
      cell_set_o, cell_set_b, Option.map_some, World.frozen?_setCell, decide_true, decide_false, List.not_mem_nil, not_false_eq_true, ↓xGuard_tt, Bool.not_true, Bool.not_false, ←decide_not, ↓ld_4, ↓ld_63, ↓fa_63_2, ↓eb_4, ↓es_63, ↓nb_4, e1_0, e1_1, e2_0, e2_1, e3_0, e3_1, packE, if_neg h, if_pos h', e7_0, e7_1, h2]
      exact ⟨by trivial, by (repeat (first | with_reducible exact Ext.refl _ _ | with_reducible assumption | with_reducible refine Ext.alloc' ?_ _ | with_reducible refine Ext.drew' ?_ | with_reducible refine Ext.set' ?_ ?_ | exact .inr (by first | omega | (simp only [World.size_alloc, World.size_drew, World.size_setCell] <;> omega)) | refine Ext.trans ?_ (by with_reducible assumption)))⟩
    · have h2 : rightV p' b' m' t' = false := decide_eq_false h'
      simp (disch := (first | omega | decide | (simp only [World.size_alloc, World.size_setCell, World.size_drew, List.mem_cons, List.not_mem_nil, or_false, not_false_eq_true] <;> omega) | fail)) only [↓xBox_r, ↓loadK_some, ↓loadsK_s, ↓loadsK_n, ↓loadsR_s, ↓loadsR_n, ↓storesK_s, ↓storesK_n, setCells_c, setCells_n, World.setCell_alloc_at, World.setCell_alloc_past, World.cell?_alloc_at, World.cell?_alloc_past, 
      World.frozen?_alloc_at, World.frozen?_alloc_past, World.size_alloc, ↓xPick_t, ↓xPick_f, ↓xGuard_tt, ↓xGuard_ff, ↓xGuard_tf, ↓xGuard_ft, ↓xIf_t, tick_eq, tickV_eq, ne_eq, not_true_eq_false, Int.reduceAdd, Int.reduceSub, Int.reduceMul, 
      Int.reduceEq, Int.reduceLT, Int.reduceLE, Bool.false_and, Bool.true_and, Bool.and_true, Bool.and_false, ↓xBin_add', ↓xBin_sub', ↓xBin_mul', ↓xBin_quo', ↓xBin_rem', wrap_in, ↓xIf_f, ↓xIf_tt, ↓xEx0, ↓xEx1, ↓xEx2, ↓xEx3, 
      ↓xBin_eqs, ↓xBin_nes, ↓xUn_not, ↓xu8_add, ↓xu8_and, ↓xu8_com, ↓xu8_shr, ↓xu8_eql, ↓xu8_neq, ↓xu16_add, ↓xu16_and, ↓xu16_com, ↓xu16_shr, ↓xu16_eql, ↓xu16_neq, ↓xu32_add, ↓xu32_and, ↓xu32_com, ↓xu32_shr, ↓xu32_eql, 
      ↓xu32_neq, ↓xu64_add, ↓xu64_and, ↓xu64_com, ↓xu64_shr, ↓xu64_eql, ↓xu64_neq, ↓xi64_eql, ↓xi64_neq, ↓xi64_and, ↓xi64_shr, ↓xi64_neg, Int.toNat_natCast, Int.reduceToNat, Nat.reduceMul, Nat.reduceAdd, Nat.reduceSub, 
      Nat.mul_one, List.nil_append, List.cons_append, List.getElem?_toArray, List.getElem?_cons_zero, List.getElem?_cons_succ, cells_int, cells_bool, cells_string, cells_slice, cells_pointer, cells_agg, one_int, one_bool, 
      one_string, one_slice, one_pointer, List.setIfInBounds_toArray, List.set_cons_zero, List.set_cons_succ, ↓xDet_s, ↓xDet_ld, ↓xDet_ld2, ↓xDet_ld3, ↓xDet_ld4, World.size_drew, Nat.zero_add, cell_drew, frozen_drew, cell_set_eq, 
      cell_set_o, cell_set_b, Option.map_some, World.frozen?_setCell, decide_true, decide_false, List.not_mem_nil, not_false_eq_true, ↓xGuard_tt, Bool.not_true, Bool.not_false, ←decide_not, ↓ld_4, ↓ld_63, ↓fa_63_2, ↓eb_4, ↓es_63, ↓nb_4, e1_0, e1_1, e2_0, e2_1, e3_0, e3_1, packE, if_neg h, if_neg h']
      refine head_Right_call (Gives.to (Right_spec _ _ _ _ _) fun w8 E8 => ?_)
      have z8 := E8.size
      try simp only [World.size_alloc, World.size_setCell, World.size_drew] at z8
      have e8_0 : ∀ o, w8.cell? ⟨w.heap.size, o, none⟩ = _ := fun o => E8.cell_o (by first | omega | (simp only [World.size_alloc, World.size_setCell, World.size_drew] <;> omega))
      have e8_1 : ∀ o, w8.cell? ⟨w.heap.size + 1, o, none⟩ = _ := fun o => E8.cell_o (by first | omega | (simp only [World.size_alloc, World.size_setCell, World.size_drew] <;> omega))
      simp (disch := (first | omega | decide | (simp only [World.size_alloc, World.size_setCell, World.size_drew, List.mem_cons, List.not_mem_nil, or_false, not_false_eq_true] <;> omega) | fail)) only [↓xBox_r, ↓loadK_some, ↓loadsK_s, ↓loadsK_n, ↓loadsR_s, ↓loadsR_n, ↓storesK_s, ↓storesK_n, setCells_c, setCells_n, World.setCell_alloc_at, World.setCell_alloc_past, World.cell?_alloc_at, World.cell?_alloc_past, 
      World.frozen?_alloc_at, World.frozen?_alloc_past, World.size_alloc, ↓xPick_t, ↓xPick_f, ↓xGuard_tt, ↓xGuard_ff, ↓xGuard_tf, ↓xGuard_ft, ↓xIf_t, tick_eq, tickV_eq, ne_eq, not_true_eq_false, Int.reduceAdd, Int.reduceSub, Int.reduceMul, 
      Int.reduceEq, Int.reduceLT, Int.reduceLE, Bool.false_and, Bool.true_and, Bool.and_true, Bool.and_false, ↓xBin_add', ↓xBin_sub', ↓xBin_mul', ↓xBin_quo', ↓xBin_rem', wrap_in, ↓xIf_f, ↓xIf_tt, ↓xEx0, ↓xEx1, ↓xEx2, ↓xEx3, 
      ↓xBin_eqs, ↓xBin_nes, ↓xUn_not, ↓xu8_add, ↓xu8_and, ↓xu8_com, ↓xu8_shr, ↓xu8_eql, ↓xu8_neq, ↓xu16_add, ↓xu16_and, ↓xu16_com, ↓xu16_shr, ↓xu16_eql, ↓xu16_neq, ↓xu32_add, ↓xu32_and, ↓xu32_com, ↓xu32_shr, ↓xu32_eql, 
      ↓xu32_neq, ↓xu64_add, ↓xu64_and, ↓xu64_com, ↓xu64_shr, ↓xu64_eql, ↓xu64_neq, ↓xi64_eql, ↓xi64_neq, ↓xi64_and, ↓xi64_shr, ↓xi64_neg, Int.toNat_natCast, Int.reduceToNat, Nat.reduceMul, Nat.reduceAdd, Nat.reduceSub, 
      Nat.mul_one, List.nil_append, List.cons_append, List.getElem?_toArray, List.getElem?_cons_zero, List.getElem?_cons_succ, cells_int, cells_bool, cells_string, cells_slice, cells_pointer, cells_agg, one_int, one_bool, 
      one_string, one_slice, one_pointer, List.setIfInBounds_toArray, List.set_cons_zero, List.set_cons_succ, ↓xDet_s, ↓xDet_ld, ↓xDet_ld2, ↓xDet_ld3, ↓xDet_ld4, World.size_drew, Nat.zero_add, cell_drew, frozen_drew, cell_set_eq, 
      cell_set_o, cell_set_b, Option.map_some, World.frozen?_setCell, decide_true, decide_false, List.not_mem_nil, not_false_eq_true, ↓xGuard_tt, Bool.not_true, Bool.not_false, ←decide_not, ↓ld_4, ↓ld_63, ↓fa_63_2, ↓eb_4, ↓es_63, ↓nb_4, e1_0, e1_1, e2_0, e2_1, e3_0, e3_1, packE, if_neg h, if_neg h', e8_0, e8_1, h1]
      exact ⟨by trivial, by (repeat (first | with_reducible exact Ext.refl _ _ | with_reducible assumption | with_reducible refine Ext.alloc' ?_ _ | with_reducible refine Ext.drew' ?_ | with_reducible refine Ext.set' ?_ ?_ | exact .inr (by first | omega | (simp only [World.size_alloc, World.size_drew, World.size_setCell] <;> omega)) | refine Ext.trans ?_ (by with_reducible assumption)))⟩

theorem HeadSizes_spec (n k : Int) (hn : 0 ≤ n ∧ n ≤ 255) (hk : 0 ≤ k ∧ k ≤ 65535) (w : World) : Gives Try.prog n_loamlaw14_HeadSizes #[.int .u8 n, .int .u16 k] w (.bool true) := by
  rw [u8_of hn.1 hn.2, u16_of hk.1 hk.2]
  generalize BitVec.ofInt 8 n = x
  generalize BitVec.ofInt 16 k = y
  have hx : (x % BitVec.ofNat 8 65).toNat ≤ 64 := by rw [BitVec.toNat_umod, show (BitVec.ofNat 8 65).toNat = 65 by decide]; omega
  have hy : (y % BitVec.ofNat 16 1025).toNat ≤ 1024 := by rw [BitVec.toNat_umod, show (BitVec.ofNat 16 1025).toNat = 1025 by decide]; omega
  refine loamlaw14_HeadSizes_of ?_
  unfold loamlaw14_HeadSizes
  simp (disch := (first | omega | decide | (simp only [World.size_alloc, World.size_setCell, World.size_drew, List.mem_cons, List.not_mem_nil, or_false, not_false_eq_true] <;> omega) | fail)) only [↓xBox_r, ↓loadK_some, ↓loadsK_s, ↓loadsK_n, ↓loadsR_s, ↓loadsR_n, ↓storesK_s, ↓storesK_n, setCells_c, setCells_n, World.setCell_alloc_at, World.setCell_alloc_past, World.cell?_alloc_at, World.cell?_alloc_past, 
      World.frozen?_alloc_at, World.frozen?_alloc_past, World.size_alloc, ↓xPick_t, ↓xPick_f, ↓xGuard_tt, ↓xGuard_ff, ↓xGuard_tf, ↓xGuard_ft, ↓xIf_t, tick_eq, tickV_eq, ne_eq, not_true_eq_false, Int.reduceAdd, Int.reduceSub, Int.reduceMul, 
      Int.reduceEq, Int.reduceLT, Int.reduceLE, Bool.false_and, Bool.true_and, Bool.and_true, Bool.and_false, ↓xBin_add', ↓xBin_sub', ↓xBin_mul', ↓xBin_quo', ↓xBin_rem', wrap_in, ↓xIf_f, ↓xIf_tt, ↓xEx0, ↓xEx1, ↓xEx2, ↓xEx3, 
      ↓xBin_eqs, ↓xBin_nes, ↓xUn_not, ↓xu8_add, ↓xu8_sub, ↓xu8_mul, ↓xu8_rem, ↓xu8_com, ↓xu8_lss, ↓xu8_leq, ↓xu8_geq, ↓xu16_add, ↓xu16_sub, ↓xu16_mul, ↓xu16_rem, ↓xu16_com, ↓xu16_lss, ↓xu16_leq, ↓xu16_geq, ↓xu32_add, ↓xu32_sub, 
      ↓xu32_mul, ↓xu32_rem, ↓xu32_com, ↓xu32_lss, ↓xu32_leq, ↓xu32_geq, ↓xu64_add, ↓xu64_sub, ↓xu64_mul, ↓xu64_rem, ↓xu64_com, ↓xu64_lss, ↓xu64_leq, ↓xu64_geq, ↓xi64_lss, ↓xi64_leq, ↓xi64_geq, Int.toNat_natCast, Int.reduceToNat, 
      Nat.reduceMul, Nat.reduceAdd, Nat.reduceSub, Nat.mul_one, List.nil_append, List.cons_append, List.getElem?_toArray, List.getElem?_cons_zero, List.getElem?_cons_succ, cells_int, cells_bool, cells_string, cells_slice, 
      cells_pointer, cells_agg, one_int, one_bool, one_string, one_slice, one_pointer, List.setIfInBounds_toArray, List.set_cons_zero, List.set_cons_succ, ↓xDet_s, ↓xDet_ld, ↓xDet_ld2, ↓xDet_ld3, ↓xDet_ld4, World.size_drew, 
      Nat.zero_add, cell_drew, frozen_drew, cell_set_eq, cell_set_o, cell_set_b, Option.map_some, World.frozen?_setCell, decide_true, decide_false, List.not_mem_nil, not_false_eq_true, ↓xGuard_tt, Bool.not_true, Bool.not_false, 
      ←decide_not, ↓bd_63_0_1, ↓bd_63_0, ↓bd_63_2_3, ↓bd_63, ↓cv_5_3, ↓cv_80_3, eq_self]
  refine loamlaw14_known_call (Gives.to (known14_spec _) fun w1 E1 => ?_)
  have z1 := E1.size
  try simp only [World.size_alloc, World.size_setCell, World.size_drew] at z1
  simp (disch := (first | omega | decide | (simp only [World.size_alloc, World.size_setCell, World.size_drew, List.mem_cons, List.not_mem_nil, or_false, not_false_eq_true] <;> omega) | fail)) only [↓xBox_r, ↓loadK_some, ↓loadsK_s, ↓loadsK_n, ↓loadsR_s, ↓loadsR_n, ↓storesK_s, ↓storesK_n, setCells_c, setCells_n, World.setCell_alloc_at, World.setCell_alloc_past, World.cell?_alloc_at, World.cell?_alloc_past, 
      World.frozen?_alloc_at, World.frozen?_alloc_past, World.size_alloc, ↓xPick_t, ↓xPick_f, ↓xGuard_tt, ↓xGuard_ff, ↓xGuard_tf, ↓xGuard_ft, ↓xIf_t, tick_eq, tickV_eq, ne_eq, not_true_eq_false, Int.reduceAdd, Int.reduceSub, Int.reduceMul, 
      Int.reduceEq, Int.reduceLT, Int.reduceLE, Bool.false_and, Bool.true_and, Bool.and_true, Bool.and_false, ↓xBin_add', ↓xBin_sub', ↓xBin_mul', ↓xBin_quo', ↓xBin_rem', wrap_in, ↓xIf_f, ↓xIf_tt, ↓xEx0, ↓xEx1, ↓xEx2, ↓xEx3, 
      ↓xBin_eqs, ↓xBin_nes, ↓xUn_not, ↓xu8_add, ↓xu8_sub, ↓xu8_mul, ↓xu8_rem, ↓xu8_com, ↓xu8_lss, ↓xu8_leq, ↓xu8_geq, ↓xu16_add, ↓xu16_sub, ↓xu16_mul, ↓xu16_rem, ↓xu16_com, ↓xu16_lss, ↓xu16_leq, ↓xu16_geq, ↓xu32_add, ↓xu32_sub, 
      ↓xu32_mul, ↓xu32_rem, ↓xu32_com, ↓xu32_lss, ↓xu32_leq, ↓xu32_geq, ↓xu64_add, ↓xu64_sub, ↓xu64_mul, ↓xu64_rem, ↓xu64_com, ↓xu64_lss, ↓xu64_leq, ↓xu64_geq, ↓xi64_lss, ↓xi64_leq, ↓xi64_geq, Int.toNat_natCast, Int.reduceToNat, 
      Nat.reduceMul, Nat.reduceAdd, Nat.reduceSub, Nat.mul_one, List.nil_append, List.cons_append, List.getElem?_toArray, List.getElem?_cons_zero, List.getElem?_cons_succ, cells_int, cells_bool, cells_string, cells_slice, 
      cells_pointer, cells_agg, one_int, one_bool, one_string, one_slice, one_pointer, List.setIfInBounds_toArray, List.set_cons_zero, List.set_cons_succ, ↓xDet_s, ↓xDet_ld, ↓xDet_ld2, ↓xDet_ld3, ↓xDet_ld4, World.size_drew, 
      Nat.zero_add, cell_drew, frozen_drew, cell_set_eq, cell_set_o, cell_set_b, Option.map_some, World.frozen?_setCell, decide_true, decide_false, List.not_mem_nil, not_false_eq_true, ↓xGuard_tt, Bool.not_true, Bool.not_false, 
      ←decide_not, ↓bd_63_0_1, ↓bd_63_0, ↓bd_63_2_3, ↓bd_63, ↓cv_5_3, ↓cv_80_3, eq_self]
  refine head_Size_call (Gives.to (Size_spec _ _ _ _ _) fun w2 E2 => ?_)
  have z2 := E2.size
  try simp only [World.size_alloc, World.size_setCell, World.size_drew] at z2
  have hs : sizeV (x % BitVec.ofNat 8 65).toNat (y % BitVec.ofNat 16 1025).toNat false 0 = 1 + (x % BitVec.ofNat 8 65).toNat + ((y % BitVec.ofNat 16 1025).toNat + 7) / 8 := by
    unfold sizeV
    rw [if_pos ⟨right_f.2 (by omega), rfl⟩]
  rw [hs]
  generalize (x % BitVec.ofNat 8 65).toNat = a at *
  generalize (y % BitVec.ofNat 16 1025).toNat = c at *
  have c1 : (c : Int) ≤ 8 * (1 + (a : Int) + ((c : Int) + 7) / 8 - 1 - a) := by omega
  have c2 : 8 * (1 + (a : Int) + ((c : Int) + 7) / 8 - 1 - a) < c + 8 := by omega
  have c3 : 1 + (a : Int) + ((c : Int) + 7) / 8 ≤ 193 := by omega
  simp (disch := (first | omega | decide | (simp only [World.size_alloc, World.size_setCell, World.size_drew, List.mem_cons, List.not_mem_nil, or_false, not_false_eq_true] <;> omega) | fail)) only [↓xBox_r, ↓loadK_some, ↓loadsK_s, ↓loadsK_n, ↓loadsR_s, ↓loadsR_n, ↓storesK_s, ↓storesK_n, setCells_c, setCells_n, World.setCell_alloc_at, World.setCell_alloc_past, World.cell?_alloc_at, World.cell?_alloc_past, 
      World.frozen?_alloc_at, World.frozen?_alloc_past, World.size_alloc, ↓xPick_t, ↓xPick_f, ↓xGuard_tt, ↓xGuard_ff, ↓xGuard_tf, ↓xGuard_ft, ↓xIf_t, tick_eq, tickV_eq, ne_eq, not_true_eq_false, Int.reduceAdd, Int.reduceSub, Int.reduceMul, 
      Int.reduceEq, Int.reduceLT, Int.reduceLE, Bool.false_and, Bool.true_and, Bool.and_true, Bool.and_false, ↓xBin_add', ↓xBin_sub', ↓xBin_mul', ↓xBin_quo', ↓xBin_rem', wrap_in, ↓xIf_f, ↓xIf_tt, ↓xEx0, ↓xEx1, ↓xEx2, ↓xEx3, 
      ↓xBin_eqs, ↓xBin_nes, ↓xUn_not, ↓xu8_add, ↓xu8_sub, ↓xu8_mul, ↓xu8_rem, ↓xu8_com, ↓xu8_lss, ↓xu8_leq, ↓xu8_geq, ↓xu16_add, ↓xu16_sub, ↓xu16_mul, ↓xu16_rem, ↓xu16_com, ↓xu16_lss, ↓xu16_leq, ↓xu16_geq, ↓xu32_add, ↓xu32_sub, 
      ↓xu32_mul, ↓xu32_rem, ↓xu32_com, ↓xu32_lss, ↓xu32_leq, ↓xu32_geq, ↓xu64_add, ↓xu64_sub, ↓xu64_mul, ↓xu64_rem, ↓xu64_com, ↓xu64_lss, ↓xu64_leq, ↓xu64_geq, ↓xi64_lss, ↓xi64_leq, ↓xi64_geq, Int.toNat_natCast, Int.reduceToNat, 
      Nat.reduceMul, Nat.reduceAdd, Nat.reduceSub, Nat.mul_one, List.nil_append, List.cons_append, List.getElem?_toArray, List.getElem?_cons_zero, List.getElem?_cons_succ, cells_int, cells_bool, cells_string, cells_slice, 
      cells_pointer, cells_agg, one_int, one_bool, one_string, one_slice, one_pointer, List.setIfInBounds_toArray, List.set_cons_zero, List.set_cons_succ, ↓xDet_s, ↓xDet_ld, ↓xDet_ld2, ↓xDet_ld3, ↓xDet_ld4, World.size_drew, 
      Nat.zero_add, cell_drew, frozen_drew, cell_set_eq, cell_set_o, cell_set_b, Option.map_some, World.frozen?_setCell, decide_true, decide_false, List.not_mem_nil, not_false_eq_true, ↓xGuard_tt, Bool.not_true, Bool.not_false, 
      ←decide_not, ↓bd_63_0_1, ↓bd_63_0, ↓bd_63_2_3, ↓bd_63, ↓cv_5_3, ↓cv_80_3, c1, c2, c3]
  exact ⟨by trivial, by (repeat (first | with_reducible exact Ext.refl _ _ | with_reducible assumption | with_reducible refine Ext.alloc' ?_ _ | with_reducible refine Ext.drew' ?_ | with_reducible refine Ext.set' ?_ ?_ | exact .inr (by first | omega | (simp only [World.size_alloc, World.size_drew, World.size_setCell] <;> omega)) | refine Ext.trans ?_ (by with_reducible assumption)))⟩
end Go.Proofs.Ytohonkbneimkoaa
