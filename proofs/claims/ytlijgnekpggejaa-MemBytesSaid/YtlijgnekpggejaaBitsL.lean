/- The small example of the statements on bits; and the statements on numbers alone, walked. -/
import Derived.Test.YtlijgnekpggejaaBitsW
set_option linter.unusedVariables false
set_option linter.unusedSimpArgs false
set_option maxHeartbeats 4000000
namespace Go.Proofs.Ytlijgnekpggejaa
open Go.Sh Go.RowKit

abbrev b8 (n : Nat) : BitVec 8 := BitVec.ofNat 8 n
theorem lit_row (w : World) (l : List (BitVec 8)) : RowAt (w.alloc (.cells (bys l).toArray 5)) (some ⟨w.heap.size, 0, none⟩) (bys l) := (Blk.new w (bys l)).row
theorem known1_spec (w : World) : Gives Try.prog n_loamlaw1_known #[] w (.bool true) := by
  refine loamlaw1_known_of ?_
  unfold loamlaw1_known
  simp (disch := (first | omega | decide | (simp only [World.size_alloc, World.size_setCell, World.size_drew, List.mem_cons, List.not_mem_nil, or_false, not_false_eq_true] <;> omega) | fail)) only [↓xBox_r, ↓loadK_some, ↓loadsK_s, ↓loadsK_n, ↓loadsR_s, ↓loadsR_n, ↓storesK_s, ↓storesK_n, setCells_c, setCells_n, World.setCell_alloc_at, World.setCell_alloc_past, World.cell?_alloc_at, World.cell?_alloc_past, 
      World.frozen?_alloc_at, World.frozen?_alloc_past, World.size_alloc, ↓xPick_t, ↓xPick_f, ↓xGuard_tt, ↓xGuard_ff, ↓xGuard_tf, ↓xGuard_ft, ↓xGuard_u, ↓xNil_r, Option.isNone_some, Option.isNone_none, ↓xIf_t, tick_eq, tickV_eq, ne_eq, 
      dlt_t, dlt_f, dle_t, dle_f, deq_t, deq_f, dne_t, dne_f, not_true_eq_false, Int.reduceAdd, Int.reduceSub, Int.reduceMul, Int.reduceEq, Int.reduceLT, Int.reduceLE, Bool.false_and, Bool.true_and, Bool.and_true, 
      Bool.and_false, ↓xBin_add', ↓xBin_sub', ↓xBin_mul', ↓xBin_quo', ↓xBin_rem', wrap_in, ↓xIf_f, ↓xIf_tt, ↓xEx0, ↓xEx1, ↓xEx2, ↓xEx3, ↓xBin_eqs, ↓xBin_nes, ↓xUn_not, ↓xu8_add, ↓xu8_com, ↓xu8_eql, ↓xu16_add, ↓xu16_com, ↓xu16_eql, 
      ↓xu32_add, ↓xu32_com, ↓xu32_eql, ↓xu64_add, ↓xu64_com, ↓xu64_eql, ↓xi64_eql, Int.toNat_natCast, Int.reduceToNat, Nat.reduceMul, Nat.reduceAdd, Nat.reduceSub, Nat.mul_one, List.nil_append, List.cons_append, List.getElem?_toArray, 
      List.getElem?_cons_zero, List.getElem?_cons_succ, cells_int, cells_bool, cells_string, cells_slice, cells_pointer, cells_agg, one_int, one_bool, one_string, one_slice, one_pointer, List.setIfInBounds_toArray, List.set_cons_zero, 
      List.set_cons_succ, ↓xDet_s, ↓xDet_ld, ↓xDet_ld2, ↓xDet_ld3, ↓xDet_ld4, World.size_drew, Nat.zero_add, Nat.add_zero, cell_drew, frozen_drew, cell_set_eq, cell_set_o, cell_set_b, Option.map_some, World.frozen?_setCell, decide_true, 
      decide_false, List.not_mem_nil, not_false_eq_true, ↓xGuard_tt, Bool.not_true, Bool.not_false, ←decide_not, ↓bs_22_0, ↓bs_22_1, ↓bs_22_3, ↓bs_22_9, eq_self]
  refine bits_Get_call (Gives.to (Get_spec [b8 1, b8 2, b8 3] _ _ 1 2 _ (by decide) (lit_row w [b8 1, b8 2, b8 3]) (by decide)) fun v1 F1 => ?_)
  rw [show getV [b8 1, b8 2, b8 3] 1 2 = BitVec.ofNat 64 770 by decide +kernel]
  have G1 : Ext [] w v1 := (Ext.alloc _ _ _).trans F1
  simp (disch := (first | omega | decide | (simp only [World.size_alloc, World.size_setCell, World.size_drew, List.mem_cons, List.not_mem_nil, or_false, not_false_eq_true] <;> omega) | fail)) only [↓xBox_r, ↓loadK_some, ↓loadsK_s, ↓loadsK_n, ↓loadsR_s, ↓loadsR_n, ↓storesK_s, ↓storesK_n, setCells_c, setCells_n, World.setCell_alloc_at, World.setCell_alloc_past, World.cell?_alloc_at, World.cell?_alloc_past, 
      World.frozen?_alloc_at, World.frozen?_alloc_past, World.size_alloc, ↓xPick_t, ↓xPick_f, ↓xGuard_tt, ↓xGuard_ff, ↓xGuard_tf, ↓xGuard_ft, ↓xGuard_u, ↓xNil_r, Option.isNone_some, Option.isNone_none, ↓xIf_t, tick_eq, tickV_eq, ne_eq, 
      dlt_t, dlt_f, dle_t, dle_f, deq_t, deq_f, dne_t, dne_f, not_true_eq_false, Int.reduceAdd, Int.reduceSub, Int.reduceMul, Int.reduceEq, Int.reduceLT, Int.reduceLE, Bool.false_and, Bool.true_and, Bool.and_true, 
      Bool.and_false, ↓xBin_add', ↓xBin_sub', ↓xBin_mul', ↓xBin_quo', ↓xBin_rem', wrap_in, ↓xIf_f, ↓xIf_tt, ↓xEx0, ↓xEx1, ↓xEx2, ↓xEx3, ↓xBin_eqs, ↓xBin_nes, ↓xUn_not, ↓xu8_add, ↓xu8_com, ↓xu8_eql, ↓xu16_add, ↓xu16_com, ↓xu16_eql, 
      ↓xu32_add, ↓xu32_com, ↓xu32_eql, ↓xu64_add, ↓xu64_com, ↓xu64_eql, ↓xi64_eql, Int.toNat_natCast, Int.reduceToNat, Nat.reduceMul, Nat.reduceAdd, Nat.reduceSub, Nat.mul_one, List.nil_append, List.cons_append, List.getElem?_toArray, 
      List.getElem?_cons_zero, List.getElem?_cons_succ, cells_int, cells_bool, cells_string, cells_slice, cells_pointer, cells_agg, one_int, one_bool, one_string, one_slice, one_pointer, List.setIfInBounds_toArray, List.set_cons_zero, 
      List.set_cons_succ, ↓xDet_s, ↓xDet_ld, ↓xDet_ld2, ↓xDet_ld3, ↓xDet_ld4, World.size_drew, Nat.zero_add, Nat.add_zero, cell_drew, frozen_drew, cell_set_eq, cell_set_o, cell_set_b, Option.map_some, World.frozen?_setCell, decide_true, 
      decide_false, List.not_mem_nil, not_false_eq_true, ↓xGuard_tt, Bool.not_true, Bool.not_false, ←decide_not, ↓bs_22_0, ↓bs_22_1, ↓bs_22_3, ↓bs_22_9, eq_self]
  refine bits_Put_call (Yld.mono (Put_spec [b8 9, b8 9, b8 9] _ _ 1 2 (BitVec.ofNat 64 1027) _ (by decide) (lit_row v1 [b8 9, b8 9, b8 9]) (by decide)) ?_)
  rintro u v2 ⟨F2, a2, c2, rfl, h2, R2⟩
  rw [show putV [b8 9, b8 9, b8 9] 1 2 (BitVec.ofNat 64 1027) = [b8 9, b8 3, b8 4] by decide +kernel] at R2 ⊢
  have G2 : Ext [] w v2 := (G1.trans (Ext.alloc _ _ _)).trans F2
  simp (disch := (first | omega | decide | (simp only [World.size_alloc, World.size_setCell, World.size_drew, List.mem_cons, List.not_mem_nil, or_false, not_false_eq_true] <;> omega) | fail)) only [↓xBox_r, ↓loadK_some, ↓loadsK_s, ↓loadsK_n, ↓loadsR_s, ↓loadsR_n, ↓storesK_s, ↓storesK_n, setCells_c, setCells_n, World.setCell_alloc_at, World.setCell_alloc_past, World.cell?_alloc_at, World.cell?_alloc_past, 
      World.frozen?_alloc_at, World.frozen?_alloc_past, World.size_alloc, ↓xPick_t, ↓xPick_f, ↓xGuard_tt, ↓xGuard_ff, ↓xGuard_tf, ↓xGuard_ft, ↓xGuard_u, ↓xNil_r, Option.isNone_some, Option.isNone_none, ↓xIf_t, tick_eq, tickV_eq, ne_eq, 
      dlt_t, dlt_f, dle_t, dle_f, deq_t, deq_f, dne_t, dne_f, not_true_eq_false, Int.reduceAdd, Int.reduceSub, Int.reduceMul, Int.reduceEq, Int.reduceLT, Int.reduceLE, Bool.false_and, Bool.true_and, Bool.and_true, 
      Bool.and_false, ↓xBin_add', ↓xBin_sub', ↓xBin_mul', ↓xBin_quo', ↓xBin_rem', wrap_in, ↓xIf_f, ↓xIf_tt, ↓xEx0, ↓xEx1, ↓xEx2, ↓xEx3, ↓xBin_eqs, ↓xBin_nes, ↓xUn_not, ↓xu8_add, ↓xu8_com, ↓xu8_eql, ↓xu16_add, ↓xu16_com, ↓xu16_eql, 
      ↓xu32_add, ↓xu32_com, ↓xu32_eql, ↓xu64_add, ↓xu64_com, ↓xu64_eql, ↓xi64_eql, Int.toNat_natCast, Int.reduceToNat, Nat.reduceMul, Nat.reduceAdd, Nat.reduceSub, Nat.mul_one, List.nil_append, List.cons_append, List.getElem?_toArray, 
      List.getElem?_cons_zero, List.getElem?_cons_succ, cells_int, cells_bool, cells_string, cells_slice, cells_pointer, cells_agg, one_int, one_bool, one_string, one_slice, one_pointer, List.setIfInBounds_toArray, List.set_cons_zero, 
      List.set_cons_succ, ↓xDet_s, ↓xDet_ld, ↓xDet_ld2, ↓xDet_ld3, ↓xDet_ld4, World.size_drew, Nat.zero_add, Nat.add_zero, cell_drew, frozen_drew, cell_set_eq, cell_set_o, cell_set_b, Option.map_some, World.frozen?_setCell, decide_true, 
      decide_false, List.not_mem_nil, not_false_eq_true, ↓xGuard_tt, Bool.not_true, Bool.not_false, ←decide_not, ↓bs_22_0, ↓bs_22_1, ↓bs_22_3, ↓bs_22_9, eq_self]
  refine bits_Get_call (Gives.to (Get_bad [] _ _ 0 1 _ (by decide) (by decide)) fun v3 F3 => ?_)
  have G3 : Ext [] w v3 := G2.trans F3
  simp (disch := (first | omega | decide | (simp only [World.size_alloc, World.size_setCell, World.size_drew, List.mem_cons, List.not_mem_nil, or_false, not_false_eq_true] <;> omega) | fail)) only [↓xBox_r, ↓loadK_some, ↓loadsK_s, ↓loadsK_n, ↓loadsR_s, ↓loadsR_n, ↓storesK_s, ↓storesK_n, setCells_c, setCells_n, World.setCell_alloc_at, World.setCell_alloc_past, World.cell?_alloc_at, World.cell?_alloc_past, 
      World.frozen?_alloc_at, World.frozen?_alloc_past, World.size_alloc, ↓xPick_t, ↓xPick_f, ↓xGuard_tt, ↓xGuard_ff, ↓xGuard_tf, ↓xGuard_ft, ↓xGuard_u, ↓xNil_r, Option.isNone_some, Option.isNone_none, ↓xIf_t, tick_eq, tickV_eq, ne_eq, 
      dlt_t, dlt_f, dle_t, dle_f, deq_t, deq_f, dne_t, dne_f, not_true_eq_false, Int.reduceAdd, Int.reduceSub, Int.reduceMul, Int.reduceEq, Int.reduceLT, Int.reduceLE, Bool.false_and, Bool.true_and, Bool.and_true, 
      Bool.and_false, ↓xBin_add', ↓xBin_sub', ↓xBin_mul', ↓xBin_quo', ↓xBin_rem', wrap_in, ↓xIf_f, ↓xIf_tt, ↓xEx0, ↓xEx1, ↓xEx2, ↓xEx3, ↓xBin_eqs, ↓xBin_nes, ↓xUn_not, ↓xu8_add, ↓xu8_com, ↓xu8_eql, ↓xu16_add, ↓xu16_com, ↓xu16_eql, 
      ↓xu32_add, ↓xu32_com, ↓xu32_eql, ↓xu64_add, ↓xu64_com, ↓xu64_eql, ↓xi64_eql, Int.toNat_natCast, Int.reduceToNat, Nat.reduceMul, Nat.reduceAdd, Nat.reduceSub, Nat.mul_one, List.nil_append, List.cons_append, List.getElem?_toArray, 
      List.getElem?_cons_zero, List.getElem?_cons_succ, cells_int, cells_bool, cells_string, cells_slice, cells_pointer, cells_agg, one_int, one_bool, one_string, one_slice, one_pointer, List.setIfInBounds_toArray, List.set_cons_zero, 
      List.set_cons_succ, ↓xDet_s, ↓xDet_ld, ↓xDet_ld2, ↓xDet_ld3, ↓xDet_ld4, World.size_drew, Nat.zero_add, Nat.add_zero, cell_drew, frozen_drew, cell_set_eq, cell_set_o, cell_set_b, Option.map_some, World.frozen?_setCell, decide_true, 
      decide_false, List.not_mem_nil, not_false_eq_true, ↓xGuard_tt, Bool.not_true, Bool.not_false, ←decide_not, ↓bs_22_0, ↓bs_22_1, ↓bs_22_3, ↓bs_22_9, eq_self]
  rw [xConv_str (e := 5) (l := [b8 9, b8 3, b8 4]) (by kernel_rfl) (by kernel_rfl) (by kernel_rfl) rfl (R2.ext0 F3)]
  rw [show strOf [b8 9, b8 3, b8 4] = { data := #[9, 3, 4] } by decide +kernel]
  simp (disch := (first | omega | decide | (simp only [World.size_alloc, World.size_setCell, World.size_drew, List.mem_cons, List.not_mem_nil, or_false, not_false_eq_true] <;> omega) | fail)) only [↓xBox_r, ↓loadK_some, ↓loadsK_s, ↓loadsK_n, ↓loadsR_s, ↓loadsR_n, ↓storesK_s, ↓storesK_n, setCells_c, setCells_n, World.setCell_alloc_at, World.setCell_alloc_past, World.cell?_alloc_at, World.cell?_alloc_past, 
      World.frozen?_alloc_at, World.frozen?_alloc_past, World.size_alloc, ↓xPick_t, ↓xPick_f, ↓xGuard_tt, ↓xGuard_ff, ↓xGuard_tf, ↓xGuard_ft, ↓xGuard_u, ↓xNil_r, Option.isNone_some, Option.isNone_none, ↓xIf_t, tick_eq, tickV_eq, ne_eq, 
      dlt_t, dlt_f, dle_t, dle_f, deq_t, deq_f, dne_t, dne_f, not_true_eq_false, Int.reduceAdd, Int.reduceSub, Int.reduceMul, Int.reduceEq, Int.reduceLT, Int.reduceLE, Bool.false_and, Bool.true_and, Bool.and_true, 
      Bool.and_false, ↓xBin_add', ↓xBin_sub', ↓xBin_mul', ↓xBin_quo', ↓xBin_rem', wrap_in, ↓xIf_f, ↓xIf_tt, ↓xEx0, ↓xEx1, ↓xEx2, ↓xEx3, ↓xBin_eqs, ↓xBin_nes, ↓xUn_not, ↓xu8_add, ↓xu8_com, ↓xu8_eql, ↓xu16_add, ↓xu16_com, ↓xu16_eql, 
      ↓xu32_add, ↓xu32_com, ↓xu32_eql, ↓xu64_add, ↓xu64_com, ↓xu64_eql, ↓xi64_eql, Int.toNat_natCast, Int.reduceToNat, Nat.reduceMul, Nat.reduceAdd, Nat.reduceSub, Nat.mul_one, List.nil_append, List.cons_append, List.getElem?_toArray, 
      List.getElem?_cons_zero, List.getElem?_cons_succ, cells_int, cells_bool, cells_string, cells_slice, cells_pointer, cells_agg, one_int, one_bool, one_string, one_slice, one_pointer, List.setIfInBounds_toArray, List.set_cons_zero, 
      List.set_cons_succ, ↓xDet_s, ↓xDet_ld, ↓xDet_ld2, ↓xDet_ld3, ↓xDet_ld4, World.size_drew, Nat.zero_add, Nat.add_zero, cell_drew, frozen_drew, cell_set_eq, cell_set_o, cell_set_b, Option.map_some, World.frozen?_setCell, decide_true, 
      decide_false, List.not_mem_nil, not_false_eq_true, ↓xGuard_tt, Bool.not_true, Bool.not_false, ←decide_not, ↓bs_22_0, ↓bs_22_1, ↓bs_22_3, ↓bs_22_9, eq_self]
  refine bits_Sign_call (Gives.to (Sign_spec _ _ _) fun w1 E1 => ?_)
  have z1 := E1.size
  try simp only [World.size_alloc, World.size_setCell, World.size_drew] at z1
  rw [show signI (BitVec.ofNat 64 255).toNat 8 = -1 by decide +kernel]
  simp (disch := (first | omega | decide | (simp only [World.size_alloc, World.size_setCell, World.size_drew, List.mem_cons, List.not_mem_nil, or_false, not_false_eq_true] <;> omega) | fail)) only [↓xBox_r, ↓loadK_some, ↓loadsK_s, ↓loadsK_n, ↓loadsR_s, ↓loadsR_n, ↓storesK_s, ↓storesK_n, setCells_c, setCells_n, World.setCell_alloc_at, World.setCell_alloc_past, World.cell?_alloc_at, World.cell?_alloc_past, 
      World.frozen?_alloc_at, World.frozen?_alloc_past, World.size_alloc, ↓xPick_t, ↓xPick_f, ↓xGuard_tt, ↓xGuard_ff, ↓xGuard_tf, ↓xGuard_ft, ↓xGuard_u, ↓xNil_r, Option.isNone_some, Option.isNone_none, ↓xIf_t, tick_eq, tickV_eq, ne_eq, 
      dlt_t, dlt_f, dle_t, dle_f, deq_t, deq_f, dne_t, dne_f, not_true_eq_false, Int.reduceAdd, Int.reduceSub, Int.reduceMul, Int.reduceEq, Int.reduceLT, Int.reduceLE, Bool.false_and, Bool.true_and, Bool.and_true, 
      Bool.and_false, ↓xBin_add', ↓xBin_sub', ↓xBin_mul', ↓xBin_quo', ↓xBin_rem', wrap_in, ↓xIf_f, ↓xIf_tt, ↓xEx0, ↓xEx1, ↓xEx2, ↓xEx3, ↓xBin_eqs, ↓xBin_nes, ↓xUn_not, ↓xu8_add, ↓xu8_com, ↓xu8_eql, ↓xu16_add, ↓xu16_com, ↓xu16_eql, 
      ↓xu32_add, ↓xu32_com, ↓xu32_eql, ↓xu64_add, ↓xu64_com, ↓xu64_eql, ↓xi64_eql, Int.toNat_natCast, Int.reduceToNat, Nat.reduceMul, Nat.reduceAdd, Nat.reduceSub, Nat.mul_one, List.nil_append, List.cons_append, List.getElem?_toArray, 
      List.getElem?_cons_zero, List.getElem?_cons_succ, cells_int, cells_bool, cells_string, cells_slice, cells_pointer, cells_agg, one_int, one_bool, one_string, one_slice, one_pointer, List.setIfInBounds_toArray, List.set_cons_zero, 
      List.set_cons_succ, ↓xDet_s, ↓xDet_ld, ↓xDet_ld2, ↓xDet_ld3, ↓xDet_ld4, World.size_drew, Nat.zero_add, Nat.add_zero, cell_drew, frozen_drew, cell_set_eq, cell_set_o, cell_set_b, Option.map_some, World.frozen?_setCell, decide_true, 
      decide_false, List.not_mem_nil, not_false_eq_true, ↓xGuard_tt, Bool.not_true, Bool.not_false, ←decide_not, ↓bs_22_0, ↓bs_22_1, ↓bs_22_3, ↓bs_22_9, eq_self]
  refine bits_Narrow_call (Gives.to (Narrow_spec _ _ _) fun w2 E2 => ?_)
  have z2 := E2.size
  try simp only [World.size_alloc, World.size_setCell, World.size_drew] at z2
  rw [show signI 300 8 = 44 by decide +kernel]
  simp (disch := (first | omega | decide | (simp only [World.size_alloc, World.size_setCell, World.size_drew, List.mem_cons, List.not_mem_nil, or_false, not_false_eq_true] <;> omega) | fail)) only [↓xBox_r, ↓loadK_some, ↓loadsK_s, ↓loadsK_n, ↓loadsR_s, ↓loadsR_n, ↓storesK_s, ↓storesK_n, setCells_c, setCells_n, World.setCell_alloc_at, World.setCell_alloc_past, World.cell?_alloc_at, World.cell?_alloc_past, 
      World.frozen?_alloc_at, World.frozen?_alloc_past, World.size_alloc, ↓xPick_t, ↓xPick_f, ↓xGuard_tt, ↓xGuard_ff, ↓xGuard_tf, ↓xGuard_ft, ↓xGuard_u, ↓xNil_r, Option.isNone_some, Option.isNone_none, ↓xIf_t, tick_eq, tickV_eq, ne_eq, 
      dlt_t, dlt_f, dle_t, dle_f, deq_t, deq_f, dne_t, dne_f, not_true_eq_false, Int.reduceAdd, Int.reduceSub, Int.reduceMul, Int.reduceEq, Int.reduceLT, Int.reduceLE, Bool.false_and, Bool.true_and, Bool.and_true, 
      Bool.and_false, ↓xBin_add', ↓xBin_sub', ↓xBin_mul', ↓xBin_quo', ↓xBin_rem', wrap_in, ↓xIf_f, ↓xIf_tt, ↓xEx0, ↓xEx1, ↓xEx2, ↓xEx3, ↓xBin_eqs, ↓xBin_nes, ↓xUn_not, ↓xu8_add, ↓xu8_com, ↓xu8_eql, ↓xu16_add, ↓xu16_com, ↓xu16_eql, 
      ↓xu32_add, ↓xu32_com, ↓xu32_eql, ↓xu64_add, ↓xu64_com, ↓xu64_eql, ↓xi64_eql, Int.toNat_natCast, Int.reduceToNat, Nat.reduceMul, Nat.reduceAdd, Nat.reduceSub, Nat.mul_one, List.nil_append, List.cons_append, List.getElem?_toArray, 
      List.getElem?_cons_zero, List.getElem?_cons_succ, cells_int, cells_bool, cells_string, cells_slice, cells_pointer, cells_agg, one_int, one_bool, one_string, one_slice, one_pointer, List.setIfInBounds_toArray, List.set_cons_zero, 
      List.set_cons_succ, ↓xDet_s, ↓xDet_ld, ↓xDet_ld2, ↓xDet_ld3, ↓xDet_ld4, World.size_drew, Nat.zero_add, Nat.add_zero, cell_drew, frozen_drew, cell_set_eq, cell_set_o, cell_set_b, Option.map_some, World.frozen?_setCell, decide_true, 
      decide_false, List.not_mem_nil, not_false_eq_true, ↓xGuard_tt, Bool.not_true, Bool.not_false, ←decide_not, ↓bs_22_0, ↓bs_22_1, ↓bs_22_3, ↓bs_22_9, eq_self]
  refine bits_Field_call (Gives.to (Field_spec _ _ _ _) fun w3 E3 => ?_)
  have z3 := E3.size
  try simp only [World.size_alloc, World.size_setCell, World.size_drew] at z3
  rw [show fieldB (BitVec.ofNat 64 43981) 4 8 = BitVec.ofNat 64 188 by decide +kernel]
  simp (disch := (first | omega | decide | (simp only [World.size_alloc, World.size_setCell, World.size_drew, List.mem_cons, List.not_mem_nil, or_false, not_false_eq_true] <;> omega) | fail)) only [↓xBox_r, ↓loadK_some, ↓loadsK_s, ↓loadsK_n, ↓loadsR_s, ↓loadsR_n, ↓storesK_s, ↓storesK_n, setCells_c, setCells_n, World.setCell_alloc_at, World.setCell_alloc_past, World.cell?_alloc_at, World.cell?_alloc_past, 
      World.frozen?_alloc_at, World.frozen?_alloc_past, World.size_alloc, ↓xPick_t, ↓xPick_f, ↓xGuard_tt, ↓xGuard_ff, ↓xGuard_tf, ↓xGuard_ft, ↓xGuard_u, ↓xNil_r, Option.isNone_some, Option.isNone_none, ↓xIf_t, tick_eq, tickV_eq, ne_eq, 
      dlt_t, dlt_f, dle_t, dle_f, deq_t, deq_f, dne_t, dne_f, not_true_eq_false, Int.reduceAdd, Int.reduceSub, Int.reduceMul, Int.reduceEq, Int.reduceLT, Int.reduceLE, Bool.false_and, Bool.true_and, Bool.and_true, 
      Bool.and_false, ↓xBin_add', ↓xBin_sub', ↓xBin_mul', ↓xBin_quo', ↓xBin_rem', wrap_in, ↓xIf_f, ↓xIf_tt, ↓xEx0, ↓xEx1, ↓xEx2, ↓xEx3, ↓xBin_eqs, ↓xBin_nes, ↓xUn_not, ↓xu8_add, ↓xu8_com, ↓xu8_eql, ↓xu16_add, ↓xu16_com, ↓xu16_eql, 
      ↓xu32_add, ↓xu32_com, ↓xu32_eql, ↓xu64_add, ↓xu64_com, ↓xu64_eql, ↓xi64_eql, Int.toNat_natCast, Int.reduceToNat, Nat.reduceMul, Nat.reduceAdd, Nat.reduceSub, Nat.mul_one, List.nil_append, List.cons_append, List.getElem?_toArray, 
      List.getElem?_cons_zero, List.getElem?_cons_succ, cells_int, cells_bool, cells_string, cells_slice, cells_pointer, cells_agg, one_int, one_bool, one_string, one_slice, one_pointer, List.setIfInBounds_toArray, List.set_cons_zero, 
      List.set_cons_succ, ↓xDet_s, ↓xDet_ld, ↓xDet_ld2, ↓xDet_ld3, ↓xDet_ld4, World.size_drew, Nat.zero_add, Nat.add_zero, cell_drew, frozen_drew, cell_set_eq, cell_set_o, cell_set_b, Option.map_some, World.frozen?_setCell, decide_true, 
      decide_false, List.not_mem_nil, not_false_eq_true, ↓xGuard_tt, Bool.not_true, Bool.not_false, ←decide_not, ↓bs_22_0, ↓bs_22_1, ↓bs_22_3, ↓bs_22_9, eq_self]
  refine bits_With_call (Gives.to (With_spec _ _ _ _ _) fun w4 E4 => ?_)
  have z4 := E4.size
  try simp only [World.size_alloc, World.size_setCell, World.size_drew] at z4
  rw [show withB (BitVec.ofNat 64 0) 4 4 (BitVec.ofNat 64 255) = BitVec.ofNat 64 240 by decide +kernel]
  simp (disch := (first | omega | decide | (simp only [World.size_alloc, World.size_setCell, World.size_drew, List.mem_cons, List.not_mem_nil, or_false, not_false_eq_true] <;> omega) | fail)) only [↓xBox_r, ↓loadK_some, ↓loadsK_s, ↓loadsK_n, ↓loadsR_s, ↓loadsR_n, ↓storesK_s, ↓storesK_n, setCells_c, setCells_n, World.setCell_alloc_at, World.setCell_alloc_past, World.cell?_alloc_at, World.cell?_alloc_past, 
      World.frozen?_alloc_at, World.frozen?_alloc_past, World.size_alloc, ↓xPick_t, ↓xPick_f, ↓xGuard_tt, ↓xGuard_ff, ↓xGuard_tf, ↓xGuard_ft, ↓xGuard_u, ↓xNil_r, Option.isNone_some, Option.isNone_none, ↓xIf_t, tick_eq, tickV_eq, ne_eq, 
      dlt_t, dlt_f, dle_t, dle_f, deq_t, deq_f, dne_t, dne_f, not_true_eq_false, Int.reduceAdd, Int.reduceSub, Int.reduceMul, Int.reduceEq, Int.reduceLT, Int.reduceLE, Bool.false_and, Bool.true_and, Bool.and_true, 
      Bool.and_false, ↓xBin_add', ↓xBin_sub', ↓xBin_mul', ↓xBin_quo', ↓xBin_rem', wrap_in, ↓xIf_f, ↓xIf_tt, ↓xEx0, ↓xEx1, ↓xEx2, ↓xEx3, ↓xBin_eqs, ↓xBin_nes, ↓xUn_not, ↓xu8_add, ↓xu8_com, ↓xu8_eql, ↓xu16_add, ↓xu16_com, ↓xu16_eql, 
      ↓xu32_add, ↓xu32_com, ↓xu32_eql, ↓xu64_add, ↓xu64_com, ↓xu64_eql, ↓xi64_eql, Int.toNat_natCast, Int.reduceToNat, Nat.reduceMul, Nat.reduceAdd, Nat.reduceSub, Nat.mul_one, List.nil_append, List.cons_append, List.getElem?_toArray, 
      List.getElem?_cons_zero, List.getElem?_cons_succ, cells_int, cells_bool, cells_string, cells_slice, cells_pointer, cells_agg, one_int, one_bool, one_string, one_slice, one_pointer, List.setIfInBounds_toArray, List.set_cons_zero, 
      List.set_cons_succ, ↓xDet_s, ↓xDet_ld, ↓xDet_ld2, ↓xDet_ld3, ↓xDet_ld4, World.size_drew, Nat.zero_add, Nat.add_zero, cell_drew, frozen_drew, cell_set_eq, cell_set_o, cell_set_b, Option.map_some, World.frozen?_setCell, decide_true, 
      decide_false, List.not_mem_nil, not_false_eq_true, ↓xGuard_tt, Bool.not_true, Bool.not_false, ←decide_not, ↓bs_22_0, ↓bs_22_1, ↓bs_22_3, ↓bs_22_9, eq_self]
  refine bits_Turn_call (Gives.to (Turn_spec _ _ _) fun w5 E5 => ?_)
  have z5 := E5.size
  try simp only [World.size_alloc, World.size_setCell, World.size_drew] at z5
  rw [show turnB (BitVec.ofNat 64 1) (-1) = BitVec.ofNat 64 9223372036854775808 by decide +kernel]
  simp (disch := (first | omega | decide | (simp only [World.size_alloc, World.size_setCell, World.size_drew, List.mem_cons, List.not_mem_nil, or_false, not_false_eq_true] <;> omega) | fail)) only [↓xBox_r, ↓loadK_some, ↓loadsK_s, ↓loadsK_n, ↓loadsR_s, ↓loadsR_n, ↓storesK_s, ↓storesK_n, setCells_c, setCells_n, World.setCell_alloc_at, World.setCell_alloc_past, World.cell?_alloc_at, World.cell?_alloc_past, 
      World.frozen?_alloc_at, World.frozen?_alloc_past, World.size_alloc, ↓xPick_t, ↓xPick_f, ↓xGuard_tt, ↓xGuard_ff, ↓xGuard_tf, ↓xGuard_ft, ↓xGuard_u, ↓xNil_r, Option.isNone_some, Option.isNone_none, ↓xIf_t, tick_eq, tickV_eq, ne_eq, 
      dlt_t, dlt_f, dle_t, dle_f, deq_t, deq_f, dne_t, dne_f, not_true_eq_false, Int.reduceAdd, Int.reduceSub, Int.reduceMul, Int.reduceEq, Int.reduceLT, Int.reduceLE, Bool.false_and, Bool.true_and, Bool.and_true, 
      Bool.and_false, ↓xBin_add', ↓xBin_sub', ↓xBin_mul', ↓xBin_quo', ↓xBin_rem', wrap_in, ↓xIf_f, ↓xIf_tt, ↓xEx0, ↓xEx1, ↓xEx2, ↓xEx3, ↓xBin_eqs, ↓xBin_nes, ↓xUn_not, ↓xu8_add, ↓xu8_com, ↓xu8_eql, ↓xu16_add, ↓xu16_com, ↓xu16_eql, 
      ↓xu32_add, ↓xu32_com, ↓xu32_eql, ↓xu64_add, ↓xu64_com, ↓xu64_eql, ↓xi64_eql, Int.toNat_natCast, Int.reduceToNat, Nat.reduceMul, Nat.reduceAdd, Nat.reduceSub, Nat.mul_one, List.nil_append, List.cons_append, List.getElem?_toArray, 
      List.getElem?_cons_zero, List.getElem?_cons_succ, cells_int, cells_bool, cells_string, cells_slice, cells_pointer, cells_agg, one_int, one_bool, one_string, one_slice, one_pointer, List.setIfInBounds_toArray, List.set_cons_zero, 
      List.set_cons_succ, ↓xDet_s, ↓xDet_ld, ↓xDet_ld2, ↓xDet_ld3, ↓xDet_ld4, World.size_drew, Nat.zero_add, Nat.add_zero, cell_drew, frozen_drew, cell_set_eq, cell_set_o, cell_set_b, Option.map_some, World.frozen?_setCell, decide_true, 
      decide_false, List.not_mem_nil, not_false_eq_true, ↓xGuard_tt, Bool.not_true, Bool.not_false, ←decide_not, ↓bs_22_0, ↓bs_22_1, ↓bs_22_3, ↓bs_22_9, eq_self]
  refine bits_Fits_call (Gives.to (Fits_spec _ _ _) fun w6 E6 => ?_)
  have z6 := E6.size
  try simp only [World.size_alloc, World.size_setCell, World.size_drew] at z6
  rw [show decide (signI 127 8 = 127) = true by decide +kernel]
  simp (disch := (first | omega | decide | (simp only [World.size_alloc, World.size_setCell, World.size_drew, List.mem_cons, List.not_mem_nil, or_false, not_false_eq_true] <;> omega) | fail)) only [↓xBox_r, ↓loadK_some, ↓loadsK_s, ↓loadsK_n, ↓loadsR_s, ↓loadsR_n, ↓storesK_s, ↓storesK_n, setCells_c, setCells_n, World.setCell_alloc_at, World.setCell_alloc_past, World.cell?_alloc_at, World.cell?_alloc_past, 
      World.frozen?_alloc_at, World.frozen?_alloc_past, World.size_alloc, ↓xPick_t, ↓xPick_f, ↓xGuard_tt, ↓xGuard_ff, ↓xGuard_tf, ↓xGuard_ft, ↓xGuard_u, ↓xNil_r, Option.isNone_some, Option.isNone_none, ↓xIf_t, tick_eq, tickV_eq, ne_eq, 
      dlt_t, dlt_f, dle_t, dle_f, deq_t, deq_f, dne_t, dne_f, not_true_eq_false, Int.reduceAdd, Int.reduceSub, Int.reduceMul, Int.reduceEq, Int.reduceLT, Int.reduceLE, Bool.false_and, Bool.true_and, Bool.and_true, 
      Bool.and_false, ↓xBin_add', ↓xBin_sub', ↓xBin_mul', ↓xBin_quo', ↓xBin_rem', wrap_in, ↓xIf_f, ↓xIf_tt, ↓xEx0, ↓xEx1, ↓xEx2, ↓xEx3, ↓xBin_eqs, ↓xBin_nes, ↓xUn_not, ↓xu8_add, ↓xu8_com, ↓xu8_eql, ↓xu16_add, ↓xu16_com, ↓xu16_eql, 
      ↓xu32_add, ↓xu32_com, ↓xu32_eql, ↓xu64_add, ↓xu64_com, ↓xu64_eql, ↓xi64_eql, Int.toNat_natCast, Int.reduceToNat, Nat.reduceMul, Nat.reduceAdd, Nat.reduceSub, Nat.mul_one, List.nil_append, List.cons_append, List.getElem?_toArray, 
      List.getElem?_cons_zero, List.getElem?_cons_succ, cells_int, cells_bool, cells_string, cells_slice, cells_pointer, cells_agg, one_int, one_bool, one_string, one_slice, one_pointer, List.setIfInBounds_toArray, List.set_cons_zero, 
      List.set_cons_succ, ↓xDet_s, ↓xDet_ld, ↓xDet_ld2, ↓xDet_ld3, ↓xDet_ld4, World.size_drew, Nat.zero_add, Nat.add_zero, cell_drew, frozen_drew, cell_set_eq, cell_set_o, cell_set_b, Option.map_some, World.frozen?_setCell, decide_true, 
      decide_false, List.not_mem_nil, not_false_eq_true, ↓xGuard_tt, Bool.not_true, Bool.not_false, ←decide_not, ↓bs_22_0, ↓bs_22_1, ↓bs_22_3, ↓bs_22_9, eq_self]
  refine bits_Fits_call (Gives.to (Fits_spec _ _ _) fun w7 E7 => ?_)
  have z7 := E7.size
  try simp only [World.size_alloc, World.size_setCell, World.size_drew] at z7
  rw [show decide (signI 128 8 = 128) = false by decide +kernel]
  simp (disch := (first | omega | decide | (simp only [World.size_alloc, World.size_setCell, World.size_drew, List.mem_cons, List.not_mem_nil, or_false, not_false_eq_true] <;> omega) | fail)) only [↓xBox_r, ↓loadK_some, ↓loadsK_s, ↓loadsK_n, ↓loadsR_s, ↓loadsR_n, ↓storesK_s, ↓storesK_n, setCells_c, setCells_n, World.setCell_alloc_at, World.setCell_alloc_past, World.cell?_alloc_at, World.cell?_alloc_past, 
      World.frozen?_alloc_at, World.frozen?_alloc_past, World.size_alloc, ↓xPick_t, ↓xPick_f, ↓xGuard_tt, ↓xGuard_ff, ↓xGuard_tf, ↓xGuard_ft, ↓xGuard_u, ↓xNil_r, Option.isNone_some, Option.isNone_none, ↓xIf_t, tick_eq, tickV_eq, ne_eq, 
      dlt_t, dlt_f, dle_t, dle_f, deq_t, deq_f, dne_t, dne_f, not_true_eq_false, Int.reduceAdd, Int.reduceSub, Int.reduceMul, Int.reduceEq, Int.reduceLT, Int.reduceLE, Bool.false_and, Bool.true_and, Bool.and_true, 
      Bool.and_false, ↓xBin_add', ↓xBin_sub', ↓xBin_mul', ↓xBin_quo', ↓xBin_rem', wrap_in, ↓xIf_f, ↓xIf_tt, ↓xEx0, ↓xEx1, ↓xEx2, ↓xEx3, ↓xBin_eqs, ↓xBin_nes, ↓xUn_not, ↓xu8_add, ↓xu8_com, ↓xu8_eql, ↓xu16_add, ↓xu16_com, ↓xu16_eql, 
      ↓xu32_add, ↓xu32_com, ↓xu32_eql, ↓xu64_add, ↓xu64_com, ↓xu64_eql, ↓xi64_eql, Int.toNat_natCast, Int.reduceToNat, Nat.reduceMul, Nat.reduceAdd, Nat.reduceSub, Nat.mul_one, List.nil_append, List.cons_append, List.getElem?_toArray, 
      List.getElem?_cons_zero, List.getElem?_cons_succ, cells_int, cells_bool, cells_string, cells_slice, cells_pointer, cells_agg, one_int, one_bool, one_string, one_slice, one_pointer, List.setIfInBounds_toArray, List.set_cons_zero, 
      List.set_cons_succ, ↓xDet_s, ↓xDet_ld, ↓xDet_ld2, ↓xDet_ld3, ↓xDet_ld4, World.size_drew, Nat.zero_add, Nat.add_zero, cell_drew, frozen_drew, cell_set_eq, cell_set_o, cell_set_b, Option.map_some, World.frozen?_setCell, decide_true, 
      decide_false, List.not_mem_nil, not_false_eq_true, ↓xGuard_tt, Bool.not_true, Bool.not_false, ←decide_not, ↓bs_22_0, ↓bs_22_1, ↓bs_22_3, ↓bs_22_9, eq_self]
  exact ⟨by trivial, by (repeat (first | with_reducible exact Ext.refl _ _ | with_reducible assumption | with_reducible refine Ext.alloc' ?_ _ | with_reducible refine Ext.drew' ?_ | with_reducible refine Ext.set' ?_ ?_ | exact .inr (by first | omega | (simp only [World.size_alloc, World.size_drew, World.size_setCell] <;> omega)) | refine Ext.trans ?_ (by with_reducible assumption)))⟩

theorem BitsSigns_spec (v n : Int) (hv : -9223372036854775808 ≤ v ∧ v ≤ 9223372036854775807) (w : World) : Gives Try.prog n_loamlaw1_BitsSigns #[i64 v, i64 n] w (.bool true) := by
  refine loamlaw1_BitsSigns_of ?_
  unfold loamlaw1_BitsSigns
  have hsg : signI ((BitVec.ofInt 64 v).toNat : Int) n = signI v n := by
    unfold signI
    by_cases h : 1 ≤ n ∧ n ≤ 64
    · rw [if_pos h, if_pos h, bmod_ofInt (by omega)]
    · rw [if_neg h, if_neg h]
  refine loamlaw1_known_call (Gives.to (known1_spec _) fun w1 E1 => ?_)
  have z1 := E1.size
  try simp only [World.size_alloc, World.size_setCell, World.size_drew] at z1
  simp (disch := (first | omega | decide | (simp only [World.size_alloc, World.size_setCell, World.size_drew, List.mem_cons, List.not_mem_nil, or_false, not_false_eq_true] <;> omega) | fail)) only [↓xBox_r, ↓loadK_some, ↓loadsK_s, ↓loadsK_n, ↓loadsR_s, ↓loadsR_n, ↓storesK_s, ↓storesK_n, setCells_c, setCells_n, World.setCell_alloc_at, World.setCell_alloc_past, World.cell?_alloc_at, World.cell?_alloc_past, 
      World.frozen?_alloc_at, World.frozen?_alloc_past, World.size_alloc, ↓xPick_t, ↓xPick_f, ↓xGuard_tt, ↓xGuard_ff, ↓xGuard_tf, ↓xGuard_ft, ↓xGuard_u, ↓xNil_r, Option.isNone_some, Option.isNone_none, ↓xIf_t, tick_eq, tickV_eq, ne_eq, 
      dlt_t, dlt_f, dle_t, dle_f, deq_t, deq_f, dne_t, dne_f, not_true_eq_false, Int.reduceAdd, Int.reduceSub, Int.reduceMul, Int.reduceEq, Int.reduceLT, Int.reduceLE, Bool.false_and, Bool.true_and, Bool.and_true, 
      Bool.and_false, ↓xBin_add', ↓xBin_sub', ↓xBin_mul', ↓xBin_quo', ↓xBin_rem', wrap_in, ↓xIf_f, ↓xIf_tt, ↓xEx0, ↓xEx1, ↓xEx2, ↓xEx3, ↓xBin_eqs, ↓xBin_nes, ↓xUn_not, ↓xu8_sub, ↓xu8_com, ↓xu8_shl, ↓xu8_eql, ↓xu8_neq, ↓xu8_lss, 
      ↓xu8_gtr, ↓xu8_geq, ↓xu16_sub, ↓xu16_com, ↓xu16_shl, ↓xu16_eql, ↓xu16_neq, ↓xu16_lss, ↓xu16_gtr, ↓xu16_geq, ↓xu32_sub, ↓xu32_com, ↓xu32_shl, ↓xu32_eql, ↓xu32_neq, ↓xu32_lss, ↓xu32_gtr, ↓xu32_geq, ↓xu64_sub, ↓xu64_com, 
      ↓xu64_shl, ↓xu64_eql, ↓xu64_neq, ↓xu64_lss, ↓xu64_gtr, ↓xu64_geq, ↓xi64_lss, ↓xi64_gtr, ↓xi64_geq, ↓xi64_eql, ↓xi64_neq, ↓xi64_shl, ↓xi64_neg, Int.toNat_natCast, Int.reduceToNat, Nat.reduceMul, Nat.reduceAdd, Nat.reduceSub, 
      Nat.mul_one, List.nil_append, List.cons_append, List.getElem?_toArray, List.getElem?_cons_zero, List.getElem?_cons_succ, cells_int, cells_bool, cells_string, cells_slice, cells_pointer, cells_agg, one_int, one_bool, 
      one_string, one_slice, one_pointer, List.setIfInBounds_toArray, List.set_cons_zero, List.set_cons_succ, ↓xDet_s, ↓xDet_ld, ↓xDet_ld2, ↓xDet_ld3, ↓xDet_ld4, World.size_drew, Nat.zero_add, Nat.add_zero, cell_drew, frozen_drew, 
      cell_set_eq, cell_set_o, cell_set_b, Option.map_some, World.frozen?_setCell, decide_true, decide_false, List.not_mem_nil, not_false_eq_true, ↓xGuard_tt, Bool.not_true, Bool.not_false, ←decide_not, ↓eb_4, ↓nb_4, ↓cv_2_23, ↓cv_3_39, eq_self]
  refine bits_Sign_call (Gives.to (Sign_spec _ _ _) fun w2 E2 => ?_)
  have z2 := E2.size
  try simp only [World.size_alloc, World.size_setCell, World.size_drew] at z2
  rw [hsg]
  simp (disch := (first | omega | decide | (simp only [World.size_alloc, World.size_setCell, World.size_drew, List.mem_cons, List.not_mem_nil, or_false, not_false_eq_true] <;> omega) | fail)) only [↓xBox_r, ↓loadK_some, ↓loadsK_s, ↓loadsK_n, ↓loadsR_s, ↓loadsR_n, ↓storesK_s, ↓storesK_n, setCells_c, setCells_n, World.setCell_alloc_at, World.setCell_alloc_past, World.cell?_alloc_at, World.cell?_alloc_past, 
      World.frozen?_alloc_at, World.frozen?_alloc_past, World.size_alloc, ↓xPick_t, ↓xPick_f, ↓xGuard_tt, ↓xGuard_ff, ↓xGuard_tf, ↓xGuard_ft, ↓xGuard_u, ↓xNil_r, Option.isNone_some, Option.isNone_none, ↓xIf_t, tick_eq, tickV_eq, ne_eq, 
      dlt_t, dlt_f, dle_t, dle_f, deq_t, deq_f, dne_t, dne_f, not_true_eq_false, Int.reduceAdd, Int.reduceSub, Int.reduceMul, Int.reduceEq, Int.reduceLT, Int.reduceLE, Bool.false_and, Bool.true_and, Bool.and_true, 
      Bool.and_false, ↓xBin_add', ↓xBin_sub', ↓xBin_mul', ↓xBin_quo', ↓xBin_rem', wrap_in, ↓xIf_f, ↓xIf_tt, ↓xEx0, ↓xEx1, ↓xEx2, ↓xEx3, ↓xBin_eqs, ↓xBin_nes, ↓xUn_not, ↓xu8_sub, ↓xu8_com, ↓xu8_shl, ↓xu8_eql, ↓xu8_neq, ↓xu8_lss, 
      ↓xu8_gtr, ↓xu8_geq, ↓xu16_sub, ↓xu16_com, ↓xu16_shl, ↓xu16_eql, ↓xu16_neq, ↓xu16_lss, ↓xu16_gtr, ↓xu16_geq, ↓xu32_sub, ↓xu32_com, ↓xu32_shl, ↓xu32_eql, ↓xu32_neq, ↓xu32_lss, ↓xu32_gtr, ↓xu32_geq, ↓xu64_sub, ↓xu64_com, 
      ↓xu64_shl, ↓xu64_eql, ↓xu64_neq, ↓xu64_lss, ↓xu64_gtr, ↓xu64_geq, ↓xi64_lss, ↓xi64_gtr, ↓xi64_geq, ↓xi64_eql, ↓xi64_neq, ↓xi64_shl, ↓xi64_neg, Int.toNat_natCast, Int.reduceToNat, Nat.reduceMul, Nat.reduceAdd, Nat.reduceSub, 
      Nat.mul_one, List.nil_append, List.cons_append, List.getElem?_toArray, List.getElem?_cons_zero, List.getElem?_cons_succ, cells_int, cells_bool, cells_string, cells_slice, cells_pointer, cells_agg, one_int, one_bool, 
      one_string, one_slice, one_pointer, List.setIfInBounds_toArray, List.set_cons_zero, List.set_cons_succ, ↓xDet_s, ↓xDet_ld, ↓xDet_ld2, ↓xDet_ld3, ↓xDet_ld4, World.size_drew, Nat.zero_add, Nat.add_zero, cell_drew, frozen_drew, 
      cell_set_eq, cell_set_o, cell_set_b, Option.map_some, World.frozen?_setCell, decide_true, decide_false, List.not_mem_nil, not_false_eq_true, ↓xGuard_tt, Bool.not_true, Bool.not_false, ←decide_not, ↓eb_4, ↓nb_4, ↓cv_2_23, ↓cv_3_39, eq_self]
  refine loamref1_Sign_call (Gives.to (rSign_spec _ _ _) fun w3 E3 => ?_)
  have z3 := E3.size
  try simp only [World.size_alloc, World.size_setCell, World.size_drew] at z3
  rw [hsg]
  simp (disch := (first | omega | decide | (simp only [World.size_alloc, World.size_setCell, World.size_drew, List.mem_cons, List.not_mem_nil, or_false, not_false_eq_true] <;> omega) | fail)) only [↓xBox_r, ↓loadK_some, ↓loadsK_s, ↓loadsK_n, ↓loadsR_s, ↓loadsR_n, ↓storesK_s, ↓storesK_n, setCells_c, setCells_n, World.setCell_alloc_at, World.setCell_alloc_past, World.cell?_alloc_at, World.cell?_alloc_past, 
      World.frozen?_alloc_at, World.frozen?_alloc_past, World.size_alloc, ↓xPick_t, ↓xPick_f, ↓xGuard_tt, ↓xGuard_ff, ↓xGuard_tf, ↓xGuard_ft, ↓xGuard_u, ↓xNil_r, Option.isNone_some, Option.isNone_none, ↓xIf_t, tick_eq, tickV_eq, ne_eq, 
      dlt_t, dlt_f, dle_t, dle_f, deq_t, deq_f, dne_t, dne_f, not_true_eq_false, Int.reduceAdd, Int.reduceSub, Int.reduceMul, Int.reduceEq, Int.reduceLT, Int.reduceLE, Bool.false_and, Bool.true_and, Bool.and_true, 
      Bool.and_false, ↓xBin_add', ↓xBin_sub', ↓xBin_mul', ↓xBin_quo', ↓xBin_rem', wrap_in, ↓xIf_f, ↓xIf_tt, ↓xEx0, ↓xEx1, ↓xEx2, ↓xEx3, ↓xBin_eqs, ↓xBin_nes, ↓xUn_not, ↓xu8_sub, ↓xu8_com, ↓xu8_shl, ↓xu8_eql, ↓xu8_neq, ↓xu8_lss, 
      ↓xu8_gtr, ↓xu8_geq, ↓xu16_sub, ↓xu16_com, ↓xu16_shl, ↓xu16_eql, ↓xu16_neq, ↓xu16_lss, ↓xu16_gtr, ↓xu16_geq, ↓xu32_sub, ↓xu32_com, ↓xu32_shl, ↓xu32_eql, ↓xu32_neq, ↓xu32_lss, ↓xu32_gtr, ↓xu32_geq, ↓xu64_sub, ↓xu64_com, 
      ↓xu64_shl, ↓xu64_eql, ↓xu64_neq, ↓xu64_lss, ↓xu64_gtr, ↓xu64_geq, ↓xi64_lss, ↓xi64_gtr, ↓xi64_geq, ↓xi64_eql, ↓xi64_neq, ↓xi64_shl, ↓xi64_neg, Int.toNat_natCast, Int.reduceToNat, Nat.reduceMul, Nat.reduceAdd, Nat.reduceSub, 
      Nat.mul_one, List.nil_append, List.cons_append, List.getElem?_toArray, List.getElem?_cons_zero, List.getElem?_cons_succ, cells_int, cells_bool, cells_string, cells_slice, cells_pointer, cells_agg, one_int, one_bool, 
      one_string, one_slice, one_pointer, List.setIfInBounds_toArray, List.set_cons_zero, List.set_cons_succ, ↓xDet_s, ↓xDet_ld, ↓xDet_ld2, ↓xDet_ld3, ↓xDet_ld4, World.size_drew, Nat.zero_add, Nat.add_zero, cell_drew, frozen_drew, 
      cell_set_eq, cell_set_o, cell_set_b, Option.map_some, World.frozen?_setCell, decide_true, decide_false, List.not_mem_nil, not_false_eq_true, ↓xGuard_tt, Bool.not_true, Bool.not_false, ←decide_not, ↓eb_4, ↓nb_4, ↓cv_2_23, ↓cv_3_39, eq_self]
  refine bits_Narrow_call (Gives.to (Narrow_spec _ _ _) fun w4 E4 => ?_)
  have z4 := E4.size
  try simp only [World.size_alloc, World.size_setCell, World.size_drew] at z4
  simp (disch := (first | omega | decide | (simp only [World.size_alloc, World.size_setCell, World.size_drew, List.mem_cons, List.not_mem_nil, or_false, not_false_eq_true] <;> omega) | fail)) only [↓xBox_r, ↓loadK_some, ↓loadsK_s, ↓loadsK_n, ↓loadsR_s, ↓loadsR_n, ↓storesK_s, ↓storesK_n, setCells_c, setCells_n, World.setCell_alloc_at, World.setCell_alloc_past, World.cell?_alloc_at, World.cell?_alloc_past, 
      World.frozen?_alloc_at, World.frozen?_alloc_past, World.size_alloc, ↓xPick_t, ↓xPick_f, ↓xGuard_tt, ↓xGuard_ff, ↓xGuard_tf, ↓xGuard_ft, ↓xGuard_u, ↓xNil_r, Option.isNone_some, Option.isNone_none, ↓xIf_t, tick_eq, tickV_eq, ne_eq, 
      dlt_t, dlt_f, dle_t, dle_f, deq_t, deq_f, dne_t, dne_f, not_true_eq_false, Int.reduceAdd, Int.reduceSub, Int.reduceMul, Int.reduceEq, Int.reduceLT, Int.reduceLE, Bool.false_and, Bool.true_and, Bool.and_true, 
      Bool.and_false, ↓xBin_add', ↓xBin_sub', ↓xBin_mul', ↓xBin_quo', ↓xBin_rem', wrap_in, ↓xIf_f, ↓xIf_tt, ↓xEx0, ↓xEx1, ↓xEx2, ↓xEx3, ↓xBin_eqs, ↓xBin_nes, ↓xUn_not, ↓xu8_sub, ↓xu8_com, ↓xu8_shl, ↓xu8_eql, ↓xu8_neq, ↓xu8_lss, 
      ↓xu8_gtr, ↓xu8_geq, ↓xu16_sub, ↓xu16_com, ↓xu16_shl, ↓xu16_eql, ↓xu16_neq, ↓xu16_lss, ↓xu16_gtr, ↓xu16_geq, ↓xu32_sub, ↓xu32_com, ↓xu32_shl, ↓xu32_eql, ↓xu32_neq, ↓xu32_lss, ↓xu32_gtr, ↓xu32_geq, ↓xu64_sub, ↓xu64_com, 
      ↓xu64_shl, ↓xu64_eql, ↓xu64_neq, ↓xu64_lss, ↓xu64_gtr, ↓xu64_geq, ↓xi64_lss, ↓xi64_gtr, ↓xi64_geq, ↓xi64_eql, ↓xi64_neq, ↓xi64_shl, ↓xi64_neg, Int.toNat_natCast, Int.reduceToNat, Nat.reduceMul, Nat.reduceAdd, Nat.reduceSub, 
      Nat.mul_one, List.nil_append, List.cons_append, List.getElem?_toArray, List.getElem?_cons_zero, List.getElem?_cons_succ, cells_int, cells_bool, cells_string, cells_slice, cells_pointer, cells_agg, one_int, one_bool, 
      one_string, one_slice, one_pointer, List.setIfInBounds_toArray, List.set_cons_zero, List.set_cons_succ, ↓xDet_s, ↓xDet_ld, ↓xDet_ld2, ↓xDet_ld3, ↓xDet_ld4, World.size_drew, Nat.zero_add, Nat.add_zero, cell_drew, frozen_drew, 
      cell_set_eq, cell_set_o, cell_set_b, Option.map_some, World.frozen?_setCell, decide_true, decide_false, List.not_mem_nil, not_false_eq_true, ↓xGuard_tt, Bool.not_true, Bool.not_false, ←decide_not, ↓eb_4, ↓nb_4, ↓cv_2_23, ↓cv_3_39, eq_self]
  refine bits_Fits_call (Gives.to (Fits_spec _ _ _) fun w5 E5 => ?_)
  have z5 := E5.size
  try simp only [World.size_alloc, World.size_setCell, World.size_drew] at z5
  simp (disch := (first | omega | decide | (simp only [World.size_alloc, World.size_setCell, World.size_drew, List.mem_cons, List.not_mem_nil, or_false, not_false_eq_true] <;> omega) | fail)) only [↓xBox_r, ↓loadK_some, ↓loadsK_s, ↓loadsK_n, ↓loadsR_s, ↓loadsR_n, ↓storesK_s, ↓storesK_n, setCells_c, setCells_n, World.setCell_alloc_at, World.setCell_alloc_past, World.cell?_alloc_at, World.cell?_alloc_past, 
      World.frozen?_alloc_at, World.frozen?_alloc_past, World.size_alloc, ↓xPick_t, ↓xPick_f, ↓xGuard_tt, ↓xGuard_ff, ↓xGuard_tf, ↓xGuard_ft, ↓xGuard_u, ↓xNil_r, Option.isNone_some, Option.isNone_none, ↓xIf_t, tick_eq, tickV_eq, ne_eq, 
      dlt_t, dlt_f, dle_t, dle_f, deq_t, deq_f, dne_t, dne_f, not_true_eq_false, Int.reduceAdd, Int.reduceSub, Int.reduceMul, Int.reduceEq, Int.reduceLT, Int.reduceLE, Bool.false_and, Bool.true_and, Bool.and_true, 
      Bool.and_false, ↓xBin_add', ↓xBin_sub', ↓xBin_mul', ↓xBin_quo', ↓xBin_rem', wrap_in, ↓xIf_f, ↓xIf_tt, ↓xEx0, ↓xEx1, ↓xEx2, ↓xEx3, ↓xBin_eqs, ↓xBin_nes, ↓xUn_not, ↓xu8_sub, ↓xu8_com, ↓xu8_shl, ↓xu8_eql, ↓xu8_neq, ↓xu8_lss, 
      ↓xu8_gtr, ↓xu8_geq, ↓xu16_sub, ↓xu16_com, ↓xu16_shl, ↓xu16_eql, ↓xu16_neq, ↓xu16_lss, ↓xu16_gtr, ↓xu16_geq, ↓xu32_sub, ↓xu32_com, ↓xu32_shl, ↓xu32_eql, ↓xu32_neq, ↓xu32_lss, ↓xu32_gtr, ↓xu32_geq, ↓xu64_sub, ↓xu64_com, 
      ↓xu64_shl, ↓xu64_eql, ↓xu64_neq, ↓xu64_lss, ↓xu64_gtr, ↓xu64_geq, ↓xi64_lss, ↓xi64_gtr, ↓xi64_geq, ↓xi64_eql, ↓xi64_neq, ↓xi64_shl, ↓xi64_neg, Int.toNat_natCast, Int.reduceToNat, Nat.reduceMul, Nat.reduceAdd, Nat.reduceSub, 
      Nat.mul_one, List.nil_append, List.cons_append, List.getElem?_toArray, List.getElem?_cons_zero, List.getElem?_cons_succ, cells_int, cells_bool, cells_string, cells_slice, cells_pointer, cells_agg, one_int, one_bool, 
      one_string, one_slice, one_pointer, List.setIfInBounds_toArray, List.set_cons_zero, List.set_cons_succ, ↓xDet_s, ↓xDet_ld, ↓xDet_ld2, ↓xDet_ld3, ↓xDet_ld4, World.size_drew, Nat.zero_add, Nat.add_zero, cell_drew, frozen_drew, 
      cell_set_eq, cell_set_o, cell_set_b, Option.map_some, World.frozen?_setCell, decide_true, decide_false, List.not_mem_nil, not_false_eq_true, ↓xGuard_tt, Bool.not_true, Bool.not_false, ←decide_not, ↓eb_4, ↓nb_4, ↓cv_2_23, ↓cv_3_39, beq_self_eq_true]
  by_cases g : n < 1 ∨ 63 < n
  · have hg : n = 64 ∨ (n < 1 ∨ 64 < n) := by omega
    rcases hg with rfl | hg
    · have hs : signI v 64 = v := by
        unfold signI
        rw [if_pos (by decide)]
        exact bmod_self (n := 64) (by decide) (by simpa using hv.1) (by simpa using by omega)
      simp (disch := (first | omega | decide | (simp only [World.size_alloc, World.size_setCell, World.size_drew, List.mem_cons, List.not_mem_nil, or_false, not_false_eq_true] <;> omega) | fail)) only [↓xBox_r, ↓loadK_some, ↓loadsK_s, ↓loadsK_n, ↓loadsR_s, ↓loadsR_n, ↓storesK_s, ↓storesK_n, setCells_c, setCells_n, World.setCell_alloc_at, World.setCell_alloc_past, World.cell?_alloc_at, World.cell?_alloc_past, 
      World.frozen?_alloc_at, World.frozen?_alloc_past, World.size_alloc, ↓xPick_t, ↓xPick_f, ↓xGuard_tt, ↓xGuard_ff, ↓xGuard_tf, ↓xGuard_ft, ↓xGuard_u, ↓xNil_r, Option.isNone_some, Option.isNone_none, ↓xIf_t, tick_eq, tickV_eq, ne_eq, 
      dlt_t, dlt_f, dle_t, dle_f, deq_t, deq_f, dne_t, dne_f, not_true_eq_false, Int.reduceAdd, Int.reduceSub, Int.reduceMul, Int.reduceEq, Int.reduceLT, Int.reduceLE, Bool.false_and, Bool.true_and, Bool.and_true, 
      Bool.and_false, ↓xBin_add', ↓xBin_sub', ↓xBin_mul', ↓xBin_quo', ↓xBin_rem', wrap_in, ↓xIf_f, ↓xIf_tt, ↓xEx0, ↓xEx1, ↓xEx2, ↓xEx3, ↓xBin_eqs, ↓xBin_nes, ↓xUn_not, ↓xu8_sub, ↓xu8_com, ↓xu8_shl, ↓xu8_eql, ↓xu8_neq, ↓xu8_lss, 
      ↓xu8_gtr, ↓xu8_geq, ↓xu16_sub, ↓xu16_com, ↓xu16_shl, ↓xu16_eql, ↓xu16_neq, ↓xu16_lss, ↓xu16_gtr, ↓xu16_geq, ↓xu32_sub, ↓xu32_com, ↓xu32_shl, ↓xu32_eql, ↓xu32_neq, ↓xu32_lss, ↓xu32_gtr, ↓xu32_geq, ↓xu64_sub, ↓xu64_com, 
      ↓xu64_shl, ↓xu64_eql, ↓xu64_neq, ↓xu64_lss, ↓xu64_gtr, ↓xu64_geq, ↓xi64_lss, ↓xi64_gtr, ↓xi64_geq, ↓xi64_eql, ↓xi64_neq, ↓xi64_shl, ↓xi64_neg, Int.toNat_natCast, Int.reduceToNat, Nat.reduceMul, Nat.reduceAdd, Nat.reduceSub, 
      Nat.mul_one, List.nil_append, List.cons_append, List.getElem?_toArray, List.getElem?_cons_zero, List.getElem?_cons_succ, cells_int, cells_bool, cells_string, cells_slice, cells_pointer, cells_agg, one_int, one_bool, 
      one_string, one_slice, one_pointer, List.setIfInBounds_toArray, List.set_cons_zero, List.set_cons_succ, ↓xDet_s, ↓xDet_ld, ↓xDet_ld2, ↓xDet_ld3, ↓xDet_ld4, World.size_drew, Nat.zero_add, Nat.add_zero, cell_drew, frozen_drew, 
      cell_set_eq, cell_set_o, cell_set_b, Option.map_some, World.frozen?_setCell, decide_true, decide_false, List.not_mem_nil, not_false_eq_true, ↓xGuard_tt, Bool.not_true, Bool.not_false, ←decide_not, ↓eb_4, ↓nb_4, ↓cv_2_23, ↓cv_3_39, beq_self_eq_true, hs]
      exact ⟨by trivial, by (repeat (first | with_reducible exact Ext.refl _ _ | with_reducible assumption | with_reducible refine Ext.alloc' ?_ _ | with_reducible refine Ext.drew' ?_ | with_reducible refine Ext.set' ?_ ?_ | exact .inr (by first | omega | (simp only [World.size_alloc, World.size_drew, World.size_setCell] <;> omega)) | refine Ext.trans ?_ (by with_reducible assumption)))⟩
    · have hs : signI v n = 0 := if_neg (by omega)
      rcases hg with hg | hg
      · simp (disch := (first | omega | decide | (simp only [World.size_alloc, World.size_setCell, World.size_drew, List.mem_cons, List.not_mem_nil, or_false, not_false_eq_true] <;> omega) | fail)) only [↓xBox_r, ↓loadK_some, ↓loadsK_s, ↓loadsK_n, ↓loadsR_s, ↓loadsR_n, ↓storesK_s, ↓storesK_n, setCells_c, setCells_n, World.setCell_alloc_at, World.setCell_alloc_past, World.cell?_alloc_at, World.cell?_alloc_past, 
      World.frozen?_alloc_at, World.frozen?_alloc_past, World.size_alloc, ↓xPick_t, ↓xPick_f, ↓xGuard_tt, ↓xGuard_ff, ↓xGuard_tf, ↓xGuard_ft, ↓xGuard_u, ↓xNil_r, Option.isNone_some, Option.isNone_none, ↓xIf_t, tick_eq, tickV_eq, ne_eq, 
      dlt_t, dlt_f, dle_t, dle_f, deq_t, deq_f, dne_t, dne_f, not_true_eq_false, Int.reduceAdd, Int.reduceSub, Int.reduceMul, Int.reduceEq, Int.reduceLT, Int.reduceLE, Bool.false_and, Bool.true_and, Bool.and_true, 
      Bool.and_false, ↓xBin_add', ↓xBin_sub', ↓xBin_mul', ↓xBin_quo', ↓xBin_rem', wrap_in, ↓xIf_f, ↓xIf_tt, ↓xEx0, ↓xEx1, ↓xEx2, ↓xEx3, ↓xBin_eqs, ↓xBin_nes, ↓xUn_not, ↓xu8_sub, ↓xu8_com, ↓xu8_shl, ↓xu8_eql, ↓xu8_neq, ↓xu8_lss, 
      ↓xu8_gtr, ↓xu8_geq, ↓xu16_sub, ↓xu16_com, ↓xu16_shl, ↓xu16_eql, ↓xu16_neq, ↓xu16_lss, ↓xu16_gtr, ↓xu16_geq, ↓xu32_sub, ↓xu32_com, ↓xu32_shl, ↓xu32_eql, ↓xu32_neq, ↓xu32_lss, ↓xu32_gtr, ↓xu32_geq, ↓xu64_sub, ↓xu64_com, 
      ↓xu64_shl, ↓xu64_eql, ↓xu64_neq, ↓xu64_lss, ↓xu64_gtr, ↓xu64_geq, ↓xi64_lss, ↓xi64_gtr, ↓xi64_geq, ↓xi64_eql, ↓xi64_neq, ↓xi64_shl, ↓xi64_neg, Int.toNat_natCast, Int.reduceToNat, Nat.reduceMul, Nat.reduceAdd, Nat.reduceSub, 
      Nat.mul_one, List.nil_append, List.cons_append, List.getElem?_toArray, List.getElem?_cons_zero, List.getElem?_cons_succ, cells_int, cells_bool, cells_string, cells_slice, cells_pointer, cells_agg, one_int, one_bool, 
      one_string, one_slice, one_pointer, List.setIfInBounds_toArray, List.set_cons_zero, List.set_cons_succ, ↓xDet_s, ↓xDet_ld, ↓xDet_ld2, ↓xDet_ld3, ↓xDet_ld4, World.size_drew, Nat.zero_add, Nat.add_zero, cell_drew, frozen_drew, 
      cell_set_eq, cell_set_o, cell_set_b, Option.map_some, World.frozen?_setCell, decide_true, decide_false, List.not_mem_nil, not_false_eq_true, ↓xGuard_tt, Bool.not_true, Bool.not_false, ←decide_not, ↓eb_4, ↓nb_4, ↓cv_2_23, ↓cv_3_39, beq_self_eq_true, hs]
        exact ⟨by trivial, by (repeat (first | with_reducible exact Ext.refl _ _ | with_reducible assumption | with_reducible refine Ext.alloc' ?_ _ | with_reducible refine Ext.drew' ?_ | with_reducible refine Ext.set' ?_ ?_ | exact .inr (by first | omega | (simp only [World.size_alloc, World.size_drew, World.size_setCell] <;> omega)) | refine Ext.trans ?_ (by with_reducible assumption)))⟩
      · simp (disch := (first | omega | decide | (simp only [World.size_alloc, World.size_setCell, World.size_drew, List.mem_cons, List.not_mem_nil, or_false, not_false_eq_true] <;> omega) | fail)) only [↓xBox_r, ↓loadK_some, ↓loadsK_s, ↓loadsK_n, ↓loadsR_s, ↓loadsR_n, ↓storesK_s, ↓storesK_n, setCells_c, setCells_n, World.setCell_alloc_at, World.setCell_alloc_past, World.cell?_alloc_at, World.cell?_alloc_past, 
      World.frozen?_alloc_at, World.frozen?_alloc_past, World.size_alloc, ↓xPick_t, ↓xPick_f, ↓xGuard_tt, ↓xGuard_ff, ↓xGuard_tf, ↓xGuard_ft, ↓xGuard_u, ↓xNil_r, Option.isNone_some, Option.isNone_none, ↓xIf_t, tick_eq, tickV_eq, ne_eq, 
      dlt_t, dlt_f, dle_t, dle_f, deq_t, deq_f, dne_t, dne_f, not_true_eq_false, Int.reduceAdd, Int.reduceSub, Int.reduceMul, Int.reduceEq, Int.reduceLT, Int.reduceLE, Bool.false_and, Bool.true_and, Bool.and_true, 
      Bool.and_false, ↓xBin_add', ↓xBin_sub', ↓xBin_mul', ↓xBin_quo', ↓xBin_rem', wrap_in, ↓xIf_f, ↓xIf_tt, ↓xEx0, ↓xEx1, ↓xEx2, ↓xEx3, ↓xBin_eqs, ↓xBin_nes, ↓xUn_not, ↓xu8_sub, ↓xu8_com, ↓xu8_shl, ↓xu8_eql, ↓xu8_neq, ↓xu8_lss, 
      ↓xu8_gtr, ↓xu8_geq, ↓xu16_sub, ↓xu16_com, ↓xu16_shl, ↓xu16_eql, ↓xu16_neq, ↓xu16_lss, ↓xu16_gtr, ↓xu16_geq, ↓xu32_sub, ↓xu32_com, ↓xu32_shl, ↓xu32_eql, ↓xu32_neq, ↓xu32_lss, ↓xu32_gtr, ↓xu32_geq, ↓xu64_sub, ↓xu64_com, 
      ↓xu64_shl, ↓xu64_eql, ↓xu64_neq, ↓xu64_lss, ↓xu64_gtr, ↓xu64_geq, ↓xi64_lss, ↓xi64_gtr, ↓xi64_geq, ↓xi64_eql, ↓xi64_neq, ↓xi64_shl, ↓xi64_neg, Int.toNat_natCast, Int.reduceToNat, Nat.reduceMul, Nat.reduceAdd, Nat.reduceSub, 
      Nat.mul_one, List.nil_append, List.cons_append, List.getElem?_toArray, List.getElem?_cons_zero, List.getElem?_cons_succ, cells_int, cells_bool, cells_string, cells_slice, cells_pointer, cells_agg, one_int, one_bool, 
      one_string, one_slice, one_pointer, List.setIfInBounds_toArray, List.set_cons_zero, List.set_cons_succ, ↓xDet_s, ↓xDet_ld, ↓xDet_ld2, ↓xDet_ld3, ↓xDet_ld4, World.size_drew, Nat.zero_add, Nat.add_zero, cell_drew, frozen_drew, 
      cell_set_eq, cell_set_o, cell_set_b, Option.map_some, World.frozen?_setCell, decide_true, decide_false, List.not_mem_nil, not_false_eq_true, ↓xGuard_tt, Bool.not_true, Bool.not_false, ←decide_not, ↓eb_4, ↓nb_4, ↓cv_2_23, ↓cv_3_39, beq_self_eq_true, hs]
        exact ⟨by trivial, by (repeat (first | with_reducible exact Ext.refl _ _ | with_reducible assumption | with_reducible refine Ext.alloc' ?_ _ | with_reducible refine Ext.drew' ?_ | with_reducible refine Ext.set' ?_ ?_ | exact .inr (by first | omega | (simp only [World.size_alloc, World.size_drew, World.size_setCell] <;> omega)) | refine Ext.trans ?_ (by with_reducible assumption)))⟩
  · obtain ⟨k, rfl⟩ : ∃ k : Nat, n = k := ⟨n.toNat, by omega⟩
    have hs : signI v (k : Int) = Int.bmod v (2 ^ k) := by unfold signI; rw [if_pos (by omega), Int.toNat_natCast]
    obtain ⟨r1, r2⟩ := bmod_range (v := v) (n := k) (by omega)
    have hp : 2 ^ (k - 1) ≤ 2 ^ 62 := Nat.pow_le_pow_right (by decide) (by omega)
    have hp0 : 0 < 2 ^ (k - 1) := Nat.pow_pos (by decide)
    have t1 : (BitVec.ofInt 64 ((k : Int) - 1)).toNat = k - 1 := by rw [BitVec.toNat_ofInt]; omega
    have t2 : IntKind.i64.wrap (1 * 2 ^ min (k - 1) 64) = ((2 ^ (k - 1) : Nat) : Int) := by
      rw [Nat.min_eq_left (by omega), Int.one_mul, show ((2 : Int) ^ (k - 1)) = ((2 ^ (k - 1) : Nat) : Int) by push_cast; rfl]
      exact wrap_in (by omega) (by omega)
    simp (disch := (first | omega | decide | (simp only [World.size_alloc, World.size_setCell, World.size_drew, List.mem_cons, List.not_mem_nil, or_false, not_false_eq_true] <;> omega) | fail)) only [↓xBox_r, ↓loadK_some, ↓loadsK_s, ↓loadsK_n, ↓loadsR_s, ↓loadsR_n, ↓storesK_s, ↓storesK_n, setCells_c, setCells_n, World.setCell_alloc_at, World.setCell_alloc_past, World.cell?_alloc_at, World.cell?_alloc_past, 
      World.frozen?_alloc_at, World.frozen?_alloc_past, World.size_alloc, ↓xPick_t, ↓xPick_f, ↓xGuard_tt, ↓xGuard_ff, ↓xGuard_tf, ↓xGuard_ft, ↓xGuard_u, ↓xNil_r, Option.isNone_some, Option.isNone_none, ↓xIf_t, tick_eq, tickV_eq, ne_eq, 
      dlt_t, dlt_f, dle_t, dle_f, deq_t, deq_f, dne_t, dne_f, not_true_eq_false, Int.reduceAdd, Int.reduceSub, Int.reduceMul, Int.reduceEq, Int.reduceLT, Int.reduceLE, Bool.false_and, Bool.true_and, Bool.and_true, 
      Bool.and_false, ↓xBin_add', ↓xBin_sub', ↓xBin_mul', ↓xBin_quo', ↓xBin_rem', wrap_in, ↓xIf_f, ↓xIf_tt, ↓xEx0, ↓xEx1, ↓xEx2, ↓xEx3, ↓xBin_eqs, ↓xBin_nes, ↓xUn_not, ↓xu8_sub, ↓xu8_com, ↓xu8_shl, ↓xu8_eql, ↓xu8_neq, ↓xu8_lss, 
      ↓xu8_gtr, ↓xu8_geq, ↓xu16_sub, ↓xu16_com, ↓xu16_shl, ↓xu16_eql, ↓xu16_neq, ↓xu16_lss, ↓xu16_gtr, ↓xu16_geq, ↓xu32_sub, ↓xu32_com, ↓xu32_shl, ↓xu32_eql, ↓xu32_neq, ↓xu32_lss, ↓xu32_gtr, ↓xu32_geq, ↓xu64_sub, ↓xu64_com, 
      ↓xu64_shl, ↓xu64_eql, ↓xu64_neq, ↓xu64_lss, ↓xu64_gtr, ↓xu64_geq, ↓xi64_lss, ↓xi64_gtr, ↓xi64_geq, ↓xi64_eql, ↓xi64_neq, ↓xi64_shl, ↓xi64_neg, Int.toNat_natCast, Int.reduceToNat, Nat.reduceMul, Nat.reduceAdd, Nat.reduceSub, 
      Nat.mul_one, List.nil_append, List.cons_append, List.getElem?_toArray, List.getElem?_cons_zero, List.getElem?_cons_succ, cells_int, cells_bool, cells_string, cells_slice, cells_pointer, cells_agg, one_int, one_bool, 
      one_string, one_slice, one_pointer, List.setIfInBounds_toArray, List.set_cons_zero, List.set_cons_succ, ↓xDet_s, ↓xDet_ld, ↓xDet_ld2, ↓xDet_ld3, ↓xDet_ld4, World.size_drew, Nat.zero_add, Nat.add_zero, cell_drew, frozen_drew, 
      cell_set_eq, cell_set_o, cell_set_b, Option.map_some, World.frozen?_setCell, decide_true, decide_false, List.not_mem_nil, not_false_eq_true, ↓xGuard_tt, Bool.not_true, Bool.not_false, ←decide_not, ↓eb_4, ↓nb_4, ↓cv_2_23, ↓cv_3_39, beq_self_eq_true, t1, t2, hs]
    generalize hb : Int.bmod v (2 ^ k) = s at *
    generalize hq : ((2 ^ (k - 1) : Nat) : Int) = q at *
    simp (disch := (first | omega | decide | (simp only [World.size_alloc, World.size_setCell, World.size_drew, List.mem_cons, List.not_mem_nil, or_false, not_false_eq_true] <;> omega) | fail)) only [↓xBox_r, ↓loadK_some, ↓loadsK_s, ↓loadsK_n, ↓loadsR_s, ↓loadsR_n, ↓storesK_s, ↓storesK_n, setCells_c, setCells_n, World.setCell_alloc_at, World.setCell_alloc_past, World.cell?_alloc_at, World.cell?_alloc_past, 
      World.frozen?_alloc_at, World.frozen?_alloc_past, World.size_alloc, ↓xPick_t, ↓xPick_f, ↓xGuard_tt, ↓xGuard_ff, ↓xGuard_tf, ↓xGuard_ft, ↓xGuard_u, ↓xNil_r, Option.isNone_some, Option.isNone_none, ↓xIf_t, tick_eq, tickV_eq, ne_eq, 
      dlt_t, dlt_f, dle_t, dle_f, deq_t, deq_f, dne_t, dne_f, not_true_eq_false, Int.reduceAdd, Int.reduceSub, Int.reduceMul, Int.reduceEq, Int.reduceLT, Int.reduceLE, Bool.false_and, Bool.true_and, Bool.and_true, 
      Bool.and_false, ↓xBin_add', ↓xBin_sub', ↓xBin_mul', ↓xBin_quo', ↓xBin_rem', wrap_in, ↓xIf_f, ↓xIf_tt, ↓xEx0, ↓xEx1, ↓xEx2, ↓xEx3, ↓xBin_eqs, ↓xBin_nes, ↓xUn_not, ↓xu8_sub, ↓xu8_com, ↓xu8_shl, ↓xu8_eql, ↓xu8_neq, ↓xu8_lss, 
      ↓xu8_gtr, ↓xu8_geq, ↓xu16_sub, ↓xu16_com, ↓xu16_shl, ↓xu16_eql, ↓xu16_neq, ↓xu16_lss, ↓xu16_gtr, ↓xu16_geq, ↓xu32_sub, ↓xu32_com, ↓xu32_shl, ↓xu32_eql, ↓xu32_neq, ↓xu32_lss, ↓xu32_gtr, ↓xu32_geq, ↓xu64_sub, ↓xu64_com, 
      ↓xu64_shl, ↓xu64_eql, ↓xu64_neq, ↓xu64_lss, ↓xu64_gtr, ↓xu64_geq, ↓xi64_lss, ↓xi64_gtr, ↓xi64_geq, ↓xi64_eql, ↓xi64_neq, ↓xi64_shl, ↓xi64_neg, Int.toNat_natCast, Int.reduceToNat, Nat.reduceMul, Nat.reduceAdd, Nat.reduceSub, 
      Nat.mul_one, List.nil_append, List.cons_append, List.getElem?_toArray, List.getElem?_cons_zero, List.getElem?_cons_succ, cells_int, cells_bool, cells_string, cells_slice, cells_pointer, cells_agg, one_int, one_bool, 
      one_string, one_slice, one_pointer, List.setIfInBounds_toArray, List.set_cons_zero, List.set_cons_succ, ↓xDet_s, ↓xDet_ld, ↓xDet_ld2, ↓xDet_ld3, ↓xDet_ld4, World.size_drew, Nat.zero_add, Nat.add_zero, cell_drew, frozen_drew, 
      cell_set_eq, cell_set_o, cell_set_b, Option.map_some, World.frozen?_setCell, decide_true, decide_false, List.not_mem_nil, not_false_eq_true, ↓xGuard_tt, Bool.not_true, Bool.not_false, ←decide_not, ↓eb_4, ↓nb_4, ↓cv_2_23, ↓cv_3_39, beq_self_eq_true, t1, t2, hs]
    refine bits_Sign_call (Gives.to (Sign_spec _ _ _) fun w6 E6 => ?_)
    have z6 := E6.size
    try simp only [World.size_alloc, World.size_setCell, World.size_drew] at z6
    have h3 : signI ((BitVec.ofInt 64 s).toNat : Int) (k : Int) = s := by
      unfold signI
      rw [if_pos (by omega), Int.toNat_natCast, bmod_ofInt (by omega), ← hb, bmod_pow (Nat.le_refl k)]
    rw [h3]
    simp (disch := (first | omega | decide | (simp only [World.size_alloc, World.size_setCell, World.size_drew, List.mem_cons, List.not_mem_nil, or_false, not_false_eq_true] <;> omega) | fail)) only [↓xBox_r, ↓loadK_some, ↓loadsK_s, ↓loadsK_n, ↓loadsR_s, ↓loadsR_n, ↓storesK_s, ↓storesK_n, setCells_c, setCells_n, World.setCell_alloc_at, World.setCell_alloc_past, World.cell?_alloc_at, World.cell?_alloc_past, 
      World.frozen?_alloc_at, World.frozen?_alloc_past, World.size_alloc, ↓xPick_t, ↓xPick_f, ↓xGuard_tt, ↓xGuard_ff, ↓xGuard_tf, ↓xGuard_ft, ↓xGuard_u, ↓xNil_r, Option.isNone_some, Option.isNone_none, ↓xIf_t, tick_eq, tickV_eq, ne_eq, 
      dlt_t, dlt_f, dle_t, dle_f, deq_t, deq_f, dne_t, dne_f, not_true_eq_false, Int.reduceAdd, Int.reduceSub, Int.reduceMul, Int.reduceEq, Int.reduceLT, Int.reduceLE, Bool.false_and, Bool.true_and, Bool.and_true, 
      Bool.and_false, ↓xBin_add', ↓xBin_sub', ↓xBin_mul', ↓xBin_quo', ↓xBin_rem', wrap_in, ↓xIf_f, ↓xIf_tt, ↓xEx0, ↓xEx1, ↓xEx2, ↓xEx3, ↓xBin_eqs, ↓xBin_nes, ↓xUn_not, ↓xu8_sub, ↓xu8_com, ↓xu8_shl, ↓xu8_eql, ↓xu8_neq, ↓xu8_lss, 
      ↓xu8_gtr, ↓xu8_geq, ↓xu16_sub, ↓xu16_com, ↓xu16_shl, ↓xu16_eql, ↓xu16_neq, ↓xu16_lss, ↓xu16_gtr, ↓xu16_geq, ↓xu32_sub, ↓xu32_com, ↓xu32_shl, ↓xu32_eql, ↓xu32_neq, ↓xu32_lss, ↓xu32_gtr, ↓xu32_geq, ↓xu64_sub, ↓xu64_com, 
      ↓xu64_shl, ↓xu64_eql, ↓xu64_neq, ↓xu64_lss, ↓xu64_gtr, ↓xu64_geq, ↓xi64_lss, ↓xi64_gtr, ↓xi64_geq, ↓xi64_eql, ↓xi64_neq, ↓xi64_shl, ↓xi64_neg, Int.toNat_natCast, Int.reduceToNat, Nat.reduceMul, Nat.reduceAdd, Nat.reduceSub, 
      Nat.mul_one, List.nil_append, List.cons_append, List.getElem?_toArray, List.getElem?_cons_zero, List.getElem?_cons_succ, cells_int, cells_bool, cells_string, cells_slice, cells_pointer, cells_agg, one_int, one_bool, 
      one_string, one_slice, one_pointer, List.setIfInBounds_toArray, List.set_cons_zero, List.set_cons_succ, ↓xDet_s, ↓xDet_ld, ↓xDet_ld2, ↓xDet_ld3, ↓xDet_ld4, World.size_drew, Nat.zero_add, Nat.add_zero, cell_drew, frozen_drew, 
      cell_set_eq, cell_set_o, cell_set_b, Option.map_some, World.frozen?_setCell, decide_true, decide_false, List.not_mem_nil, not_false_eq_true, ↓xGuard_tt, Bool.not_true, Bool.not_false, ←decide_not, ↓eb_4, ↓nb_4, ↓cv_2_23, ↓cv_3_39, beq_self_eq_true, t1, t2, hs]
    exact ⟨by trivial, by (repeat (first | with_reducible exact Ext.refl _ _ | with_reducible assumption | with_reducible refine Ext.alloc' ?_ _ | with_reducible refine Ext.drew' ?_ | with_reducible refine Ext.set' ?_ ?_ | exact .inr (by first | omega | (simp only [World.size_alloc, World.size_drew, World.size_setCell] <;> omega)) | refine Ext.trans ?_ (by with_reducible assumption)))⟩

theorem BitsNarrow_spec (v a b : Int) (w : World) : Gives Try.prog n_loamlaw1_BitsNarrow #[i64 v, i64 a, i64 b] w (.bool true) := by
  refine loamlaw1_BitsNarrow_of ?_
  unfold loamlaw1_BitsNarrow
  refine loamlaw1_known_call (Gives.to (known1_spec _) fun w1 E1 => ?_)
  have z1 := E1.size
  try simp only [World.size_alloc, World.size_setCell, World.size_drew] at z1
  simp (disch := (first | omega | decide | (simp only [World.size_alloc, World.size_setCell, World.size_drew, List.mem_cons, List.not_mem_nil, or_false, not_false_eq_true] <;> omega) | fail)) only [↓xBox_r, ↓loadK_some, ↓loadsK_s, ↓loadsK_n, ↓loadsR_s, ↓loadsR_n, ↓storesK_s, ↓storesK_n, setCells_c, setCells_n, World.setCell_alloc_at, World.setCell_alloc_past, World.cell?_alloc_at, World.cell?_alloc_past, 
      World.frozen?_alloc_at, World.frozen?_alloc_past, World.size_alloc, ↓xPick_t, ↓xPick_f, ↓xGuard_tt, ↓xGuard_ff, ↓xGuard_tf, ↓xGuard_ft, ↓xGuard_u, ↓xNil_r, Option.isNone_some, Option.isNone_none, ↓xIf_t, tick_eq, tickV_eq, ne_eq, 
      dlt_t, dlt_f, dle_t, dle_f, deq_t, deq_f, dne_t, dne_f, not_true_eq_false, Int.reduceAdd, Int.reduceSub, Int.reduceMul, Int.reduceEq, Int.reduceLT, Int.reduceLE, Bool.false_and, Bool.true_and, Bool.and_true, 
      Bool.and_false, ↓xBin_add', ↓xBin_sub', ↓xBin_mul', ↓xBin_quo', ↓xBin_rem', wrap_in, ↓xIf_f, ↓xIf_tt, ↓xEx0, ↓xEx1, ↓xEx2, ↓xEx3, ↓xBin_eqs, ↓xBin_nes, ↓xUn_not, ↓xu8_com, ↓xu8_eql, ↓xu8_lss, ↓xu8_gtr, ↓xu16_com, ↓xu16_eql, 
      ↓xu16_lss, ↓xu16_gtr, ↓xu32_com, ↓xu32_eql, ↓xu32_lss, ↓xu32_gtr, ↓xu64_com, ↓xu64_eql, ↓xu64_lss, ↓xu64_gtr, ↓xi64_lss, ↓xi64_gtr, ↓xi64_eql, Int.toNat_natCast, Int.reduceToNat, Nat.reduceMul, Nat.reduceAdd, Nat.reduceSub, 
      Nat.mul_one, List.nil_append, List.cons_append, List.getElem?_toArray, List.getElem?_cons_zero, List.getElem?_cons_succ, cells_int, cells_bool, cells_string, cells_slice, cells_pointer, cells_agg, one_int, one_bool, 
      one_string, one_slice, one_pointer, List.setIfInBounds_toArray, List.set_cons_zero, List.set_cons_succ, ↓xDet_s, ↓xDet_ld, ↓xDet_ld2, ↓xDet_ld3, ↓xDet_ld4, World.size_drew, Nat.zero_add, Nat.add_zero, cell_drew, frozen_drew, 
      cell_set_eq, cell_set_o, cell_set_b, Option.map_some, World.frozen?_setCell, decide_true, decide_false, List.not_mem_nil, not_false_eq_true, ↓xGuard_tt, Bool.not_true, Bool.not_false, ←decide_not, eq_self, eq_self]
  by_cases g1 : a < 1
  · simp (disch := (first | omega | decide | (simp only [World.size_alloc, World.size_setCell, World.size_drew, List.mem_cons, List.not_mem_nil, or_false, not_false_eq_true] <;> omega) | fail)) only [↓xBox_r, ↓loadK_some, ↓loadsK_s, ↓loadsK_n, ↓loadsR_s, ↓loadsR_n, ↓storesK_s, ↓storesK_n, setCells_c, setCells_n, World.setCell_alloc_at, World.setCell_alloc_past, World.cell?_alloc_at, World.cell?_alloc_past, 
      World.frozen?_alloc_at, World.frozen?_alloc_past, World.size_alloc, ↓xPick_t, ↓xPick_f, ↓xGuard_tt, ↓xGuard_ff, ↓xGuard_tf, ↓xGuard_ft, ↓xGuard_u, ↓xNil_r, Option.isNone_some, Option.isNone_none, ↓xIf_t, tick_eq, tickV_eq, ne_eq, 
      dlt_t, dlt_f, dle_t, dle_f, deq_t, deq_f, dne_t, dne_f, not_true_eq_false, Int.reduceAdd, Int.reduceSub, Int.reduceMul, Int.reduceEq, Int.reduceLT, Int.reduceLE, Bool.false_and, Bool.true_and, Bool.and_true, 
      Bool.and_false, ↓xBin_add', ↓xBin_sub', ↓xBin_mul', ↓xBin_quo', ↓xBin_rem', wrap_in, ↓xIf_f, ↓xIf_tt, ↓xEx0, ↓xEx1, ↓xEx2, ↓xEx3, ↓xBin_eqs, ↓xBin_nes, ↓xUn_not, ↓xu8_com, ↓xu8_eql, ↓xu8_lss, ↓xu8_gtr, ↓xu16_com, ↓xu16_eql, 
      ↓xu16_lss, ↓xu16_gtr, ↓xu32_com, ↓xu32_eql, ↓xu32_lss, ↓xu32_gtr, ↓xu64_com, ↓xu64_eql, ↓xu64_lss, ↓xu64_gtr, ↓xi64_lss, ↓xi64_gtr, ↓xi64_eql, Int.toNat_natCast, Int.reduceToNat, Nat.reduceMul, Nat.reduceAdd, Nat.reduceSub, 
      Nat.mul_one, List.nil_append, List.cons_append, List.getElem?_toArray, List.getElem?_cons_zero, List.getElem?_cons_succ, cells_int, cells_bool, cells_string, cells_slice, cells_pointer, cells_agg, one_int, one_bool, 
      one_string, one_slice, one_pointer, List.setIfInBounds_toArray, List.set_cons_zero, List.set_cons_succ, ↓xDet_s, ↓xDet_ld, ↓xDet_ld2, ↓xDet_ld3, ↓xDet_ld4, World.size_drew, Nat.zero_add, Nat.add_zero, cell_drew, frozen_drew, 
      cell_set_eq, cell_set_o, cell_set_b, Option.map_some, World.frozen?_setCell, decide_true, decide_false, List.not_mem_nil, not_false_eq_true, ↓xGuard_tt, Bool.not_true, Bool.not_false, ←decide_not, eq_self, eq_self, g1]
    exact ⟨by trivial, by (repeat (first | with_reducible exact Ext.refl _ _ | with_reducible assumption | with_reducible refine Ext.alloc' ?_ _ | with_reducible refine Ext.drew' ?_ | with_reducible refine Ext.set' ?_ ?_ | exact .inr (by first | omega | (simp only [World.size_alloc, World.size_drew, World.size_setCell] <;> omega)) | refine Ext.trans ?_ (by with_reducible assumption)))⟩
  by_cases g2 : 64 < a
  · simp (disch := (first | omega | decide | (simp only [World.size_alloc, World.size_setCell, World.size_drew, List.mem_cons, List.not_mem_nil, or_false, not_false_eq_true] <;> omega) | fail)) only [↓xBox_r, ↓loadK_some, ↓loadsK_s, ↓loadsK_n, ↓loadsR_s, ↓loadsR_n, ↓storesK_s, ↓storesK_n, setCells_c, setCells_n, World.setCell_alloc_at, World.setCell_alloc_past, World.cell?_alloc_at, World.cell?_alloc_past, 
      World.frozen?_alloc_at, World.frozen?_alloc_past, World.size_alloc, ↓xPick_t, ↓xPick_f, ↓xGuard_tt, ↓xGuard_ff, ↓xGuard_tf, ↓xGuard_ft, ↓xGuard_u, ↓xNil_r, Option.isNone_some, Option.isNone_none, ↓xIf_t, tick_eq, tickV_eq, ne_eq, 
      dlt_t, dlt_f, dle_t, dle_f, deq_t, deq_f, dne_t, dne_f, not_true_eq_false, Int.reduceAdd, Int.reduceSub, Int.reduceMul, Int.reduceEq, Int.reduceLT, Int.reduceLE, Bool.false_and, Bool.true_and, Bool.and_true, 
      Bool.and_false, ↓xBin_add', ↓xBin_sub', ↓xBin_mul', ↓xBin_quo', ↓xBin_rem', wrap_in, ↓xIf_f, ↓xIf_tt, ↓xEx0, ↓xEx1, ↓xEx2, ↓xEx3, ↓xBin_eqs, ↓xBin_nes, ↓xUn_not, ↓xu8_com, ↓xu8_eql, ↓xu8_lss, ↓xu8_gtr, ↓xu16_com, ↓xu16_eql, 
      ↓xu16_lss, ↓xu16_gtr, ↓xu32_com, ↓xu32_eql, ↓xu32_lss, ↓xu32_gtr, ↓xu64_com, ↓xu64_eql, ↓xu64_lss, ↓xu64_gtr, ↓xi64_lss, ↓xi64_gtr, ↓xi64_eql, Int.toNat_natCast, Int.reduceToNat, Nat.reduceMul, Nat.reduceAdd, Nat.reduceSub, 
      Nat.mul_one, List.nil_append, List.cons_append, List.getElem?_toArray, List.getElem?_cons_zero, List.getElem?_cons_succ, cells_int, cells_bool, cells_string, cells_slice, cells_pointer, cells_agg, one_int, one_bool, 
      one_string, one_slice, one_pointer, List.setIfInBounds_toArray, List.set_cons_zero, List.set_cons_succ, ↓xDet_s, ↓xDet_ld, ↓xDet_ld2, ↓xDet_ld3, ↓xDet_ld4, World.size_drew, Nat.zero_add, Nat.add_zero, cell_drew, frozen_drew, 
      cell_set_eq, cell_set_o, cell_set_b, Option.map_some, World.frozen?_setCell, decide_true, decide_false, List.not_mem_nil, not_false_eq_true, ↓xGuard_tt, Bool.not_true, Bool.not_false, ←decide_not, eq_self, g1, g2]
    exact ⟨by trivial, by (repeat (first | with_reducible exact Ext.refl _ _ | with_reducible assumption | with_reducible refine Ext.alloc' ?_ _ | with_reducible refine Ext.drew' ?_ | with_reducible refine Ext.set' ?_ ?_ | exact .inr (by first | omega | (simp only [World.size_alloc, World.size_drew, World.size_setCell] <;> omega)) | refine Ext.trans ?_ (by with_reducible assumption)))⟩
  by_cases g3 : b < 1
  · simp (disch := (first | omega | decide | (simp only [World.size_alloc, World.size_setCell, World.size_drew, List.mem_cons, List.not_mem_nil, or_false, not_false_eq_true] <;> omega) | fail)) only [↓xBox_r, ↓loadK_some, ↓loadsK_s, ↓loadsK_n, ↓loadsR_s, ↓loadsR_n, ↓storesK_s, ↓storesK_n, setCells_c, setCells_n, World.setCell_alloc_at, World.setCell_alloc_past, World.cell?_alloc_at, World.cell?_alloc_past, 
      World.frozen?_alloc_at, World.frozen?_alloc_past, World.size_alloc, ↓xPick_t, ↓xPick_f, ↓xGuard_tt, ↓xGuard_ff, ↓xGuard_tf, ↓xGuard_ft, ↓xGuard_u, ↓xNil_r, Option.isNone_some, Option.isNone_none, ↓xIf_t, tick_eq, tickV_eq, ne_eq, 
      dlt_t, dlt_f, dle_t, dle_f, deq_t, deq_f, dne_t, dne_f, not_true_eq_false, Int.reduceAdd, Int.reduceSub, Int.reduceMul, Int.reduceEq, Int.reduceLT, Int.reduceLE, Bool.false_and, Bool.true_and, Bool.and_true, 
      Bool.and_false, ↓xBin_add', ↓xBin_sub', ↓xBin_mul', ↓xBin_quo', ↓xBin_rem', wrap_in, ↓xIf_f, ↓xIf_tt, ↓xEx0, ↓xEx1, ↓xEx2, ↓xEx3, ↓xBin_eqs, ↓xBin_nes, ↓xUn_not, ↓xu8_com, ↓xu8_eql, ↓xu8_lss, ↓xu8_gtr, ↓xu16_com, ↓xu16_eql, 
      ↓xu16_lss, ↓xu16_gtr, ↓xu32_com, ↓xu32_eql, ↓xu32_lss, ↓xu32_gtr, ↓xu64_com, ↓xu64_eql, ↓xu64_lss, ↓xu64_gtr, ↓xi64_lss, ↓xi64_gtr, ↓xi64_eql, Int.toNat_natCast, Int.reduceToNat, Nat.reduceMul, Nat.reduceAdd, Nat.reduceSub, 
      Nat.mul_one, List.nil_append, List.cons_append, List.getElem?_toArray, List.getElem?_cons_zero, List.getElem?_cons_succ, cells_int, cells_bool, cells_string, cells_slice, cells_pointer, cells_agg, one_int, one_bool, 
      one_string, one_slice, one_pointer, List.setIfInBounds_toArray, List.set_cons_zero, List.set_cons_succ, ↓xDet_s, ↓xDet_ld, ↓xDet_ld2, ↓xDet_ld3, ↓xDet_ld4, World.size_drew, Nat.zero_add, Nat.add_zero, cell_drew, frozen_drew, 
      cell_set_eq, cell_set_o, cell_set_b, Option.map_some, World.frozen?_setCell, decide_true, decide_false, List.not_mem_nil, not_false_eq_true, ↓xGuard_tt, Bool.not_true, Bool.not_false, ←decide_not, eq_self, g1, g2, g3]
    exact ⟨by trivial, by (repeat (first | with_reducible exact Ext.refl _ _ | with_reducible assumption | with_reducible refine Ext.alloc' ?_ _ | with_reducible refine Ext.drew' ?_ | with_reducible refine Ext.set' ?_ ?_ | exact .inr (by first | omega | (simp only [World.size_alloc, World.size_drew, World.size_setCell] <;> omega)) | refine Ext.trans ?_ (by with_reducible assumption)))⟩
  by_cases g4 : a < b
  · simp (disch := (first | omega | decide | (simp only [World.size_alloc, World.size_setCell, World.size_drew, List.mem_cons, List.not_mem_nil, or_false, not_false_eq_true] <;> omega) | fail)) only [↓xBox_r, ↓loadK_some, ↓loadsK_s, ↓loadsK_n, ↓loadsR_s, ↓loadsR_n, ↓storesK_s, ↓storesK_n, setCells_c, setCells_n, World.setCell_alloc_at, World.setCell_alloc_past, World.cell?_alloc_at, World.cell?_alloc_past, 
      World.frozen?_alloc_at, World.frozen?_alloc_past, World.size_alloc, ↓xPick_t, ↓xPick_f, ↓xGuard_tt, ↓xGuard_ff, ↓xGuard_tf, ↓xGuard_ft, ↓xGuard_u, ↓xNil_r, Option.isNone_some, Option.isNone_none, ↓xIf_t, tick_eq, tickV_eq, ne_eq, 
      dlt_t, dlt_f, dle_t, dle_f, deq_t, deq_f, dne_t, dne_f, not_true_eq_false, Int.reduceAdd, Int.reduceSub, Int.reduceMul, Int.reduceEq, Int.reduceLT, Int.reduceLE, Bool.false_and, Bool.true_and, Bool.and_true, 
      Bool.and_false, ↓xBin_add', ↓xBin_sub', ↓xBin_mul', ↓xBin_quo', ↓xBin_rem', wrap_in, ↓xIf_f, ↓xIf_tt, ↓xEx0, ↓xEx1, ↓xEx2, ↓xEx3, ↓xBin_eqs, ↓xBin_nes, ↓xUn_not, ↓xu8_com, ↓xu8_eql, ↓xu8_lss, ↓xu8_gtr, ↓xu16_com, ↓xu16_eql, 
      ↓xu16_lss, ↓xu16_gtr, ↓xu32_com, ↓xu32_eql, ↓xu32_lss, ↓xu32_gtr, ↓xu64_com, ↓xu64_eql, ↓xu64_lss, ↓xu64_gtr, ↓xi64_lss, ↓xi64_gtr, ↓xi64_eql, Int.toNat_natCast, Int.reduceToNat, Nat.reduceMul, Nat.reduceAdd, Nat.reduceSub, 
      Nat.mul_one, List.nil_append, List.cons_append, List.getElem?_toArray, List.getElem?_cons_zero, List.getElem?_cons_succ, cells_int, cells_bool, cells_string, cells_slice, cells_pointer, cells_agg, one_int, one_bool, 
      one_string, one_slice, one_pointer, List.setIfInBounds_toArray, List.set_cons_zero, List.set_cons_succ, ↓xDet_s, ↓xDet_ld, ↓xDet_ld2, ↓xDet_ld3, ↓xDet_ld4, World.size_drew, Nat.zero_add, Nat.add_zero, cell_drew, frozen_drew, 
      cell_set_eq, cell_set_o, cell_set_b, Option.map_some, World.frozen?_setCell, decide_true, decide_false, List.not_mem_nil, not_false_eq_true, ↓xGuard_tt, Bool.not_true, Bool.not_false, ←decide_not, eq_self, g1, g2, g3, g4]
    exact ⟨by trivial, by (repeat (first | with_reducible exact Ext.refl _ _ | with_reducible assumption | with_reducible refine Ext.alloc' ?_ _ | with_reducible refine Ext.drew' ?_ | with_reducible refine Ext.set' ?_ ?_ | exact .inr (by first | omega | (simp only [World.size_alloc, World.size_drew, World.size_setCell] <;> omega)) | refine Ext.trans ?_ (by with_reducible assumption)))⟩
  simp (disch := (first | omega | decide | (simp only [World.size_alloc, World.size_setCell, World.size_drew, List.mem_cons, List.not_mem_nil, or_false, not_false_eq_true] <;> omega) | fail)) only [↓xBox_r, ↓loadK_some, ↓loadsK_s, ↓loadsK_n, ↓loadsR_s, ↓loadsR_n, ↓storesK_s, ↓storesK_n, setCells_c, setCells_n, World.setCell_alloc_at, World.setCell_alloc_past, World.cell?_alloc_at, World.cell?_alloc_past, 
      World.frozen?_alloc_at, World.frozen?_alloc_past, World.size_alloc, ↓xPick_t, ↓xPick_f, ↓xGuard_tt, ↓xGuard_ff, ↓xGuard_tf, ↓xGuard_ft, ↓xGuard_u, ↓xNil_r, Option.isNone_some, Option.isNone_none, ↓xIf_t, tick_eq, tickV_eq, ne_eq, 
      dlt_t, dlt_f, dle_t, dle_f, deq_t, deq_f, dne_t, dne_f, not_true_eq_false, Int.reduceAdd, Int.reduceSub, Int.reduceMul, Int.reduceEq, Int.reduceLT, Int.reduceLE, Bool.false_and, Bool.true_and, Bool.and_true, 
      Bool.and_false, ↓xBin_add', ↓xBin_sub', ↓xBin_mul', ↓xBin_quo', ↓xBin_rem', wrap_in, ↓xIf_f, ↓xIf_tt, ↓xEx0, ↓xEx1, ↓xEx2, ↓xEx3, ↓xBin_eqs, ↓xBin_nes, ↓xUn_not, ↓xu8_com, ↓xu8_eql, ↓xu8_lss, ↓xu8_gtr, ↓xu16_com, ↓xu16_eql, 
      ↓xu16_lss, ↓xu16_gtr, ↓xu32_com, ↓xu32_eql, ↓xu32_lss, ↓xu32_gtr, ↓xu64_com, ↓xu64_eql, ↓xu64_lss, ↓xu64_gtr, ↓xi64_lss, ↓xi64_gtr, ↓xi64_eql, Int.toNat_natCast, Int.reduceToNat, Nat.reduceMul, Nat.reduceAdd, Nat.reduceSub, 
      Nat.mul_one, List.nil_append, List.cons_append, List.getElem?_toArray, List.getElem?_cons_zero, List.getElem?_cons_succ, cells_int, cells_bool, cells_string, cells_slice, cells_pointer, cells_agg, one_int, one_bool, 
      one_string, one_slice, one_pointer, List.setIfInBounds_toArray, List.set_cons_zero, List.set_cons_succ, ↓xDet_s, ↓xDet_ld, ↓xDet_ld2, ↓xDet_ld3, ↓xDet_ld4, World.size_drew, Nat.zero_add, Nat.add_zero, cell_drew, frozen_drew, 
      cell_set_eq, cell_set_o, cell_set_b, Option.map_some, World.frozen?_setCell, decide_true, decide_false, List.not_mem_nil, not_false_eq_true, ↓xGuard_tt, Bool.not_true, Bool.not_false, ←decide_not, eq_self, g1, g2, g3, g4]
  refine bits_Narrow_call (Gives.to (Narrow_spec _ _ _) fun w2 E2 => ?_)
  have z2 := E2.size
  try simp only [World.size_alloc, World.size_setCell, World.size_drew] at z2
  simp (disch := (first | omega | decide | (simp only [World.size_alloc, World.size_setCell, World.size_drew, List.mem_cons, List.not_mem_nil, or_false, not_false_eq_true] <;> omega) | fail)) only [↓xBox_r, ↓loadK_some, ↓loadsK_s, ↓loadsK_n, ↓loadsR_s, ↓loadsR_n, ↓storesK_s, ↓storesK_n, setCells_c, setCells_n, World.setCell_alloc_at, World.setCell_alloc_past, World.cell?_alloc_at, World.cell?_alloc_past, 
      World.frozen?_alloc_at, World.frozen?_alloc_past, World.size_alloc, ↓xPick_t, ↓xPick_f, ↓xGuard_tt, ↓xGuard_ff, ↓xGuard_tf, ↓xGuard_ft, ↓xGuard_u, ↓xNil_r, Option.isNone_some, Option.isNone_none, ↓xIf_t, tick_eq, tickV_eq, ne_eq, 
      dlt_t, dlt_f, dle_t, dle_f, deq_t, deq_f, dne_t, dne_f, not_true_eq_false, Int.reduceAdd, Int.reduceSub, Int.reduceMul, Int.reduceEq, Int.reduceLT, Int.reduceLE, Bool.false_and, Bool.true_and, Bool.and_true, 
      Bool.and_false, ↓xBin_add', ↓xBin_sub', ↓xBin_mul', ↓xBin_quo', ↓xBin_rem', wrap_in, ↓xIf_f, ↓xIf_tt, ↓xEx0, ↓xEx1, ↓xEx2, ↓xEx3, ↓xBin_eqs, ↓xBin_nes, ↓xUn_not, ↓xu8_com, ↓xu8_eql, ↓xu8_lss, ↓xu8_gtr, ↓xu16_com, ↓xu16_eql, 
      ↓xu16_lss, ↓xu16_gtr, ↓xu32_com, ↓xu32_eql, ↓xu32_lss, ↓xu32_gtr, ↓xu64_com, ↓xu64_eql, ↓xu64_lss, ↓xu64_gtr, ↓xi64_lss, ↓xi64_gtr, ↓xi64_eql, Int.toNat_natCast, Int.reduceToNat, Nat.reduceMul, Nat.reduceAdd, Nat.reduceSub, 
      Nat.mul_one, List.nil_append, List.cons_append, List.getElem?_toArray, List.getElem?_cons_zero, List.getElem?_cons_succ, cells_int, cells_bool, cells_string, cells_slice, cells_pointer, cells_agg, one_int, one_bool, 
      one_string, one_slice, one_pointer, List.setIfInBounds_toArray, List.set_cons_zero, List.set_cons_succ, ↓xDet_s, ↓xDet_ld, ↓xDet_ld2, ↓xDet_ld3, ↓xDet_ld4, World.size_drew, Nat.zero_add, Nat.add_zero, cell_drew, frozen_drew, 
      cell_set_eq, cell_set_o, cell_set_b, Option.map_some, World.frozen?_setCell, decide_true, decide_false, List.not_mem_nil, not_false_eq_true, ↓xGuard_tt, Bool.not_true, Bool.not_false, ←decide_not, eq_self, g1, g2, g3, g4]
  refine bits_Narrow_call (Gives.to (Narrow_spec _ _ _) fun w3 E3 => ?_)
  have z3 := E3.size
  try simp only [World.size_alloc, World.size_setCell, World.size_drew] at z3
  simp (disch := (first | omega | decide | (simp only [World.size_alloc, World.size_setCell, World.size_drew, List.mem_cons, List.not_mem_nil, or_false, not_false_eq_true] <;> omega) | fail)) only [↓xBox_r, ↓loadK_some, ↓loadsK_s, ↓loadsK_n, ↓loadsR_s, ↓loadsR_n, ↓storesK_s, ↓storesK_n, setCells_c, setCells_n, World.setCell_alloc_at, World.setCell_alloc_past, World.cell?_alloc_at, World.cell?_alloc_past, 
      World.frozen?_alloc_at, World.frozen?_alloc_past, World.size_alloc, ↓xPick_t, ↓xPick_f, ↓xGuard_tt, ↓xGuard_ff, ↓xGuard_tf, ↓xGuard_ft, ↓xGuard_u, ↓xNil_r, Option.isNone_some, Option.isNone_none, ↓xIf_t, tick_eq, tickV_eq, ne_eq, 
      dlt_t, dlt_f, dle_t, dle_f, deq_t, deq_f, dne_t, dne_f, not_true_eq_false, Int.reduceAdd, Int.reduceSub, Int.reduceMul, Int.reduceEq, Int.reduceLT, Int.reduceLE, Bool.false_and, Bool.true_and, Bool.and_true, 
      Bool.and_false, ↓xBin_add', ↓xBin_sub', ↓xBin_mul', ↓xBin_quo', ↓xBin_rem', wrap_in, ↓xIf_f, ↓xIf_tt, ↓xEx0, ↓xEx1, ↓xEx2, ↓xEx3, ↓xBin_eqs, ↓xBin_nes, ↓xUn_not, ↓xu8_com, ↓xu8_eql, ↓xu8_lss, ↓xu8_gtr, ↓xu16_com, ↓xu16_eql, 
      ↓xu16_lss, ↓xu16_gtr, ↓xu32_com, ↓xu32_eql, ↓xu32_lss, ↓xu32_gtr, ↓xu64_com, ↓xu64_eql, ↓xu64_lss, ↓xu64_gtr, ↓xi64_lss, ↓xi64_gtr, ↓xi64_eql, Int.toNat_natCast, Int.reduceToNat, Nat.reduceMul, Nat.reduceAdd, Nat.reduceSub, 
      Nat.mul_one, List.nil_append, List.cons_append, List.getElem?_toArray, List.getElem?_cons_zero, List.getElem?_cons_succ, cells_int, cells_bool, cells_string, cells_slice, cells_pointer, cells_agg, one_int, one_bool, 
      one_string, one_slice, one_pointer, List.setIfInBounds_toArray, List.set_cons_zero, List.set_cons_succ, ↓xDet_s, ↓xDet_ld, ↓xDet_ld2, ↓xDet_ld3, ↓xDet_ld4, World.size_drew, Nat.zero_add, Nat.add_zero, cell_drew, frozen_drew, 
      cell_set_eq, cell_set_o, cell_set_b, Option.map_some, World.frozen?_setCell, decide_true, decide_false, List.not_mem_nil, not_false_eq_true, ↓xGuard_tt, Bool.not_true, Bool.not_false, ←decide_not, eq_self, g1, g2, g3, g4]
  refine bits_Narrow_call (Gives.to (Narrow_spec _ _ _) fun w4 E4 => ?_)
  have z4 := E4.size
  try simp only [World.size_alloc, World.size_setCell, World.size_drew] at z4
  have e : signI (signI v a) b = signI v b := by
    unfold signI
    rw [if_pos (by omega), if_pos (by omega), if_pos (by omega), bmod_pow (by omega)]
  rw [e]
  simp (disch := (first | omega | decide | (simp only [World.size_alloc, World.size_setCell, World.size_drew, List.mem_cons, List.not_mem_nil, or_false, not_false_eq_true] <;> omega) | fail)) only [↓xBox_r, ↓loadK_some, ↓loadsK_s, ↓loadsK_n, ↓loadsR_s, ↓loadsR_n, ↓storesK_s, ↓storesK_n, setCells_c, setCells_n, World.setCell_alloc_at, World.setCell_alloc_past, World.cell?_alloc_at, World.cell?_alloc_past, 
      World.frozen?_alloc_at, World.frozen?_alloc_past, World.size_alloc, ↓xPick_t, ↓xPick_f, ↓xGuard_tt, ↓xGuard_ff, ↓xGuard_tf, ↓xGuard_ft, ↓xGuard_u, ↓xNil_r, Option.isNone_some, Option.isNone_none, ↓xIf_t, tick_eq, tickV_eq, ne_eq, 
      dlt_t, dlt_f, dle_t, dle_f, deq_t, deq_f, dne_t, dne_f, not_true_eq_false, Int.reduceAdd, Int.reduceSub, Int.reduceMul, Int.reduceEq, Int.reduceLT, Int.reduceLE, Bool.false_and, Bool.true_and, Bool.and_true, 
      Bool.and_false, ↓xBin_add', ↓xBin_sub', ↓xBin_mul', ↓xBin_quo', ↓xBin_rem', wrap_in, ↓xIf_f, ↓xIf_tt, ↓xEx0, ↓xEx1, ↓xEx2, ↓xEx3, ↓xBin_eqs, ↓xBin_nes, ↓xUn_not, ↓xu8_com, ↓xu8_eql, ↓xu8_lss, ↓xu8_gtr, ↓xu16_com, ↓xu16_eql, 
      ↓xu16_lss, ↓xu16_gtr, ↓xu32_com, ↓xu32_eql, ↓xu32_lss, ↓xu32_gtr, ↓xu64_com, ↓xu64_eql, ↓xu64_lss, ↓xu64_gtr, ↓xi64_lss, ↓xi64_gtr, ↓xi64_eql, Int.toNat_natCast, Int.reduceToNat, Nat.reduceMul, Nat.reduceAdd, Nat.reduceSub, 
      Nat.mul_one, List.nil_append, List.cons_append, List.getElem?_toArray, List.getElem?_cons_zero, List.getElem?_cons_succ, cells_int, cells_bool, cells_string, cells_slice, cells_pointer, cells_agg, one_int, one_bool, 
      one_string, one_slice, one_pointer, List.setIfInBounds_toArray, List.set_cons_zero, List.set_cons_succ, ↓xDet_s, ↓xDet_ld, ↓xDet_ld2, ↓xDet_ld3, ↓xDet_ld4, World.size_drew, Nat.zero_add, Nat.add_zero, cell_drew, frozen_drew, 
      cell_set_eq, cell_set_o, cell_set_b, Option.map_some, World.frozen?_setCell, decide_true, decide_false, List.not_mem_nil, not_false_eq_true, ↓xGuard_tt, Bool.not_true, Bool.not_false, ←decide_not, eq_self, g1, g2, g3, g4]
  refine bits_Fits_call (Gives.to (Fits_spec _ _ _) fun w5 E5 => ?_)
  have z5 := E5.size
  try simp only [World.size_alloc, World.size_setCell, World.size_drew] at z5
  by_cases h : signI v b = v
  · simp (disch := (first | omega | decide | (simp only [World.size_alloc, World.size_setCell, World.size_drew, List.mem_cons, List.not_mem_nil, or_false, not_false_eq_true] <;> omega) | fail)) only [↓xBox_r, ↓loadK_some, ↓loadsK_s, ↓loadsK_n, ↓loadsR_s, ↓loadsR_n, ↓storesK_s, ↓storesK_n, setCells_c, setCells_n, World.setCell_alloc_at, World.setCell_alloc_past, World.cell?_alloc_at, World.cell?_alloc_past, 
      World.frozen?_alloc_at, World.frozen?_alloc_past, World.size_alloc, ↓xPick_t, ↓xPick_f, ↓xGuard_tt, ↓xGuard_ff, ↓xGuard_tf, ↓xGuard_ft, ↓xGuard_u, ↓xNil_r, Option.isNone_some, Option.isNone_none, ↓xIf_t, tick_eq, tickV_eq, ne_eq, 
      dlt_t, dlt_f, dle_t, dle_f, deq_t, deq_f, dne_t, dne_f, not_true_eq_false, Int.reduceAdd, Int.reduceSub, Int.reduceMul, Int.reduceEq, Int.reduceLT, Int.reduceLE, Bool.false_and, Bool.true_and, Bool.and_true, 
      Bool.and_false, ↓xBin_add', ↓xBin_sub', ↓xBin_mul', ↓xBin_quo', ↓xBin_rem', wrap_in, ↓xIf_f, ↓xIf_tt, ↓xEx0, ↓xEx1, ↓xEx2, ↓xEx3, ↓xBin_eqs, ↓xBin_nes, ↓xUn_not, ↓xu8_com, ↓xu8_eql, ↓xu8_lss, ↓xu8_gtr, ↓xu16_com, ↓xu16_eql, 
      ↓xu16_lss, ↓xu16_gtr, ↓xu32_com, ↓xu32_eql, ↓xu32_lss, ↓xu32_gtr, ↓xu64_com, ↓xu64_eql, ↓xu64_lss, ↓xu64_gtr, ↓xi64_lss, ↓xi64_gtr, ↓xi64_eql, Int.toNat_natCast, Int.reduceToNat, Nat.reduceMul, Nat.reduceAdd, Nat.reduceSub, 
      Nat.mul_one, List.nil_append, List.cons_append, List.getElem?_toArray, List.getElem?_cons_zero, List.getElem?_cons_succ, cells_int, cells_bool, cells_string, cells_slice, cells_pointer, cells_agg, one_int, one_bool, 
      one_string, one_slice, one_pointer, List.setIfInBounds_toArray, List.set_cons_zero, List.set_cons_succ, ↓xDet_s, ↓xDet_ld, ↓xDet_ld2, ↓xDet_ld3, ↓xDet_ld4, World.size_drew, Nat.zero_add, Nat.add_zero, cell_drew, frozen_drew, 
      cell_set_eq, cell_set_o, cell_set_b, Option.map_some, World.frozen?_setCell, decide_true, decide_false, List.not_mem_nil, not_false_eq_true, ↓xGuard_tt, Bool.not_true, Bool.not_false, ←decide_not, eq_self, g1, g2, g3, g4, decide_eq_true h]
    refine bits_Fits_call (Gives.to (Fits_spec _ _ _) fun w6 E6 => ?_)
    have z6 := E6.size
    try simp only [World.size_alloc, World.size_setCell, World.size_drew] at z6
    have h2 : signI v a = v := by
      unfold signI at h ⊢
      rw [if_pos (by omega)] at h ⊢
      obtain ⟨r1, r2⟩ := bmod_range (v := v) (n := b.toNat) (by omega)
      rw [h] at r1 r2
      have hp : 2 ^ (b.toNat - 1) ≤ 2 ^ (a.toNat - 1) := Nat.pow_le_pow_right (by decide) (by omega)
      exact bmod_self (by omega) (by omega) (by omega)
    simp (disch := (first | omega | decide | (simp only [World.size_alloc, World.size_setCell, World.size_drew, List.mem_cons, List.not_mem_nil, or_false, not_false_eq_true] <;> omega) | fail)) only [↓xBox_r, ↓loadK_some, ↓loadsK_s, ↓loadsK_n, ↓loadsR_s, ↓loadsR_n, ↓storesK_s, ↓storesK_n, setCells_c, setCells_n, World.setCell_alloc_at, World.setCell_alloc_past, World.cell?_alloc_at, World.cell?_alloc_past, 
      World.frozen?_alloc_at, World.frozen?_alloc_past, World.size_alloc, ↓xPick_t, ↓xPick_f, ↓xGuard_tt, ↓xGuard_ff, ↓xGuard_tf, ↓xGuard_ft, ↓xGuard_u, ↓xNil_r, Option.isNone_some, Option.isNone_none, ↓xIf_t, tick_eq, tickV_eq, ne_eq, 
      dlt_t, dlt_f, dle_t, dle_f, deq_t, deq_f, dne_t, dne_f, not_true_eq_false, Int.reduceAdd, Int.reduceSub, Int.reduceMul, Int.reduceEq, Int.reduceLT, Int.reduceLE, Bool.false_and, Bool.true_and, Bool.and_true, 
      Bool.and_false, ↓xBin_add', ↓xBin_sub', ↓xBin_mul', ↓xBin_quo', ↓xBin_rem', wrap_in, ↓xIf_f, ↓xIf_tt, ↓xEx0, ↓xEx1, ↓xEx2, ↓xEx3, ↓xBin_eqs, ↓xBin_nes, ↓xUn_not, ↓xu8_com, ↓xu8_eql, ↓xu8_lss, ↓xu8_gtr, ↓xu16_com, ↓xu16_eql, 
      ↓xu16_lss, ↓xu16_gtr, ↓xu32_com, ↓xu32_eql, ↓xu32_lss, ↓xu32_gtr, ↓xu64_com, ↓xu64_eql, ↓xu64_lss, ↓xu64_gtr, ↓xi64_lss, ↓xi64_gtr, ↓xi64_eql, Int.toNat_natCast, Int.reduceToNat, Nat.reduceMul, Nat.reduceAdd, Nat.reduceSub, 
      Nat.mul_one, List.nil_append, List.cons_append, List.getElem?_toArray, List.getElem?_cons_zero, List.getElem?_cons_succ, cells_int, cells_bool, cells_string, cells_slice, cells_pointer, cells_agg, one_int, one_bool, 
      one_string, one_slice, one_pointer, List.setIfInBounds_toArray, List.set_cons_zero, List.set_cons_succ, ↓xDet_s, ↓xDet_ld, ↓xDet_ld2, ↓xDet_ld3, ↓xDet_ld4, World.size_drew, Nat.zero_add, Nat.add_zero, cell_drew, frozen_drew, 
      cell_set_eq, cell_set_o, cell_set_b, Option.map_some, World.frozen?_setCell, decide_true, decide_false, List.not_mem_nil, not_false_eq_true, ↓xGuard_tt, Bool.not_true, Bool.not_false, ←decide_not, eq_self, g1, g2, g3, g4, decide_eq_true h, decide_eq_true h2]
    exact ⟨by trivial, by (repeat (first | with_reducible exact Ext.refl _ _ | with_reducible assumption | with_reducible refine Ext.alloc' ?_ _ | with_reducible refine Ext.drew' ?_ | with_reducible refine Ext.set' ?_ ?_ | exact .inr (by first | omega | (simp only [World.size_alloc, World.size_drew, World.size_setCell] <;> omega)) | refine Ext.trans ?_ (by with_reducible assumption)))⟩
  · simp (disch := (first | omega | decide | (simp only [World.size_alloc, World.size_setCell, World.size_drew, List.mem_cons, List.not_mem_nil, or_false, not_false_eq_true] <;> omega) | fail)) only [↓xBox_r, ↓loadK_some, ↓loadsK_s, ↓loadsK_n, ↓loadsR_s, ↓loadsR_n, ↓storesK_s, ↓storesK_n, setCells_c, setCells_n, World.setCell_alloc_at, World.setCell_alloc_past, World.cell?_alloc_at, World.cell?_alloc_past, 
      World.frozen?_alloc_at, World.frozen?_alloc_past, World.size_alloc, ↓xPick_t, ↓xPick_f, ↓xGuard_tt, ↓xGuard_ff, ↓xGuard_tf, ↓xGuard_ft, ↓xGuard_u, ↓xNil_r, Option.isNone_some, Option.isNone_none, ↓xIf_t, tick_eq, tickV_eq, ne_eq, 
      dlt_t, dlt_f, dle_t, dle_f, deq_t, deq_f, dne_t, dne_f, not_true_eq_false, Int.reduceAdd, Int.reduceSub, Int.reduceMul, Int.reduceEq, Int.reduceLT, Int.reduceLE, Bool.false_and, Bool.true_and, Bool.and_true, 
      Bool.and_false, ↓xBin_add', ↓xBin_sub', ↓xBin_mul', ↓xBin_quo', ↓xBin_rem', wrap_in, ↓xIf_f, ↓xIf_tt, ↓xEx0, ↓xEx1, ↓xEx2, ↓xEx3, ↓xBin_eqs, ↓xBin_nes, ↓xUn_not, ↓xu8_com, ↓xu8_eql, ↓xu8_lss, ↓xu8_gtr, ↓xu16_com, ↓xu16_eql, 
      ↓xu16_lss, ↓xu16_gtr, ↓xu32_com, ↓xu32_eql, ↓xu32_lss, ↓xu32_gtr, ↓xu64_com, ↓xu64_eql, ↓xu64_lss, ↓xu64_gtr, ↓xi64_lss, ↓xi64_gtr, ↓xi64_eql, Int.toNat_natCast, Int.reduceToNat, Nat.reduceMul, Nat.reduceAdd, Nat.reduceSub, 
      Nat.mul_one, List.nil_append, List.cons_append, List.getElem?_toArray, List.getElem?_cons_zero, List.getElem?_cons_succ, cells_int, cells_bool, cells_string, cells_slice, cells_pointer, cells_agg, one_int, one_bool, 
      one_string, one_slice, one_pointer, List.setIfInBounds_toArray, List.set_cons_zero, List.set_cons_succ, ↓xDet_s, ↓xDet_ld, ↓xDet_ld2, ↓xDet_ld3, ↓xDet_ld4, World.size_drew, Nat.zero_add, Nat.add_zero, cell_drew, frozen_drew, 
      cell_set_eq, cell_set_o, cell_set_b, Option.map_some, World.frozen?_setCell, decide_true, decide_false, List.not_mem_nil, not_false_eq_true, ↓xGuard_tt, Bool.not_true, Bool.not_false, ←decide_not, eq_self, g1, g2, g3, g4, decide_eq_false h]
    exact ⟨by trivial, by (repeat (first | with_reducible exact Ext.refl _ _ | with_reducible assumption | with_reducible refine Ext.alloc' ?_ _ | with_reducible refine Ext.drew' ?_ | with_reducible refine Ext.set' ?_ ?_ | exact .inr (by first | omega | (simp only [World.size_alloc, World.size_drew, World.size_setCell] <;> omega)) | refine Ext.trans ?_ (by with_reducible assumption)))⟩
end Go.Proofs.Ytlijgnekpggejaa
