/- The small example of the statements on sums; and the statement on seals, walked. -/
import Derived.Test.YtohonkbneimkoaaSum
import Derived.Test.YtohonkbneimkoaaEng11
set_option linter.unusedVariables false
set_option linter.unusedSimpArgs false
set_option maxHeartbeats 4000000
namespace Go.Proofs.Ytohonkbneimkoaa
open Go.Sh Go.RowKit

abbrev b8 (n : Nat) : BitVec 8 := BitVec.ofNat 8 n
theorem two_parts {w : World} {l1 l2 : List (BitVec 8)} {a1 a2 : Option Addr} {c1 c2 : Nat} (h1 : RowAt w a1 (bys l1)) (h2 : RowAt w a2 (bys l2)) (k1 : l1.length ≤ 4294967296) (k2 : l2.length ≤ 4294967296) :
    partsAt (w.alloc (.cells [Value.slice a1 l1.length c1, Value.slice a2 l2.length c2].toArray 51)) (some ⟨w.heap.size, 0, none⟩) [(a1, c1, l1), (a2, c2, l2)] := by
  refine ⟨(Blk.new (e := 51) w [Value.slice a1 l1.length c1, Value.slice a2 l2.length c2]).row, fun p hp => ?_⟩
  simp at hp
  rcases hp with rfl | rfl
  · exact ⟨h1.ext0 (Ext.alloc _ _ _), k1⟩
  · exact ⟨h2.ext0 (Ext.alloc _ _ _), k2⟩
theorem one_part {w : World} {l1 : List (BitVec 8)} {a1 : Option Addr} {c1 : Nat} (h1 : RowAt w a1 (bys l1)) (k1 : l1.length ≤ 4294967296) :
    partsAt (w.alloc (.cells [Value.slice a1 l1.length c1].toArray 51)) (some ⟨w.heap.size, 0, none⟩) [(a1, c1, l1)] := by
  refine ⟨(Blk.new (e := 51) w [Value.slice a1 l1.length c1]).row, fun p hp => ?_⟩
  simp at hp
  subst hp
  exact ⟨h1.ext0 (Ext.alloc _ _ _), k1⟩
theorem known2_spec (w : World) : Gives Try.prog n_loamlaw2_known #[] w (.bool true) := by
  refine loamlaw2_known_of ?_
  unfold loamlaw2_known
  simp (disch := (first | omega | decide | (simp only [World.size_alloc, World.size_setCell, World.size_drew, List.mem_cons, List.not_mem_nil, or_false, not_false_eq_true] <;> omega) | fail)) only [↓xBox_r, ↓loadK_some, ↓loadsK_s, ↓loadsK_n, ↓loadsR_s, ↓loadsR_n, ↓storesK_s, ↓storesK_n, setCells_c, setCells_n, World.setCell_alloc_at, World.setCell_alloc_past, World.cell?_alloc_at, World.cell?_alloc_past, 
      World.frozen?_alloc_at, World.frozen?_alloc_past, World.size_alloc, ↓xPick_t, ↓xPick_f, ↓xGuard_tt, ↓xGuard_ff, ↓xGuard_tf, ↓xGuard_ft, ↓xGuard_u, ↓xNil_r, Option.isNone_some, Option.isNone_none, ↓xIf_t, tick_eq, tickV_eq, ne_eq, 
      dlt_t, dlt_f, dle_t, dle_f, deq_t, deq_f, dne_t, dne_f, not_true_eq_false, Int.reduceAdd, Int.reduceSub, Int.reduceMul, Int.reduceEq, Int.reduceLT, Int.reduceLE, Bool.false_and, Bool.true_and, Bool.and_true, 
      Bool.and_false, ↓xBin_add', ↓xBin_sub', ↓xBin_mul', ↓xBin_quo', ↓xBin_rem', wrap_in, ↓xIf_f, ↓xIf_tt, ↓xEx0, ↓xEx1, ↓xEx2, ↓xEx3, ↓xBin_eqs, ↓xBin_nes, ↓xUn_not, ↓xu8_com, ↓xu8_eql, ↓xu16_com, ↓xu16_eql, ↓xu32_com, ↓xu32_eql, 
      ↓xu64_com, ↓xu64_eql, ↓xi64_eql, Int.toNat_natCast, Int.reduceToNat, Nat.reduceMul, Nat.reduceAdd, Nat.reduceSub, Nat.mul_one, List.nil_append, List.cons_append, List.getElem?_toArray, List.getElem?_cons_zero, List.getElem?_cons_succ, 
      cells_int, cells_bool, cells_string, cells_slice, cells_pointer, cells_agg, one_int, one_bool, one_string, one_slice, one_pointer, List.setIfInBounds_toArray, List.set_cons_zero, List.set_cons_succ, ↓xDet_s, ↓xDet_ld, 
      ↓xDet_ld2, ↓xDet_ld3, ↓xDet_ld4, World.size_drew, Nat.zero_add, Nat.add_zero, cell_drew, frozen_drew, cell_set_eq, cell_set_o, cell_set_b, Option.map_some, World.frozen?_setCell, decide_true, decide_false, List.not_mem_nil, 
      not_false_eq_true, ↓xGuard_tt, Bool.not_true, Bool.not_false, ←decide_not, ↓ln_51, ↓bs_50_1, ↓bs_50_2, ↓bs_51_0, ↓bs_51_1, ↓bs_51_3, ↓bs_51_4, ↓bs_51_5, eq_self]
  refine xConv_bytes (by kernel_rfl) (by kernel_rfl) fun v1 F1 R1 z1 => ?_
  simp (disch := (first | omega | decide | (simp only [World.size_alloc, World.size_setCell, World.size_drew, List.mem_cons, List.not_mem_nil, or_false, not_false_eq_true] <;> omega) | fail)) only [↓xBox_r, ↓loadK_some, ↓loadsK_s, ↓loadsK_n, ↓loadsR_s, ↓loadsR_n, ↓storesK_s, ↓storesK_n, setCells_c, setCells_n, World.setCell_alloc_at, World.setCell_alloc_past, World.cell?_alloc_at, World.cell?_alloc_past, 
      World.frozen?_alloc_at, World.frozen?_alloc_past, World.size_alloc, ↓xPick_t, ↓xPick_f, ↓xGuard_tt, ↓xGuard_ff, ↓xGuard_tf, ↓xGuard_ft, ↓xGuard_u, ↓xNil_r, Option.isNone_some, Option.isNone_none, ↓xIf_t, tick_eq, tickV_eq, ne_eq, 
      dlt_t, dlt_f, dle_t, dle_f, deq_t, deq_f, dne_t, dne_f, not_true_eq_false, Int.reduceAdd, Int.reduceSub, Int.reduceMul, Int.reduceEq, Int.reduceLT, Int.reduceLE, Bool.false_and, Bool.true_and, Bool.and_true, 
      Bool.and_false, ↓xBin_add', ↓xBin_sub', ↓xBin_mul', ↓xBin_quo', ↓xBin_rem', wrap_in, ↓xIf_f, ↓xIf_tt, ↓xEx0, ↓xEx1, ↓xEx2, ↓xEx3, ↓xBin_eqs, ↓xBin_nes, ↓xUn_not, ↓xu8_com, ↓xu8_eql, ↓xu16_com, ↓xu16_eql, ↓xu32_com, ↓xu32_eql, 
      ↓xu64_com, ↓xu64_eql, ↓xi64_eql, Int.toNat_natCast, Int.reduceToNat, Nat.reduceMul, Nat.reduceAdd, Nat.reduceSub, Nat.mul_one, List.nil_append, List.cons_append, List.getElem?_toArray, List.getElem?_cons_zero, List.getElem?_cons_succ, 
      cells_int, cells_bool, cells_string, cells_slice, cells_pointer, cells_agg, one_int, one_bool, one_string, one_slice, one_pointer, List.setIfInBounds_toArray, List.set_cons_zero, List.set_cons_succ, ↓xDet_s, ↓xDet_ld, 
      ↓xDet_ld2, ↓xDet_ld3, ↓xDet_ld4, World.size_drew, Nat.zero_add, Nat.add_zero, cell_drew, frozen_drew, cell_set_eq, cell_set_o, cell_set_b, Option.map_some, World.frozen?_setCell, decide_true, decide_false, List.not_mem_nil, 
      not_false_eq_true, ↓xGuard_tt, Bool.not_true, Bool.not_false, ←decide_not, ↓ln_51, ↓bs_50_1, ↓bs_50_2, ↓bs_51_0, ↓bs_51_1, ↓bs_51_3, ↓bs_51_4, ↓bs_51_5, eq_self]
  refine xConv_bytes (by kernel_rfl) (by kernel_rfl) fun v2 F2 R2 z2 => ?_
  simp (disch := (first | omega | decide | (simp only [World.size_alloc, World.size_setCell, World.size_drew, List.mem_cons, List.not_mem_nil, or_false, not_false_eq_true] <;> omega) | fail)) only [↓xBox_r, ↓loadK_some, ↓loadsK_s, ↓loadsK_n, ↓loadsR_s, ↓loadsR_n, ↓storesK_s, ↓storesK_n, setCells_c, setCells_n, World.setCell_alloc_at, World.setCell_alloc_past, World.cell?_alloc_at, World.cell?_alloc_past, 
      World.frozen?_alloc_at, World.frozen?_alloc_past, World.size_alloc, ↓xPick_t, ↓xPick_f, ↓xGuard_tt, ↓xGuard_ff, ↓xGuard_tf, ↓xGuard_ft, ↓xGuard_u, ↓xNil_r, Option.isNone_some, Option.isNone_none, ↓xIf_t, tick_eq, tickV_eq, ne_eq, 
      dlt_t, dlt_f, dle_t, dle_f, deq_t, deq_f, dne_t, dne_f, not_true_eq_false, Int.reduceAdd, Int.reduceSub, Int.reduceMul, Int.reduceEq, Int.reduceLT, Int.reduceLE, Bool.false_and, Bool.true_and, Bool.and_true, 
      Bool.and_false, ↓xBin_add', ↓xBin_sub', ↓xBin_mul', ↓xBin_quo', ↓xBin_rem', wrap_in, ↓xIf_f, ↓xIf_tt, ↓xEx0, ↓xEx1, ↓xEx2, ↓xEx3, ↓xBin_eqs, ↓xBin_nes, ↓xUn_not, ↓xu8_com, ↓xu8_eql, ↓xu16_com, ↓xu16_eql, ↓xu32_com, ↓xu32_eql, 
      ↓xu64_com, ↓xu64_eql, ↓xi64_eql, Int.toNat_natCast, Int.reduceToNat, Nat.reduceMul, Nat.reduceAdd, Nat.reduceSub, Nat.mul_one, List.nil_append, List.cons_append, List.getElem?_toArray, List.getElem?_cons_zero, List.getElem?_cons_succ, 
      cells_int, cells_bool, cells_string, cells_slice, cells_pointer, cells_agg, one_int, one_bool, one_string, one_slice, one_pointer, List.setIfInBounds_toArray, List.set_cons_zero, List.set_cons_succ, ↓xDet_s, ↓xDet_ld, 
      ↓xDet_ld2, ↓xDet_ld3, ↓xDet_ld4, World.size_drew, Nat.zero_add, Nat.add_zero, cell_drew, frozen_drew, cell_set_eq, cell_set_o, cell_set_b, Option.map_some, World.frozen?_setCell, decide_true, decide_false, List.not_mem_nil, 
      not_false_eq_true, ↓xGuard_tt, Bool.not_true, Bool.not_false, ←decide_not, ↓ln_51, ↓bs_50_1, ↓bs_50_2, ↓bs_51_0, ↓bs_51_1, ↓bs_51_3, ↓bs_51_4, ↓bs_51_5, eq_self]
  have p1 : RowAt v2 _ (bys [b8 49, b8 50, b8 51, b8 52]) := R1.ext0 F2
  have p2 : RowAt v2 _ (bys [b8 53, b8 54, b8 55, b8 56, b8 57]) := R2
  refine crc_Sum_call (Gives.to (Sum_spec _ _ _ _ _ rfl (by decide) (two_parts p1 p2 (by decide) (by decide))) fun v3 F3 => ?_)
  have s1 : sumsV (BitVec.ofNat 32 0) [[b8 49, b8 50, b8 51, b8 52], [b8 53, b8 54, b8 55, b8 56, b8 57]] = BitVec.ofNat 32 3421780262 := by decide +kernel
  have s2 : addV (sumsV (BitVec.ofNat 32 0) [[b8 49, b8 50, b8 51, b8 52]]) [b8 53, b8 54, b8 55, b8 56, b8 57] = BitVec.ofNat 32 3421780262 := by decide +kernel
  have s3 : rightB [b8 97, b8 98, b8 99] = false := by decide +kernel
  simp only [List.map_cons, List.map_nil]
  rw [s1]
  have E3 : Ext [] w v3 := ((F1.trans F2).trans (Ext.alloc _ _ _)).trans F3
  simp (disch := (first | omega | decide | (simp only [World.size_alloc, World.size_setCell, World.size_drew, List.mem_cons, List.not_mem_nil, or_false, not_false_eq_true] <;> omega) | fail)) only [↓xBox_r, ↓loadK_some, ↓loadsK_s, ↓loadsK_n, ↓loadsR_s, ↓loadsR_n, ↓storesK_s, ↓storesK_n, setCells_c, setCells_n, World.setCell_alloc_at, World.setCell_alloc_past, World.cell?_alloc_at, World.cell?_alloc_past, 
      World.frozen?_alloc_at, World.frozen?_alloc_past, World.size_alloc, ↓xPick_t, ↓xPick_f, ↓xGuard_tt, ↓xGuard_ff, ↓xGuard_tf, ↓xGuard_ft, ↓xGuard_u, ↓xNil_r, Option.isNone_some, Option.isNone_none, ↓xIf_t, tick_eq, tickV_eq, ne_eq, 
      dlt_t, dlt_f, dle_t, dle_f, deq_t, deq_f, dne_t, dne_f, not_true_eq_false, Int.reduceAdd, Int.reduceSub, Int.reduceMul, Int.reduceEq, Int.reduceLT, Int.reduceLE, Bool.false_and, Bool.true_and, Bool.and_true, 
      Bool.and_false, ↓xBin_add', ↓xBin_sub', ↓xBin_mul', ↓xBin_quo', ↓xBin_rem', wrap_in, ↓xIf_f, ↓xIf_tt, ↓xEx0, ↓xEx1, ↓xEx2, ↓xEx3, ↓xBin_eqs, ↓xBin_nes, ↓xUn_not, ↓xu8_com, ↓xu8_eql, ↓xu16_com, ↓xu16_eql, ↓xu32_com, ↓xu32_eql, 
      ↓xu64_com, ↓xu64_eql, ↓xi64_eql, Int.toNat_natCast, Int.reduceToNat, Nat.reduceMul, Nat.reduceAdd, Nat.reduceSub, Nat.mul_one, List.nil_append, List.cons_append, List.getElem?_toArray, List.getElem?_cons_zero, List.getElem?_cons_succ, 
      cells_int, cells_bool, cells_string, cells_slice, cells_pointer, cells_agg, one_int, one_bool, one_string, one_slice, one_pointer, List.setIfInBounds_toArray, List.set_cons_zero, List.set_cons_succ, ↓xDet_s, ↓xDet_ld, 
      ↓xDet_ld2, ↓xDet_ld3, ↓xDet_ld4, World.size_drew, Nat.zero_add, Nat.add_zero, cell_drew, frozen_drew, cell_set_eq, cell_set_o, cell_set_b, Option.map_some, World.frozen?_setCell, decide_true, decide_false, List.not_mem_nil, 
      not_false_eq_true, ↓xGuard_tt, Bool.not_true, Bool.not_false, ←decide_not, ↓ln_51, ↓bs_50_1, ↓bs_50_2, ↓bs_51_0, ↓bs_51_1, ↓bs_51_3, ↓bs_51_4, ↓bs_51_5, eq_self]
  refine xConv_bytes (by kernel_rfl) (by kernel_rfl) fun v4 F4 R4 z4 => ?_
  simp (disch := (first | omega | decide | (simp only [World.size_alloc, World.size_setCell, World.size_drew, List.mem_cons, List.not_mem_nil, or_false, not_false_eq_true] <;> omega) | fail)) only [↓xBox_r, ↓loadK_some, ↓loadsK_s, ↓loadsK_n, ↓loadsR_s, ↓loadsR_n, ↓storesK_s, ↓storesK_n, setCells_c, setCells_n, World.setCell_alloc_at, World.setCell_alloc_past, World.cell?_alloc_at, World.cell?_alloc_past, 
      World.frozen?_alloc_at, World.frozen?_alloc_past, World.size_alloc, ↓xPick_t, ↓xPick_f, ↓xGuard_tt, ↓xGuard_ff, ↓xGuard_tf, ↓xGuard_ft, ↓xGuard_u, ↓xNil_r, Option.isNone_some, Option.isNone_none, ↓xIf_t, tick_eq, tickV_eq, ne_eq, 
      dlt_t, dlt_f, dle_t, dle_f, deq_t, deq_f, dne_t, dne_f, not_true_eq_false, Int.reduceAdd, Int.reduceSub, Int.reduceMul, Int.reduceEq, Int.reduceLT, Int.reduceLE, Bool.false_and, Bool.true_and, Bool.and_true, 
      Bool.and_false, ↓xBin_add', ↓xBin_sub', ↓xBin_mul', ↓xBin_quo', ↓xBin_rem', wrap_in, ↓xIf_f, ↓xIf_tt, ↓xEx0, ↓xEx1, ↓xEx2, ↓xEx3, ↓xBin_eqs, ↓xBin_nes, ↓xUn_not, ↓xu8_com, ↓xu8_eql, ↓xu16_com, ↓xu16_eql, ↓xu32_com, ↓xu32_eql, 
      ↓xu64_com, ↓xu64_eql, ↓xi64_eql, Int.toNat_natCast, Int.reduceToNat, Nat.reduceMul, Nat.reduceAdd, Nat.reduceSub, Nat.mul_one, List.nil_append, List.cons_append, List.getElem?_toArray, List.getElem?_cons_zero, List.getElem?_cons_succ, 
      cells_int, cells_bool, cells_string, cells_slice, cells_pointer, cells_agg, one_int, one_bool, one_string, one_slice, one_pointer, List.setIfInBounds_toArray, List.set_cons_zero, List.set_cons_succ, ↓xDet_s, ↓xDet_ld, 
      ↓xDet_ld2, ↓xDet_ld3, ↓xDet_ld4, World.size_drew, Nat.zero_add, Nat.add_zero, cell_drew, frozen_drew, cell_set_eq, cell_set_o, cell_set_b, Option.map_some, World.frozen?_setCell, decide_true, decide_false, List.not_mem_nil, 
      not_false_eq_true, ↓xGuard_tt, Bool.not_true, Bool.not_false, ←decide_not, ↓ln_51, ↓bs_50_1, ↓bs_50_2, ↓bs_51_0, ↓bs_51_1, ↓bs_51_3, ↓bs_51_4, ↓bs_51_5, eq_self]
  refine crc_Sum_call (Gives.to (Sum_spec _ _ _ _ _ rfl (by decide) (one_part (l1 := [b8 49, b8 50, b8 51, b8 52]) R4 (by decide))) fun v5 F5 => ?_)
  have E5 : Ext [] w v5 := ((E3.trans F4).trans (Ext.alloc _ _ _)).trans F5
  simp only [List.map_cons, List.map_nil]
  simp (disch := (first | omega | decide | (simp only [World.size_alloc, World.size_setCell, World.size_drew, List.mem_cons, List.not_mem_nil, or_false, not_false_eq_true] <;> omega) | fail)) only [↓xBox_r, ↓loadK_some, ↓loadsK_s, ↓loadsK_n, ↓loadsR_s, ↓loadsR_n, ↓storesK_s, ↓storesK_n, setCells_c, setCells_n, World.setCell_alloc_at, World.setCell_alloc_past, World.cell?_alloc_at, World.cell?_alloc_past, 
      World.frozen?_alloc_at, World.frozen?_alloc_past, World.size_alloc, ↓xPick_t, ↓xPick_f, ↓xGuard_tt, ↓xGuard_ff, ↓xGuard_tf, ↓xGuard_ft, ↓xGuard_u, ↓xNil_r, Option.isNone_some, Option.isNone_none, ↓xIf_t, tick_eq, tickV_eq, ne_eq, 
      dlt_t, dlt_f, dle_t, dle_f, deq_t, deq_f, dne_t, dne_f, not_true_eq_false, Int.reduceAdd, Int.reduceSub, Int.reduceMul, Int.reduceEq, Int.reduceLT, Int.reduceLE, Bool.false_and, Bool.true_and, Bool.and_true, 
      Bool.and_false, ↓xBin_add', ↓xBin_sub', ↓xBin_mul', ↓xBin_quo', ↓xBin_rem', wrap_in, ↓xIf_f, ↓xIf_tt, ↓xEx0, ↓xEx1, ↓xEx2, ↓xEx3, ↓xBin_eqs, ↓xBin_nes, ↓xUn_not, ↓xu8_com, ↓xu8_eql, ↓xu16_com, ↓xu16_eql, ↓xu32_com, ↓xu32_eql, 
      ↓xu64_com, ↓xu64_eql, ↓xi64_eql, Int.toNat_natCast, Int.reduceToNat, Nat.reduceMul, Nat.reduceAdd, Nat.reduceSub, Nat.mul_one, List.nil_append, List.cons_append, List.getElem?_toArray, List.getElem?_cons_zero, List.getElem?_cons_succ, 
      cells_int, cells_bool, cells_string, cells_slice, cells_pointer, cells_agg, one_int, one_bool, one_string, one_slice, one_pointer, List.setIfInBounds_toArray, List.set_cons_zero, List.set_cons_succ, ↓xDet_s, ↓xDet_ld, 
      ↓xDet_ld2, ↓xDet_ld3, ↓xDet_ld4, World.size_drew, Nat.zero_add, Nat.add_zero, cell_drew, frozen_drew, cell_set_eq, cell_set_o, cell_set_b, Option.map_some, World.frozen?_setCell, decide_true, decide_false, List.not_mem_nil, 
      not_false_eq_true, ↓xGuard_tt, Bool.not_true, Bool.not_false, ←decide_not, ↓ln_51, ↓bs_50_1, ↓bs_50_2, ↓bs_51_0, ↓bs_51_1, ↓bs_51_3, ↓bs_51_4, ↓bs_51_5, eq_self]
  refine xConv_bytes (by kernel_rfl) (by kernel_rfl) fun v6 F6 R6 z6 => ?_
  simp (disch := (first | omega | decide | (simp only [World.size_alloc, World.size_setCell, World.size_drew, List.mem_cons, List.not_mem_nil, or_false, not_false_eq_true] <;> omega) | fail)) only [↓xBox_r, ↓loadK_some, ↓loadsK_s, ↓loadsK_n, ↓loadsR_s, ↓loadsR_n, ↓storesK_s, ↓storesK_n, setCells_c, setCells_n, World.setCell_alloc_at, World.setCell_alloc_past, World.cell?_alloc_at, World.cell?_alloc_past, 
      World.frozen?_alloc_at, World.frozen?_alloc_past, World.size_alloc, ↓xPick_t, ↓xPick_f, ↓xGuard_tt, ↓xGuard_ff, ↓xGuard_tf, ↓xGuard_ft, ↓xGuard_u, ↓xNil_r, Option.isNone_some, Option.isNone_none, ↓xIf_t, tick_eq, tickV_eq, ne_eq, 
      dlt_t, dlt_f, dle_t, dle_f, deq_t, deq_f, dne_t, dne_f, not_true_eq_false, Int.reduceAdd, Int.reduceSub, Int.reduceMul, Int.reduceEq, Int.reduceLT, Int.reduceLE, Bool.false_and, Bool.true_and, Bool.and_true, 
      Bool.and_false, ↓xBin_add', ↓xBin_sub', ↓xBin_mul', ↓xBin_quo', ↓xBin_rem', wrap_in, ↓xIf_f, ↓xIf_tt, ↓xEx0, ↓xEx1, ↓xEx2, ↓xEx3, ↓xBin_eqs, ↓xBin_nes, ↓xUn_not, ↓xu8_com, ↓xu8_eql, ↓xu16_com, ↓xu16_eql, ↓xu32_com, ↓xu32_eql, 
      ↓xu64_com, ↓xu64_eql, ↓xi64_eql, Int.toNat_natCast, Int.reduceToNat, Nat.reduceMul, Nat.reduceAdd, Nat.reduceSub, Nat.mul_one, List.nil_append, List.cons_append, List.getElem?_toArray, List.getElem?_cons_zero, List.getElem?_cons_succ, 
      cells_int, cells_bool, cells_string, cells_slice, cells_pointer, cells_agg, one_int, one_bool, one_string, one_slice, one_pointer, List.setIfInBounds_toArray, List.set_cons_zero, List.set_cons_succ, ↓xDet_s, ↓xDet_ld, 
      ↓xDet_ld2, ↓xDet_ld3, ↓xDet_ld4, World.size_drew, Nat.zero_add, Nat.add_zero, cell_drew, frozen_drew, cell_set_eq, cell_set_o, cell_set_b, Option.map_some, World.frozen?_setCell, decide_true, decide_false, List.not_mem_nil, 
      not_false_eq_true, ↓xGuard_tt, Bool.not_true, Bool.not_false, ←decide_not, ↓ln_51, ↓bs_50_1, ↓bs_50_2, ↓bs_51_0, ↓bs_51_1, ↓bs_51_3, ↓bs_51_4, ↓bs_51_5, eq_self]
  refine crc_Add_call (Gives.to (Add_spec _ [b8 53, b8 54, b8 55, b8 56, b8 57] _ _ _ _ rfl (by decide) R6) fun v7 F7 => ?_)
  rw [s2]
  have E7 : Ext [] w v7 := (E5.trans F6).trans F7
  simp (disch := (first | omega | decide | (simp only [World.size_alloc, World.size_setCell, World.size_drew, List.mem_cons, List.not_mem_nil, or_false, not_false_eq_true] <;> omega) | fail)) only [↓xBox_r, ↓loadK_some, ↓loadsK_s, ↓loadsK_n, ↓loadsR_s, ↓loadsR_n, ↓storesK_s, ↓storesK_n, setCells_c, setCells_n, World.setCell_alloc_at, World.setCell_alloc_past, World.cell?_alloc_at, World.cell?_alloc_past, 
      World.frozen?_alloc_at, World.frozen?_alloc_past, World.size_alloc, ↓xPick_t, ↓xPick_f, ↓xGuard_tt, ↓xGuard_ff, ↓xGuard_tf, ↓xGuard_ft, ↓xGuard_u, ↓xNil_r, Option.isNone_some, Option.isNone_none, ↓xIf_t, tick_eq, tickV_eq, ne_eq, 
      dlt_t, dlt_f, dle_t, dle_f, deq_t, deq_f, dne_t, dne_f, not_true_eq_false, Int.reduceAdd, Int.reduceSub, Int.reduceMul, Int.reduceEq, Int.reduceLT, Int.reduceLE, Bool.false_and, Bool.true_and, Bool.and_true, 
      Bool.and_false, ↓xBin_add', ↓xBin_sub', ↓xBin_mul', ↓xBin_quo', ↓xBin_rem', wrap_in, ↓xIf_f, ↓xIf_tt, ↓xEx0, ↓xEx1, ↓xEx2, ↓xEx3, ↓xBin_eqs, ↓xBin_nes, ↓xUn_not, ↓xu8_com, ↓xu8_eql, ↓xu16_com, ↓xu16_eql, ↓xu32_com, ↓xu32_eql, 
      ↓xu64_com, ↓xu64_eql, ↓xi64_eql, Int.toNat_natCast, Int.reduceToNat, Nat.reduceMul, Nat.reduceAdd, Nat.reduceSub, Nat.mul_one, List.nil_append, List.cons_append, List.getElem?_toArray, List.getElem?_cons_zero, List.getElem?_cons_succ, 
      cells_int, cells_bool, cells_string, cells_slice, cells_pointer, cells_agg, one_int, one_bool, one_string, one_slice, one_pointer, List.setIfInBounds_toArray, List.set_cons_zero, List.set_cons_succ, ↓xDet_s, ↓xDet_ld, 
      ↓xDet_ld2, ↓xDet_ld3, ↓xDet_ld4, World.size_drew, Nat.zero_add, Nat.add_zero, cell_drew, frozen_drew, cell_set_eq, cell_set_o, cell_set_b, Option.map_some, World.frozen?_setCell, decide_true, decide_false, List.not_mem_nil, 
      not_false_eq_true, ↓xGuard_tt, Bool.not_true, Bool.not_false, ←decide_not, ↓ln_51, ↓bs_50_1, ↓bs_50_2, ↓bs_51_0, ↓bs_51_1, ↓bs_51_3, ↓bs_51_4, ↓bs_51_5, eq_self]
  refine xConv_bytes (by kernel_rfl) (by kernel_rfl) fun v8 F8 R8 z8 => ?_
  simp (disch := (first | omega | decide | (simp only [World.size_alloc, World.size_setCell, World.size_drew, List.mem_cons, List.not_mem_nil, or_false, not_false_eq_true] <;> omega) | fail)) only [↓xBox_r, ↓loadK_some, ↓loadsK_s, ↓loadsK_n, ↓loadsR_s, ↓loadsR_n, ↓storesK_s, ↓storesK_n, setCells_c, setCells_n, World.setCell_alloc_at, World.setCell_alloc_past, World.cell?_alloc_at, World.cell?_alloc_past, 
      World.frozen?_alloc_at, World.frozen?_alloc_past, World.size_alloc, ↓xPick_t, ↓xPick_f, ↓xGuard_tt, ↓xGuard_ff, ↓xGuard_tf, ↓xGuard_ft, ↓xGuard_u, ↓xNil_r, Option.isNone_some, Option.isNone_none, ↓xIf_t, tick_eq, tickV_eq, ne_eq, 
      dlt_t, dlt_f, dle_t, dle_f, deq_t, deq_f, dne_t, dne_f, not_true_eq_false, Int.reduceAdd, Int.reduceSub, Int.reduceMul, Int.reduceEq, Int.reduceLT, Int.reduceLE, Bool.false_and, Bool.true_and, Bool.and_true, 
      Bool.and_false, ↓xBin_add', ↓xBin_sub', ↓xBin_mul', ↓xBin_quo', ↓xBin_rem', wrap_in, ↓xIf_f, ↓xIf_tt, ↓xEx0, ↓xEx1, ↓xEx2, ↓xEx3, ↓xBin_eqs, ↓xBin_nes, ↓xUn_not, ↓xu8_com, ↓xu8_eql, ↓xu16_com, ↓xu16_eql, ↓xu32_com, ↓xu32_eql, 
      ↓xu64_com, ↓xu64_eql, ↓xi64_eql, Int.toNat_natCast, Int.reduceToNat, Nat.reduceMul, Nat.reduceAdd, Nat.reduceSub, Nat.mul_one, List.nil_append, List.cons_append, List.getElem?_toArray, List.getElem?_cons_zero, List.getElem?_cons_succ, 
      cells_int, cells_bool, cells_string, cells_slice, cells_pointer, cells_agg, one_int, one_bool, one_string, one_slice, one_pointer, List.setIfInBounds_toArray, List.set_cons_zero, List.set_cons_succ, ↓xDet_s, ↓xDet_ld, 
      ↓xDet_ld2, ↓xDet_ld3, ↓xDet_ld4, World.size_drew, Nat.zero_add, Nat.add_zero, cell_drew, frozen_drew, cell_set_eq, cell_set_o, cell_set_b, Option.map_some, World.frozen?_setCell, decide_true, decide_false, List.not_mem_nil, 
      not_false_eq_true, ↓xGuard_tt, Bool.not_true, Bool.not_false, ←decide_not, ↓ln_51, ↓bs_50_1, ↓bs_50_2, ↓bs_51_0, ↓bs_51_1, ↓bs_51_3, ↓bs_51_4, ↓bs_51_5, eq_self]
  refine crc_Seal_call (Yld.mono (Seal_spec [b8 120] _ _ _ _ rfl (by decide) R8) ?_)
  rintro u v9 ⟨F9, b9, c9, rfl, h9, n9, R9⟩
  simp (disch := (first | omega | decide | (simp only [World.size_alloc, World.size_setCell, World.size_drew, List.mem_cons, List.not_mem_nil, or_false, not_false_eq_true] <;> omega) | fail)) only [↓xBox_r, ↓loadK_some, ↓loadsK_s, ↓loadsK_n, ↓loadsR_s, ↓loadsR_n, ↓storesK_s, ↓storesK_n, setCells_c, setCells_n, World.setCell_alloc_at, World.setCell_alloc_past, World.cell?_alloc_at, World.cell?_alloc_past, 
      World.frozen?_alloc_at, World.frozen?_alloc_past, World.size_alloc, ↓xPick_t, ↓xPick_f, ↓xGuard_tt, ↓xGuard_ff, ↓xGuard_tf, ↓xGuard_ft, ↓xGuard_u, ↓xNil_r, Option.isNone_some, Option.isNone_none, ↓xIf_t, tick_eq, tickV_eq, ne_eq, 
      dlt_t, dlt_f, dle_t, dle_f, deq_t, deq_f, dne_t, dne_f, not_true_eq_false, Int.reduceAdd, Int.reduceSub, Int.reduceMul, Int.reduceEq, Int.reduceLT, Int.reduceLE, Bool.false_and, Bool.true_and, Bool.and_true, 
      Bool.and_false, ↓xBin_add', ↓xBin_sub', ↓xBin_mul', ↓xBin_quo', ↓xBin_rem', wrap_in, ↓xIf_f, ↓xIf_tt, ↓xEx0, ↓xEx1, ↓xEx2, ↓xEx3, ↓xBin_eqs, ↓xBin_nes, ↓xUn_not, ↓xu8_com, ↓xu8_eql, ↓xu16_com, ↓xu16_eql, ↓xu32_com, ↓xu32_eql, 
      ↓xu64_com, ↓xu64_eql, ↓xi64_eql, Int.toNat_natCast, Int.reduceToNat, Nat.reduceMul, Nat.reduceAdd, Nat.reduceSub, Nat.mul_one, List.nil_append, List.cons_append, List.getElem?_toArray, List.getElem?_cons_zero, List.getElem?_cons_succ, 
      cells_int, cells_bool, cells_string, cells_slice, cells_pointer, cells_agg, one_int, one_bool, one_string, one_slice, one_pointer, List.setIfInBounds_toArray, List.set_cons_zero, List.set_cons_succ, ↓xDet_s, ↓xDet_ld, 
      ↓xDet_ld2, ↓xDet_ld3, ↓xDet_ld4, World.size_drew, Nat.zero_add, Nat.add_zero, cell_drew, frozen_drew, cell_set_eq, cell_set_o, cell_set_b, Option.map_some, World.frozen?_setCell, decide_true, decide_false, List.not_mem_nil, 
      not_false_eq_true, ↓xGuard_tt, Bool.not_true, Bool.not_false, ←decide_not, ↓ln_51, ↓bs_50_1, ↓bs_50_2, ↓bs_51_0, ↓bs_51_1, ↓bs_51_3, ↓bs_51_4, ↓bs_51_5, eq_self]
  refine crc_Right_call (Gives.to (Right_spec2 (sealV [b8 120]) _ _ _ _ rfl h9 (by decide) R9) fun v10 F10 => ?_)
  rw [right_seal]
  have E10 : Ext [] w v10 := ((E7.trans F8).trans F9).trans F10
  simp (disch := (first | omega | decide | (simp only [World.size_alloc, World.size_setCell, World.size_drew, List.mem_cons, List.not_mem_nil, or_false, not_false_eq_true] <;> omega) | fail)) only [↓xBox_r, ↓loadK_some, ↓loadsK_s, ↓loadsK_n, ↓loadsR_s, ↓loadsR_n, ↓storesK_s, ↓storesK_n, setCells_c, setCells_n, World.setCell_alloc_at, World.setCell_alloc_past, World.cell?_alloc_at, World.cell?_alloc_past, 
      World.frozen?_alloc_at, World.frozen?_alloc_past, World.size_alloc, ↓xPick_t, ↓xPick_f, ↓xGuard_tt, ↓xGuard_ff, ↓xGuard_tf, ↓xGuard_ft, ↓xGuard_u, ↓xNil_r, Option.isNone_some, Option.isNone_none, ↓xIf_t, tick_eq, tickV_eq, ne_eq, 
      dlt_t, dlt_f, dle_t, dle_f, deq_t, deq_f, dne_t, dne_f, not_true_eq_false, Int.reduceAdd, Int.reduceSub, Int.reduceMul, Int.reduceEq, Int.reduceLT, Int.reduceLE, Bool.false_and, Bool.true_and, Bool.and_true, 
      Bool.and_false, ↓xBin_add', ↓xBin_sub', ↓xBin_mul', ↓xBin_quo', ↓xBin_rem', wrap_in, ↓xIf_f, ↓xIf_tt, ↓xEx0, ↓xEx1, ↓xEx2, ↓xEx3, ↓xBin_eqs, ↓xBin_nes, ↓xUn_not, ↓xu8_com, ↓xu8_eql, ↓xu16_com, ↓xu16_eql, ↓xu32_com, ↓xu32_eql, 
      ↓xu64_com, ↓xu64_eql, ↓xi64_eql, Int.toNat_natCast, Int.reduceToNat, Nat.reduceMul, Nat.reduceAdd, Nat.reduceSub, Nat.mul_one, List.nil_append, List.cons_append, List.getElem?_toArray, List.getElem?_cons_zero, List.getElem?_cons_succ, 
      cells_int, cells_bool, cells_string, cells_slice, cells_pointer, cells_agg, one_int, one_bool, one_string, one_slice, one_pointer, List.setIfInBounds_toArray, List.set_cons_zero, List.set_cons_succ, ↓xDet_s, ↓xDet_ld, 
      ↓xDet_ld2, ↓xDet_ld3, ↓xDet_ld4, World.size_drew, Nat.zero_add, Nat.add_zero, cell_drew, frozen_drew, cell_set_eq, cell_set_o, cell_set_b, Option.map_some, World.frozen?_setCell, decide_true, decide_false, List.not_mem_nil, 
      not_false_eq_true, ↓xGuard_tt, Bool.not_true, Bool.not_false, ←decide_not, ↓ln_51, ↓bs_50_1, ↓bs_50_2, ↓bs_51_0, ↓bs_51_1, ↓bs_51_3, ↓bs_51_4, ↓bs_51_5, eq_self]
  refine xConv_bytes (by kernel_rfl) (by kernel_rfl) fun v11 F11 R11 z11 => ?_
  simp (disch := (first | omega | decide | (simp only [World.size_alloc, World.size_setCell, World.size_drew, List.mem_cons, List.not_mem_nil, or_false, not_false_eq_true] <;> omega) | fail)) only [↓xBox_r, ↓loadK_some, ↓loadsK_s, ↓loadsK_n, ↓loadsR_s, ↓loadsR_n, ↓storesK_s, ↓storesK_n, setCells_c, setCells_n, World.setCell_alloc_at, World.setCell_alloc_past, World.cell?_alloc_at, World.cell?_alloc_past, 
      World.frozen?_alloc_at, World.frozen?_alloc_past, World.size_alloc, ↓xPick_t, ↓xPick_f, ↓xGuard_tt, ↓xGuard_ff, ↓xGuard_tf, ↓xGuard_ft, ↓xGuard_u, ↓xNil_r, Option.isNone_some, Option.isNone_none, ↓xIf_t, tick_eq, tickV_eq, ne_eq, 
      dlt_t, dlt_f, dle_t, dle_f, deq_t, deq_f, dne_t, dne_f, not_true_eq_false, Int.reduceAdd, Int.reduceSub, Int.reduceMul, Int.reduceEq, Int.reduceLT, Int.reduceLE, Bool.false_and, Bool.true_and, Bool.and_true, 
      Bool.and_false, ↓xBin_add', ↓xBin_sub', ↓xBin_mul', ↓xBin_quo', ↓xBin_rem', wrap_in, ↓xIf_f, ↓xIf_tt, ↓xEx0, ↓xEx1, ↓xEx2, ↓xEx3, ↓xBin_eqs, ↓xBin_nes, ↓xUn_not, ↓xu8_com, ↓xu8_eql, ↓xu16_com, ↓xu16_eql, ↓xu32_com, ↓xu32_eql, 
      ↓xu64_com, ↓xu64_eql, ↓xi64_eql, Int.toNat_natCast, Int.reduceToNat, Nat.reduceMul, Nat.reduceAdd, Nat.reduceSub, Nat.mul_one, List.nil_append, List.cons_append, List.getElem?_toArray, List.getElem?_cons_zero, List.getElem?_cons_succ, 
      cells_int, cells_bool, cells_string, cells_slice, cells_pointer, cells_agg, one_int, one_bool, one_string, one_slice, one_pointer, List.setIfInBounds_toArray, List.set_cons_zero, List.set_cons_succ, ↓xDet_s, ↓xDet_ld, 
      ↓xDet_ld2, ↓xDet_ld3, ↓xDet_ld4, World.size_drew, Nat.zero_add, Nat.add_zero, cell_drew, frozen_drew, cell_set_eq, cell_set_o, cell_set_b, Option.map_some, World.frozen?_setCell, decide_true, decide_false, List.not_mem_nil, 
      not_false_eq_true, ↓xGuard_tt, Bool.not_true, Bool.not_false, ←decide_not, ↓ln_51, ↓bs_50_1, ↓bs_50_2, ↓bs_51_0, ↓bs_51_1, ↓bs_51_3, ↓bs_51_4, ↓bs_51_5, eq_self]
  refine crc_Right_call (Gives.to (Right_spec2 [b8 97, b8 98, b8 99] _ _ _ _ rfl (by decide) (by decide) R11) fun v12 F12 => ?_)
  rw [s3]
  have E12 : Ext [] w v12 := (E10.trans F11).trans F12
  simp (disch := (first | omega | decide | (simp only [World.size_alloc, World.size_setCell, World.size_drew, List.mem_cons, List.not_mem_nil, or_false, not_false_eq_true] <;> omega) | fail)) only [↓xBox_r, ↓loadK_some, ↓loadsK_s, ↓loadsK_n, ↓loadsR_s, ↓loadsR_n, ↓storesK_s, ↓storesK_n, setCells_c, setCells_n, World.setCell_alloc_at, World.setCell_alloc_past, World.cell?_alloc_at, World.cell?_alloc_past, 
      World.frozen?_alloc_at, World.frozen?_alloc_past, World.size_alloc, ↓xPick_t, ↓xPick_f, ↓xGuard_tt, ↓xGuard_ff, ↓xGuard_tf, ↓xGuard_ft, ↓xGuard_u, ↓xNil_r, Option.isNone_some, Option.isNone_none, ↓xIf_t, tick_eq, tickV_eq, ne_eq, 
      dlt_t, dlt_f, dle_t, dle_f, deq_t, deq_f, dne_t, dne_f, not_true_eq_false, Int.reduceAdd, Int.reduceSub, Int.reduceMul, Int.reduceEq, Int.reduceLT, Int.reduceLE, Bool.false_and, Bool.true_and, Bool.and_true, 
      Bool.and_false, ↓xBin_add', ↓xBin_sub', ↓xBin_mul', ↓xBin_quo', ↓xBin_rem', wrap_in, ↓xIf_f, ↓xIf_tt, ↓xEx0, ↓xEx1, ↓xEx2, ↓xEx3, ↓xBin_eqs, ↓xBin_nes, ↓xUn_not, ↓xu8_com, ↓xu8_eql, ↓xu16_com, ↓xu16_eql, ↓xu32_com, ↓xu32_eql, 
      ↓xu64_com, ↓xu64_eql, ↓xi64_eql, Int.toNat_natCast, Int.reduceToNat, Nat.reduceMul, Nat.reduceAdd, Nat.reduceSub, Nat.mul_one, List.nil_append, List.cons_append, List.getElem?_toArray, List.getElem?_cons_zero, List.getElem?_cons_succ, 
      cells_int, cells_bool, cells_string, cells_slice, cells_pointer, cells_agg, one_int, one_bool, one_string, one_slice, one_pointer, List.setIfInBounds_toArray, List.set_cons_zero, List.set_cons_succ, ↓xDet_s, ↓xDet_ld, 
      ↓xDet_ld2, ↓xDet_ld3, ↓xDet_ld4, World.size_drew, Nat.zero_add, Nat.add_zero, cell_drew, frozen_drew, cell_set_eq, cell_set_o, cell_set_b, Option.map_some, World.frozen?_setCell, decide_true, decide_false, List.not_mem_nil, 
      not_false_eq_true, ↓xGuard_tt, Bool.not_true, Bool.not_false, ←decide_not, ↓ln_51, ↓bs_50_1, ↓bs_50_2, ↓bs_51_0, ↓bs_51_1, ↓bs_51_3, ↓bs_51_4, ↓bs_51_5, eq_self]
  refine crc_Seal_call (Yld.mono (Seal_spec [] _ _ _ _ rfl (by decide) RowAt.nil) ?_)
  rintro u v13 ⟨F13, b13, c13, rfl, h13, n13, R13⟩
  have e13 : ((sealV []).length : Int) = 4 := by rw [sealV_length]; rfl
  simp (disch := (first | omega | decide | (simp only [World.size_alloc, World.size_setCell, World.size_drew, List.mem_cons, List.not_mem_nil, or_false, not_false_eq_true] <;> omega) | fail)) only [↓xBox_r, ↓loadK_some, ↓loadsK_s, ↓loadsK_n, ↓loadsR_s, ↓loadsR_n, ↓storesK_s, ↓storesK_n, setCells_c, setCells_n, World.setCell_alloc_at, World.setCell_alloc_past, World.cell?_alloc_at, World.cell?_alloc_past, 
      World.frozen?_alloc_at, World.frozen?_alloc_past, World.size_alloc, ↓xPick_t, ↓xPick_f, ↓xGuard_tt, ↓xGuard_ff, ↓xGuard_tf, ↓xGuard_ft, ↓xGuard_u, ↓xNil_r, Option.isNone_some, Option.isNone_none, ↓xIf_t, tick_eq, tickV_eq, ne_eq, 
      dlt_t, dlt_f, dle_t, dle_f, deq_t, deq_f, dne_t, dne_f, not_true_eq_false, Int.reduceAdd, Int.reduceSub, Int.reduceMul, Int.reduceEq, Int.reduceLT, Int.reduceLE, Bool.false_and, Bool.true_and, Bool.and_true, 
      Bool.and_false, ↓xBin_add', ↓xBin_sub', ↓xBin_mul', ↓xBin_quo', ↓xBin_rem', wrap_in, ↓xIf_f, ↓xIf_tt, ↓xEx0, ↓xEx1, ↓xEx2, ↓xEx3, ↓xBin_eqs, ↓xBin_nes, ↓xUn_not, ↓xu8_com, ↓xu8_eql, ↓xu16_com, ↓xu16_eql, ↓xu32_com, ↓xu32_eql, 
      ↓xu64_com, ↓xu64_eql, ↓xi64_eql, Int.toNat_natCast, Int.reduceToNat, Nat.reduceMul, Nat.reduceAdd, Nat.reduceSub, Nat.mul_one, List.nil_append, List.cons_append, List.getElem?_toArray, List.getElem?_cons_zero, List.getElem?_cons_succ, 
      cells_int, cells_bool, cells_string, cells_slice, cells_pointer, cells_agg, one_int, one_bool, one_string, one_slice, one_pointer, List.setIfInBounds_toArray, List.set_cons_zero, List.set_cons_succ, ↓xDet_s, ↓xDet_ld, 
      ↓xDet_ld2, ↓xDet_ld3, ↓xDet_ld4, World.size_drew, Nat.zero_add, Nat.add_zero, cell_drew, frozen_drew, cell_set_eq, cell_set_o, cell_set_b, Option.map_some, World.frozen?_setCell, decide_true, decide_false, List.not_mem_nil, 
      not_false_eq_true, ↓xGuard_tt, Bool.not_true, Bool.not_false, ←decide_not, ↓ln_51, ↓bs_50_1, ↓bs_50_2, ↓bs_51_0, ↓bs_51_1, ↓bs_51_3, ↓bs_51_4, ↓bs_51_5, e13]
  exact ⟨by trivial, E12.trans F13⟩

theorem SumsSeal_spec (l : List (BitVec 8)) (a : Option Addr) (n c : Nat) (w : World) (ha : BytesArg w l a n c) : Gives Try.prog n_loamlaw2_SumsSeal #[.slice a n c] w (.bool true) := by
  obtain ⟨rfl, -, -, -, h⟩ := ha
  refine loamlaw2_SumsSeal_of ?_
  unfold loamlaw2_SumsSeal
  refine loamlaw2_known_call (Gives.to (known2_spec _) fun w1 E1 => ?_)
  have z1 := E1.size
  try simp only [World.size_alloc, World.size_setCell, World.size_drew] at z1
  simp (disch := (first | omega | decide | (simp only [World.size_alloc, World.size_setCell, World.size_drew, List.mem_cons, List.not_mem_nil, or_false, not_false_eq_true] <;> omega) | fail)) only [↓xBox_r, ↓loadK_some, ↓loadsK_s, ↓loadsK_n, ↓loadsR_s, ↓loadsR_n, ↓storesK_s, ↓storesK_n, setCells_c, setCells_n, World.setCell_alloc_at, World.setCell_alloc_past, World.cell?_alloc_at, World.cell?_alloc_past, 
      World.frozen?_alloc_at, World.frozen?_alloc_past, World.size_alloc, ↓xPick_t, ↓xPick_f, ↓xGuard_tt, ↓xGuard_ff, ↓xGuard_tf, ↓xGuard_ft, ↓xGuard_u, ↓xNil_r, Option.isNone_some, Option.isNone_none, ↓xIf_t, tick_eq, tickV_eq, ne_eq, 
      dlt_t, dlt_f, dle_t, dle_f, deq_t, deq_f, dne_t, dne_f, not_true_eq_false, Int.reduceAdd, Int.reduceSub, Int.reduceMul, Int.reduceEq, Int.reduceLT, Int.reduceLE, Bool.false_and, Bool.true_and, Bool.and_true, 
      Bool.and_false, ↓xBin_add', ↓xBin_sub', ↓xBin_mul', ↓xBin_quo', ↓xBin_rem', wrap_in, ↓xIf_f, ↓xIf_tt, ↓xEx0, ↓xEx1, ↓xEx2, ↓xEx3, ↓xBin_eqs, ↓xBin_nes, ↓xUn_not, ↓xu8_add, ↓xu8_com, ↓xu8_eql, ↓xu8_gtr, ↓xu16_add, ↓xu16_com, 
      ↓xu16_eql, ↓xu16_gtr, ↓xu32_add, ↓xu32_com, ↓xu32_eql, ↓xu32_gtr, ↓xu64_add, ↓xu64_com, ↓xu64_eql, ↓xu64_gtr, ↓xi64_gtr, ↓xi64_eql, Int.toNat_natCast, Int.reduceToNat, Nat.reduceMul, Nat.reduceAdd, Nat.reduceSub, 
      Nat.mul_one, List.nil_append, List.cons_append, List.getElem?_toArray, List.getElem?_cons_zero, List.getElem?_cons_succ, cells_int, cells_bool, cells_string, cells_slice, cells_pointer, cells_agg, one_int, one_bool, 
      one_string, one_slice, one_pointer, List.setIfInBounds_toArray, List.set_cons_zero, List.set_cons_succ, ↓xDet_s, ↓xDet_ld, ↓xDet_ld2, ↓xDet_ld3, ↓xDet_ld4, World.size_drew, Nat.zero_add, Nat.add_zero, cell_drew, frozen_drew, 
      cell_set_eq, cell_set_o, cell_set_b, Option.map_some, World.frozen?_setCell, decide_true, decide_false, List.not_mem_nil, not_false_eq_true, ↓xGuard_tt, Bool.not_true, Bool.not_false, ←decide_not, ↓ln_51, ↓sh_51, ↓sl_51, eq_self]
  by_cases g1 : 500 < (l.length : Int)
  · simp (disch := (first | omega | decide | (simp only [World.size_alloc, World.size_setCell, World.size_drew, List.mem_cons, List.not_mem_nil, or_false, not_false_eq_true] <;> omega) | fail)) only [↓xBox_r, ↓loadK_some, ↓loadsK_s, ↓loadsK_n, ↓loadsR_s, ↓loadsR_n, ↓storesK_s, ↓storesK_n, setCells_c, setCells_n, World.setCell_alloc_at, World.setCell_alloc_past, World.cell?_alloc_at, World.cell?_alloc_past, 
      World.frozen?_alloc_at, World.frozen?_alloc_past, World.size_alloc, ↓xPick_t, ↓xPick_f, ↓xGuard_tt, ↓xGuard_ff, ↓xGuard_tf, ↓xGuard_ft, ↓xGuard_u, ↓xNil_r, Option.isNone_some, Option.isNone_none, ↓xIf_t, tick_eq, tickV_eq, ne_eq, 
      dlt_t, dlt_f, dle_t, dle_f, deq_t, deq_f, dne_t, dne_f, not_true_eq_false, Int.reduceAdd, Int.reduceSub, Int.reduceMul, Int.reduceEq, Int.reduceLT, Int.reduceLE, Bool.false_and, Bool.true_and, Bool.and_true, 
      Bool.and_false, ↓xBin_add', ↓xBin_sub', ↓xBin_mul', ↓xBin_quo', ↓xBin_rem', wrap_in, ↓xIf_f, ↓xIf_tt, ↓xEx0, ↓xEx1, ↓xEx2, ↓xEx3, ↓xBin_eqs, ↓xBin_nes, ↓xUn_not, ↓xu8_add, ↓xu8_com, ↓xu8_eql, ↓xu8_gtr, ↓xu16_add, ↓xu16_com, 
      ↓xu16_eql, ↓xu16_gtr, ↓xu32_add, ↓xu32_com, ↓xu32_eql, ↓xu32_gtr, ↓xu64_add, ↓xu64_com, ↓xu64_eql, ↓xu64_gtr, ↓xi64_gtr, ↓xi64_eql, Int.toNat_natCast, Int.reduceToNat, Nat.reduceMul, Nat.reduceAdd, Nat.reduceSub, 
      Nat.mul_one, List.nil_append, List.cons_append, List.getElem?_toArray, List.getElem?_cons_zero, List.getElem?_cons_succ, cells_int, cells_bool, cells_string, cells_slice, cells_pointer, cells_agg, one_int, one_bool, 
      one_string, one_slice, one_pointer, List.setIfInBounds_toArray, List.set_cons_zero, List.set_cons_succ, ↓xDet_s, ↓xDet_ld, ↓xDet_ld2, ↓xDet_ld3, ↓xDet_ld4, World.size_drew, Nat.zero_add, Nat.add_zero, cell_drew, frozen_drew, 
      cell_set_eq, cell_set_o, cell_set_b, Option.map_some, World.frozen?_setCell, decide_true, decide_false, List.not_mem_nil, not_false_eq_true, ↓xGuard_tt, Bool.not_true, Bool.not_false, ←decide_not, ↓ln_51, ↓sh_51, ↓sl_51, eq_self, g1]
    exact ⟨by trivial, by (repeat (first | with_reducible exact Ext.refl _ _ | with_reducible assumption | with_reducible refine Ext.alloc' ?_ _ | with_reducible refine Ext.drew' ?_ | with_reducible refine Ext.set' ?_ ?_ | exact .inr (by first | omega | (simp only [World.size_alloc, World.size_drew, World.size_setCell] <;> omega)) | refine Ext.trans ?_ (by with_reducible assumption)))⟩
  simp (disch := (first | omega | decide | (simp only [World.size_alloc, World.size_setCell, World.size_drew, List.mem_cons, List.not_mem_nil, or_false, not_false_eq_true] <;> omega) | fail)) only [↓xBox_r, ↓loadK_some, ↓loadsK_s, ↓loadsK_n, ↓loadsR_s, ↓loadsR_n, ↓storesK_s, ↓storesK_n, setCells_c, setCells_n, World.setCell_alloc_at, World.setCell_alloc_past, World.cell?_alloc_at, World.cell?_alloc_past, 
      World.frozen?_alloc_at, World.frozen?_alloc_past, World.size_alloc, ↓xPick_t, ↓xPick_f, ↓xGuard_tt, ↓xGuard_ff, ↓xGuard_tf, ↓xGuard_ft, ↓xGuard_u, ↓xNil_r, Option.isNone_some, Option.isNone_none, ↓xIf_t, tick_eq, tickV_eq, ne_eq, 
      dlt_t, dlt_f, dle_t, dle_f, deq_t, deq_f, dne_t, dne_f, not_true_eq_false, Int.reduceAdd, Int.reduceSub, Int.reduceMul, Int.reduceEq, Int.reduceLT, Int.reduceLE, Bool.false_and, Bool.true_and, Bool.and_true, 
      Bool.and_false, ↓xBin_add', ↓xBin_sub', ↓xBin_mul', ↓xBin_quo', ↓xBin_rem', wrap_in, ↓xIf_f, ↓xIf_tt, ↓xEx0, ↓xEx1, ↓xEx2, ↓xEx3, ↓xBin_eqs, ↓xBin_nes, ↓xUn_not, ↓xu8_add, ↓xu8_com, ↓xu8_eql, ↓xu8_gtr, ↓xu16_add, ↓xu16_com, 
      ↓xu16_eql, ↓xu16_gtr, ↓xu32_add, ↓xu32_com, ↓xu32_eql, ↓xu32_gtr, ↓xu64_add, ↓xu64_com, ↓xu64_eql, ↓xu64_gtr, ↓xi64_gtr, ↓xi64_eql, Int.toNat_natCast, Int.reduceToNat, Nat.reduceMul, Nat.reduceAdd, Nat.reduceSub, 
      Nat.mul_one, List.nil_append, List.cons_append, List.getElem?_toArray, List.getElem?_cons_zero, List.getElem?_cons_succ, cells_int, cells_bool, cells_string, cells_slice, cells_pointer, cells_agg, one_int, one_bool, 
      one_string, one_slice, one_pointer, List.setIfInBounds_toArray, List.set_cons_zero, List.set_cons_succ, ↓xDet_s, ↓xDet_ld, ↓xDet_ld2, ↓xDet_ld3, ↓xDet_ld4, World.size_drew, Nat.zero_add, Nat.add_zero, cell_drew, frozen_drew, 
      cell_set_eq, cell_set_o, cell_set_b, Option.map_some, World.frozen?_setCell, decide_true, decide_false, List.not_mem_nil, not_false_eq_true, ↓xGuard_tt, Bool.not_true, Bool.not_false, ←decide_not, ↓ln_51, ↓sh_51, ↓sl_51, g1]
  refine crc_Seal_call (Yld.mono (Seal_spec l _ _ _ _ rfl (by omega) (h.ext0 E1)) ?_)
  rintro u v2 ⟨F2, b2, c2, rfl, h2, n2, R2⟩
  simp (disch := (first | omega | decide | (simp only [World.size_alloc, World.size_setCell, World.size_drew, List.mem_cons, List.not_mem_nil, or_false, not_false_eq_true] <;> omega) | fail)) only [↓xBox_r, ↓loadK_some, ↓loadsK_s, ↓loadsK_n, ↓loadsR_s, ↓loadsR_n, ↓storesK_s, ↓storesK_n, setCells_c, setCells_n, World.setCell_alloc_at, World.setCell_alloc_past, World.cell?_alloc_at, World.cell?_alloc_past, 
      World.frozen?_alloc_at, World.frozen?_alloc_past, World.size_alloc, ↓xPick_t, ↓xPick_f, ↓xGuard_tt, ↓xGuard_ff, ↓xGuard_tf, ↓xGuard_ft, ↓xGuard_u, ↓xNil_r, Option.isNone_some, Option.isNone_none, ↓xIf_t, tick_eq, tickV_eq, ne_eq, 
      dlt_t, dlt_f, dle_t, dle_f, deq_t, deq_f, dne_t, dne_f, not_true_eq_false, Int.reduceAdd, Int.reduceSub, Int.reduceMul, Int.reduceEq, Int.reduceLT, Int.reduceLE, Bool.false_and, Bool.true_and, Bool.and_true, 
      Bool.and_false, ↓xBin_add', ↓xBin_sub', ↓xBin_mul', ↓xBin_quo', ↓xBin_rem', wrap_in, ↓xIf_f, ↓xIf_tt, ↓xEx0, ↓xEx1, ↓xEx2, ↓xEx3, ↓xBin_eqs, ↓xBin_nes, ↓xUn_not, ↓xu8_add, ↓xu8_com, ↓xu8_eql, ↓xu8_gtr, ↓xu16_add, ↓xu16_com, 
      ↓xu16_eql, ↓xu16_gtr, ↓xu32_add, ↓xu32_com, ↓xu32_eql, ↓xu32_gtr, ↓xu64_add, ↓xu64_com, ↓xu64_eql, ↓xu64_gtr, ↓xi64_gtr, ↓xi64_eql, Int.toNat_natCast, Int.reduceToNat, Nat.reduceMul, Nat.reduceAdd, Nat.reduceSub, 
      Nat.mul_one, List.nil_append, List.cons_append, List.getElem?_toArray, List.getElem?_cons_zero, List.getElem?_cons_succ, cells_int, cells_bool, cells_string, cells_slice, cells_pointer, cells_agg, one_int, one_bool, 
      one_string, one_slice, one_pointer, List.setIfInBounds_toArray, List.set_cons_zero, List.set_cons_succ, ↓xDet_s, ↓xDet_ld, ↓xDet_ld2, ↓xDet_ld3, ↓xDet_ld4, World.size_drew, Nat.zero_add, Nat.add_zero, cell_drew, frozen_drew, 
      cell_set_eq, cell_set_o, cell_set_b, Option.map_some, World.frozen?_setCell, decide_true, decide_false, List.not_mem_nil, not_false_eq_true, ↓xGuard_tt, Bool.not_true, Bool.not_false, ←decide_not, ↓ln_51, ↓sh_51, ↓sl_51, g1]
  have k1 := sealV_length l
  have k2 := sealV_length (sealV l)
  refine crc_Seal_call (Yld.mono (Seal_spec (sealV l) _ _ _ _ rfl (by omega) R2) ?_)
  rintro u v3 ⟨F3, b3, c3, rfl, h3, n3, R3⟩
  simp (disch := (first | omega | decide | (simp only [World.size_alloc, World.size_setCell, World.size_drew, List.mem_cons, List.not_mem_nil, or_false, not_false_eq_true] <;> omega) | fail)) only [↓xBox_r, ↓loadK_some, ↓loadsK_s, ↓loadsK_n, ↓loadsR_s, ↓loadsR_n, ↓storesK_s, ↓storesK_n, setCells_c, setCells_n, World.setCell_alloc_at, World.setCell_alloc_past, World.cell?_alloc_at, World.cell?_alloc_past, 
      World.frozen?_alloc_at, World.frozen?_alloc_past, World.size_alloc, ↓xPick_t, ↓xPick_f, ↓xGuard_tt, ↓xGuard_ff, ↓xGuard_tf, ↓xGuard_ft, ↓xGuard_u, ↓xNil_r, Option.isNone_some, Option.isNone_none, ↓xIf_t, tick_eq, tickV_eq, ne_eq, 
      dlt_t, dlt_f, dle_t, dle_f, deq_t, deq_f, dne_t, dne_f, not_true_eq_false, Int.reduceAdd, Int.reduceSub, Int.reduceMul, Int.reduceEq, Int.reduceLT, Int.reduceLE, Bool.false_and, Bool.true_and, Bool.and_true, 
      Bool.and_false, ↓xBin_add', ↓xBin_sub', ↓xBin_mul', ↓xBin_quo', ↓xBin_rem', wrap_in, ↓xIf_f, ↓xIf_tt, ↓xEx0, ↓xEx1, ↓xEx2, ↓xEx3, ↓xBin_eqs, ↓xBin_nes, ↓xUn_not, ↓xu8_add, ↓xu8_com, ↓xu8_eql, ↓xu8_gtr, ↓xu16_add, ↓xu16_com, 
      ↓xu16_eql, ↓xu16_gtr, ↓xu32_add, ↓xu32_com, ↓xu32_eql, ↓xu32_gtr, ↓xu64_add, ↓xu64_com, ↓xu64_eql, ↓xu64_gtr, ↓xi64_gtr, ↓xi64_eql, Int.toNat_natCast, Int.reduceToNat, Nat.reduceMul, Nat.reduceAdd, Nat.reduceSub, 
      Nat.mul_one, List.nil_append, List.cons_append, List.getElem?_toArray, List.getElem?_cons_zero, List.getElem?_cons_succ, cells_int, cells_bool, cells_string, cells_slice, cells_pointer, cells_agg, one_int, one_bool, 
      one_string, one_slice, one_pointer, List.setIfInBounds_toArray, List.set_cons_zero, List.set_cons_succ, ↓xDet_s, ↓xDet_ld, ↓xDet_ld2, ↓xDet_ld3, ↓xDet_ld4, World.size_drew, Nat.zero_add, Nat.add_zero, cell_drew, frozen_drew, 
      cell_set_eq, cell_set_o, cell_set_b, Option.map_some, World.frozen?_setCell, decide_true, decide_false, List.not_mem_nil, not_false_eq_true, ↓xGuard_tt, Bool.not_true, Bool.not_false, ←decide_not, ↓ln_51, ↓sh_51, ↓sl_51, g1]
  refine xDraw_ext [] [] ?_
  have t1 : (l.length : Int).toNat = l.length := by omega
  simp (disch := (first | omega | decide | (simp only [World.size_alloc, World.size_setCell, World.size_drew, List.mem_cons, List.not_mem_nil, or_false, not_false_eq_true] <;> omega) | fail)) only [↓xBox_r, ↓loadK_some, ↓loadsK_s, ↓loadsK_n, ↓loadsR_s, ↓loadsR_n, ↓storesK_s, ↓storesK_n, setCells_c, setCells_n, World.setCell_alloc_at, World.setCell_alloc_past, World.cell?_alloc_at, World.cell?_alloc_past, 
      World.frozen?_alloc_at, World.frozen?_alloc_past, World.size_alloc, ↓xPick_t, ↓xPick_f, ↓xGuard_tt, ↓xGuard_ff, ↓xGuard_tf, ↓xGuard_ft, ↓xGuard_u, ↓xNil_r, Option.isNone_some, Option.isNone_none, ↓xIf_t, tick_eq, tickV_eq, ne_eq, 
      dlt_t, dlt_f, dle_t, dle_f, deq_t, deq_f, dne_t, dne_f, not_true_eq_false, Int.reduceAdd, Int.reduceSub, Int.reduceMul, Int.reduceEq, Int.reduceLT, Int.reduceLE, Bool.false_and, Bool.true_and, Bool.and_true, 
      Bool.and_false, ↓xBin_add', ↓xBin_sub', ↓xBin_mul', ↓xBin_quo', ↓xBin_rem', wrap_in, ↓xIf_f, ↓xIf_tt, ↓xEx0, ↓xEx1, ↓xEx2, ↓xEx3, ↓xBin_eqs, ↓xBin_nes, ↓xUn_not, ↓xu8_add, ↓xu8_com, ↓xu8_eql, ↓xu8_gtr, ↓xu16_add, ↓xu16_com, 
      ↓xu16_eql, ↓xu16_gtr, ↓xu32_add, ↓xu32_com, ↓xu32_eql, ↓xu32_gtr, ↓xu64_add, ↓xu64_com, ↓xu64_eql, ↓xu64_gtr, ↓xi64_gtr, ↓xi64_eql, Int.toNat_natCast, Int.reduceToNat, Nat.reduceMul, Nat.reduceAdd, Nat.reduceSub, 
      Nat.mul_one, List.nil_append, List.cons_append, List.getElem?_toArray, List.getElem?_cons_zero, List.getElem?_cons_succ, cells_int, cells_bool, cells_string, cells_slice, cells_pointer, cells_agg, one_int, one_bool, 
      one_string, one_slice, one_pointer, List.setIfInBounds_toArray, List.set_cons_zero, List.set_cons_succ, ↓xDet_s, ↓xDet_ld, ↓xDet_ld2, ↓xDet_ld3, ↓xDet_ld4, World.size_drew, Nat.zero_add, Nat.add_zero, cell_drew, frozen_drew, 
      cell_set_eq, cell_set_o, cell_set_b, Option.map_some, World.frozen?_setCell, decide_true, decide_false, List.not_mem_nil, not_false_eq_true, ↓xGuard_tt, Bool.not_true, Bool.not_false, ←decide_not, ↓ln_51, ↓sh_51, ↓sl_51, g1, t1]
  have q1 : RowAt v3.drew (some ⟨b2, 0, none⟩) (bys l) := by
    have := ((R2.ext0 F3).ext0 (Ext.drew [] v3)).take l.length
    rwa [← List.map_take, show (sealV l).take l.length = l by simp [sealV]] at this
  apply xDet_x
  · intro wq hq
    rw [xConv_str (e := 5) (l := l) (by kernel_rfl) (by kernel_rfl) (by kernel_rfl) (by first | (simp; done) | omega) (RowAt.ext0 (q1) hq.ext)]
    exact ⟨rfl, Lq.refl _ _ _⟩
  simp (disch := (first | omega | decide | (simp only [World.size_alloc, World.size_setCell, World.size_drew, List.mem_cons, List.not_mem_nil, or_false, not_false_eq_true] <;> omega) | fail)) only [↓xBox_r, ↓loadK_some, ↓loadsK_s, ↓loadsK_n, ↓loadsR_s, ↓loadsR_n, ↓storesK_s, ↓storesK_n, setCells_c, setCells_n, World.setCell_alloc_at, World.setCell_alloc_past, World.cell?_alloc_at, World.cell?_alloc_past, 
      World.frozen?_alloc_at, World.frozen?_alloc_past, World.size_alloc, ↓xPick_t, ↓xPick_f, ↓xGuard_tt, ↓xGuard_ff, ↓xGuard_tf, ↓xGuard_ft, ↓xGuard_u, ↓xNil_r, Option.isNone_some, Option.isNone_none, ↓xIf_t, tick_eq, tickV_eq, ne_eq, 
      dlt_t, dlt_f, dle_t, dle_f, deq_t, deq_f, dne_t, dne_f, not_true_eq_false, Int.reduceAdd, Int.reduceSub, Int.reduceMul, Int.reduceEq, Int.reduceLT, Int.reduceLE, Bool.false_and, Bool.true_and, Bool.and_true, 
      Bool.and_false, ↓xBin_add', ↓xBin_sub', ↓xBin_mul', ↓xBin_quo', ↓xBin_rem', wrap_in, ↓xIf_f, ↓xIf_tt, ↓xEx0, ↓xEx1, ↓xEx2, ↓xEx3, ↓xBin_eqs, ↓xBin_nes, ↓xUn_not, ↓xu8_add, ↓xu8_com, ↓xu8_eql, ↓xu8_gtr, ↓xu16_add, ↓xu16_com, 
      ↓xu16_eql, ↓xu16_gtr, ↓xu32_add, ↓xu32_com, ↓xu32_eql, ↓xu32_gtr, ↓xu64_add, ↓xu64_com, ↓xu64_eql, ↓xu64_gtr, ↓xi64_gtr, ↓xi64_eql, Int.toNat_natCast, Int.reduceToNat, Nat.reduceMul, Nat.reduceAdd, Nat.reduceSub, 
      Nat.mul_one, List.nil_append, List.cons_append, List.getElem?_toArray, List.getElem?_cons_zero, List.getElem?_cons_succ, cells_int, cells_bool, cells_string, cells_slice, cells_pointer, cells_agg, one_int, one_bool, 
      one_string, one_slice, one_pointer, List.setIfInBounds_toArray, List.set_cons_zero, List.set_cons_succ, ↓xDet_s, ↓xDet_ld, ↓xDet_ld2, ↓xDet_ld3, ↓xDet_ld4, World.size_drew, Nat.zero_add, Nat.add_zero, cell_drew, frozen_drew, 
      cell_set_eq, cell_set_o, cell_set_b, Option.map_some, World.frozen?_setCell, decide_true, decide_false, List.not_mem_nil, not_false_eq_true, ↓xGuard_tt, Bool.not_true, Bool.not_false, ←decide_not, ↓ln_51, ↓sh_51, ↓sl_51, g1, t1]
  apply xDet_x
  · intro wq hq
    rw [xConv_str (e := 5) (l := l) (by kernel_rfl) (by kernel_rfl) (by kernel_rfl) (by first | (simp; done) | omega) (RowAt.ext0 (((h.ext0 E1).ext0 F2).ext0 (F3.drew')) hq.ext)]
    exact ⟨rfl, Lq.refl _ _ _⟩
  simp (disch := (first | omega | decide | (simp only [World.size_alloc, World.size_setCell, World.size_drew, List.mem_cons, List.not_mem_nil, or_false, not_false_eq_true] <;> omega) | fail)) only [↓xBox_r, ↓loadK_some, ↓loadsK_s, ↓loadsK_n, ↓loadsR_s, ↓loadsR_n, ↓storesK_s, ↓storesK_n, setCells_c, setCells_n, World.setCell_alloc_at, World.setCell_alloc_past, World.cell?_alloc_at, World.cell?_alloc_past, 
      World.frozen?_alloc_at, World.frozen?_alloc_past, World.size_alloc, ↓xPick_t, ↓xPick_f, ↓xGuard_tt, ↓xGuard_ff, ↓xGuard_tf, ↓xGuard_ft, ↓xGuard_u, ↓xNil_r, Option.isNone_some, Option.isNone_none, ↓xIf_t, tick_eq, tickV_eq, ne_eq, 
      dlt_t, dlt_f, dle_t, dle_f, deq_t, deq_f, dne_t, dne_f, not_true_eq_false, Int.reduceAdd, Int.reduceSub, Int.reduceMul, Int.reduceEq, Int.reduceLT, Int.reduceLE, Bool.false_and, Bool.true_and, Bool.and_true, 
      Bool.and_false, ↓xBin_add', ↓xBin_sub', ↓xBin_mul', ↓xBin_quo', ↓xBin_rem', wrap_in, ↓xIf_f, ↓xIf_tt, ↓xEx0, ↓xEx1, ↓xEx2, ↓xEx3, ↓xBin_eqs, ↓xBin_nes, ↓xUn_not, ↓xu8_add, ↓xu8_com, ↓xu8_eql, ↓xu8_gtr, ↓xu16_add, ↓xu16_com, 
      ↓xu16_eql, ↓xu16_gtr, ↓xu32_add, ↓xu32_com, ↓xu32_eql, ↓xu32_gtr, ↓xu64_add, ↓xu64_com, ↓xu64_eql, ↓xu64_gtr, ↓xi64_gtr, ↓xi64_eql, Int.toNat_natCast, Int.reduceToNat, Nat.reduceMul, Nat.reduceAdd, Nat.reduceSub, 
      Nat.mul_one, List.nil_append, List.cons_append, List.getElem?_toArray, List.getElem?_cons_zero, List.getElem?_cons_succ, cells_int, cells_bool, cells_string, cells_slice, cells_pointer, cells_agg, one_int, one_bool, 
      one_string, one_slice, one_pointer, List.setIfInBounds_toArray, List.set_cons_zero, List.set_cons_succ, ↓xDet_s, ↓xDet_ld, ↓xDet_ld2, ↓xDet_ld3, ↓xDet_ld4, World.size_drew, Nat.zero_add, Nat.add_zero, cell_drew, frozen_drew, 
      cell_set_eq, cell_set_o, cell_set_b, Option.map_some, World.frozen?_setCell, decide_true, decide_false, List.not_mem_nil, not_false_eq_true, ↓xGuard_tt, Bool.not_true, Bool.not_false, ←decide_not, ↓ln_51, ↓sh_51, ↓sl_51, g1, t1]
  apply xDet_x
  · exact fun w hw => crc_Right_call (Gives.lq (Right_spec2 (sealV l) _ _ _ _ rfl h2 (by omega) (((R2.ext0 F3).ext0 (Ext.drew [] v3)).ext0 hw.ext)))
  rw [right_seal]
  simp (disch := (first | omega | decide | (simp only [World.size_alloc, World.size_setCell, World.size_drew, List.mem_cons, List.not_mem_nil, or_false, not_false_eq_true] <;> omega) | fail)) only [↓xBox_r, ↓loadK_some, ↓loadsK_s, ↓loadsK_n, ↓loadsR_s, ↓loadsR_n, ↓storesK_s, ↓storesK_n, setCells_c, setCells_n, World.setCell_alloc_at, World.setCell_alloc_past, World.cell?_alloc_at, World.cell?_alloc_past, 
      World.frozen?_alloc_at, World.frozen?_alloc_past, World.size_alloc, ↓xPick_t, ↓xPick_f, ↓xGuard_tt, ↓xGuard_ff, ↓xGuard_tf, ↓xGuard_ft, ↓xGuard_u, ↓xNil_r, Option.isNone_some, Option.isNone_none, ↓xIf_t, tick_eq, tickV_eq, ne_eq, 
      dlt_t, dlt_f, dle_t, dle_f, deq_t, deq_f, dne_t, dne_f, not_true_eq_false, Int.reduceAdd, Int.reduceSub, Int.reduceMul, Int.reduceEq, Int.reduceLT, Int.reduceLE, Bool.false_and, Bool.true_and, Bool.and_true, 
      Bool.and_false, ↓xBin_add', ↓xBin_sub', ↓xBin_mul', ↓xBin_quo', ↓xBin_rem', wrap_in, ↓xIf_f, ↓xIf_tt, ↓xEx0, ↓xEx1, ↓xEx2, ↓xEx3, ↓xBin_eqs, ↓xBin_nes, ↓xUn_not, ↓xu8_add, ↓xu8_com, ↓xu8_eql, ↓xu8_gtr, ↓xu16_add, ↓xu16_com, 
      ↓xu16_eql, ↓xu16_gtr, ↓xu32_add, ↓xu32_com, ↓xu32_eql, ↓xu32_gtr, ↓xu64_add, ↓xu64_com, ↓xu64_eql, ↓xu64_gtr, ↓xi64_gtr, ↓xi64_eql, Int.toNat_natCast, Int.reduceToNat, Nat.reduceMul, Nat.reduceAdd, Nat.reduceSub, 
      Nat.mul_one, List.nil_append, List.cons_append, List.getElem?_toArray, List.getElem?_cons_zero, List.getElem?_cons_succ, cells_int, cells_bool, cells_string, cells_slice, cells_pointer, cells_agg, one_int, one_bool, 
      one_string, one_slice, one_pointer, List.setIfInBounds_toArray, List.set_cons_zero, List.set_cons_succ, ↓xDet_s, ↓xDet_ld, ↓xDet_ld2, ↓xDet_ld3, ↓xDet_ld4, World.size_drew, Nat.zero_add, Nat.add_zero, cell_drew, frozen_drew, 
      cell_set_eq, cell_set_o, cell_set_b, Option.map_some, World.frozen?_setCell, decide_true, decide_false, List.not_mem_nil, not_false_eq_true, ↓xGuard_tt, Bool.not_true, Bool.not_false, ←decide_not, ↓ln_51, ↓sh_51, ↓sl_51, g1, t1]
  apply xDet_x
  · exact fun w hw => crc_Right_call (Gives.lq (Right_spec2 (sealV (sealV l)) _ _ _ _ rfl h3 (by omega) ((R3.ext0 (Ext.drew [] v3)).ext0 hw.ext)))
  rw [right_seal]
  simp (disch := (first | omega | decide | (simp only [World.size_alloc, World.size_setCell, World.size_drew, List.mem_cons, List.not_mem_nil, or_false, not_false_eq_true] <;> omega) | fail)) only [↓xBox_r, ↓loadK_some, ↓loadsK_s, ↓loadsK_n, ↓loadsR_s, ↓loadsR_n, ↓storesK_s, ↓storesK_n, setCells_c, setCells_n, World.setCell_alloc_at, World.setCell_alloc_past, World.cell?_alloc_at, World.cell?_alloc_past, 
      World.frozen?_alloc_at, World.frozen?_alloc_past, World.size_alloc, ↓xPick_t, ↓xPick_f, ↓xGuard_tt, ↓xGuard_ff, ↓xGuard_tf, ↓xGuard_ft, ↓xGuard_u, ↓xNil_r, Option.isNone_some, Option.isNone_none, ↓xIf_t, tick_eq, tickV_eq, ne_eq, 
      dlt_t, dlt_f, dle_t, dle_f, deq_t, deq_f, dne_t, dne_f, not_true_eq_false, Int.reduceAdd, Int.reduceSub, Int.reduceMul, Int.reduceEq, Int.reduceLT, Int.reduceLE, Bool.false_and, Bool.true_and, Bool.and_true, 
      Bool.and_false, ↓xBin_add', ↓xBin_sub', ↓xBin_mul', ↓xBin_quo', ↓xBin_rem', wrap_in, ↓xIf_f, ↓xIf_tt, ↓xEx0, ↓xEx1, ↓xEx2, ↓xEx3, ↓xBin_eqs, ↓xBin_nes, ↓xUn_not, ↓xu8_add, ↓xu8_com, ↓xu8_eql, ↓xu8_gtr, ↓xu16_add, ↓xu16_com, 
      ↓xu16_eql, ↓xu16_gtr, ↓xu32_add, ↓xu32_com, ↓xu32_eql, ↓xu32_gtr, ↓xu64_add, ↓xu64_com, ↓xu64_eql, ↓xu64_gtr, ↓xi64_gtr, ↓xi64_eql, Int.toNat_natCast, Int.reduceToNat, Nat.reduceMul, Nat.reduceAdd, Nat.reduceSub, 
      Nat.mul_one, List.nil_append, List.cons_append, List.getElem?_toArray, List.getElem?_cons_zero, List.getElem?_cons_succ, cells_int, cells_bool, cells_string, cells_slice, cells_pointer, cells_agg, one_int, one_bool, 
      one_string, one_slice, one_pointer, List.setIfInBounds_toArray, List.set_cons_zero, List.set_cons_succ, ↓xDet_s, ↓xDet_ld, ↓xDet_ld2, ↓xDet_ld3, ↓xDet_ld4, World.size_drew, Nat.zero_add, Nat.add_zero, cell_drew, frozen_drew, 
      cell_set_eq, cell_set_o, cell_set_b, Option.map_some, World.frozen?_setCell, decide_true, decide_false, List.not_mem_nil, not_false_eq_true, ↓xGuard_tt, Bool.not_true, Bool.not_false, ←decide_not, ↓ln_51, ↓sh_51, ↓sl_51, g1, t1]
  refine xEnd_i fun w9 hw => ⟨by trivial, ?_⟩
  exact (((E1.trans F2).trans F3).drew').trans hw.ext
end Go.Proofs.Ytohonkbneimkoaa
