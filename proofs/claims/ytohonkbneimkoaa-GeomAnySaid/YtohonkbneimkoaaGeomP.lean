/- The statement on the parts of a heap, walked. -/
import Derived.Test.YtohonkbneimkoaaGeomC
set_option linter.unusedVariables false
set_option linter.unusedSimpArgs false
namespace Go.Proofs.Ytohonkbneimkoaa
open Go.Sh Go.RowKit

theorem GeomParts_spec (s l n a b : Int) (w : World) : Gives Try.prog n_loamlaw4_GeomParts #[gm s l n, i64 a, i64 b] w (.bool true) := by
  refine loamlaw4_GeomParts_of ?_
  unfold loamlaw4_GeomParts
  simp (disch := (first | omega | (simp only [World.size_alloc, World.size_setCell, World.size_drew, List.mem_cons, List.not_mem_nil, or_false, not_false_eq_true] <;> omega) | fail)) only [↓xBox_r, ↓loadK_some, ↓loadsK_s, ↓loadsK_n, ↓loadsR_s, ↓loadsR_n, ↓storesK_s, ↓storesK_n, setCells_c, setCells_n, World.setCell_alloc_at, World.setCell_alloc_past, World.cell?_alloc_at, World.cell?_alloc_past, 
      World.frozen?_alloc_at, World.frozen?_alloc_past, World.size_alloc, ↓xPick_t, ↓xPick_f, ↓xGuard_tt, ↓xGuard_ff, ↓xGuard_tf, ↓xGuard_ft, ↓xIf_t, tick_eq, tickV_eq, ne_eq, not_true_eq_false, Int.reduceEq, Int.reduceLT, Int.reduceLE, 
      Bool.false_and, Bool.true_and, Bool.and_true, Bool.and_false, ↓xBin_add', ↓xBin_sub', ↓xBin_mul', ↓xBin_quo', ↓xBin_rem', wrap_in, ↓xIf_f, ↓xIf_tt, ↓xEx0, ↓xEx1, ↓xEx2, ↓xEx3, ↓xBin_eqs, ↓xBin_nes, ↓xUn_not, ↓u8_add, 
      ↓u8_sub, ↓u8_com, ↓u8_eql, ↓u8_neq, ↓u8_lss, ↓u8_leq, ↓u8_gtr, ↓u8_geq, ↓u16_add, ↓u16_sub, ↓u16_com, ↓u16_eql, ↓u16_neq, ↓u16_lss, ↓u16_leq, ↓u16_gtr, ↓u16_geq, ↓u32_add, ↓u32_sub, ↓u32_com, ↓u32_eql, ↓u32_neq, 
      ↓u32_lss, ↓u32_leq, ↓u32_gtr, ↓u32_geq, ↓u64_add, ↓u64_sub, ↓u64_com, ↓u64_eql, ↓u64_neq, ↓u64_lss, ↓u64_leq, ↓u64_gtr, ↓u64_geq, ↓i64_lss, ↓i64_leq, ↓i64_gtr, ↓i64_geq, ↓i64_eql, ↓i64_neq, ↓i64_neg, Int.toNat_natCast, 
      Int.reduceToNat, Nat.reduceMul, Nat.reduceAdd, Nat.reduceSub, Nat.mul_one, List.nil_append, List.cons_append, List.getElem?_toArray, List.getElem?_cons_zero, List.getElem?_cons_succ, cells_int, cells_bool, cells_string, 
      cells_slice, cells_pointer, cells_agg, one_int, one_bool, one_string, one_slice, one_pointer, List.setIfInBounds_toArray, List.set_cons_zero, List.set_cons_succ, ↓xDet_s, ↓xDet_ld, ↓xDet_ld2, ↓xDet_ld3, ↓xDet_ld4, 
      World.size_drew, Nat.zero_add, cell_drew, frozen_drew, cell_set_eq, cell_set_o, cell_set_b, Option.map_some, World.frozen?_setCell, decide_true, decide_false, List.not_mem_nil, not_false_eq_true, ↓xGuard_tt, Bool.not_true, 
      Bool.not_false, ←decide_not, ↓ld_3, ↓ld_23, ↓fa_23_0, ↓fa_23_1, ↓fa_23_2, ↓fa_34_0, ↓fa_34_1, ↓al_34, ↓st_34, ↓eb_4, eq_self]
  refine loamlaw4_known_call (Gives.to (known4_spec _) fun w1 E1 => ?_)
  have z1 := E1.size
  try simp only [World.size_alloc, World.size_setCell, World.size_drew] at z1
  have e1_0 : ∀ o, w1.cell? ⟨w.heap.size, o, none⟩ = _ := fun o => E1.cell_o (by first | omega | (simp only [World.size_alloc, World.size_setCell, World.size_drew] <;> omega))
  simp (disch := (first | omega | (simp only [World.size_alloc, World.size_setCell, World.size_drew, List.mem_cons, List.not_mem_nil, or_false, not_false_eq_true] <;> omega) | fail)) only [↓xBox_r, ↓loadK_some, ↓loadsK_s, ↓loadsK_n, ↓loadsR_s, ↓loadsR_n, ↓storesK_s, ↓storesK_n, setCells_c, setCells_n, World.setCell_alloc_at, World.setCell_alloc_past, World.cell?_alloc_at, World.cell?_alloc_past, 
      World.frozen?_alloc_at, World.frozen?_alloc_past, World.size_alloc, ↓xPick_t, ↓xPick_f, ↓xGuard_tt, ↓xGuard_ff, ↓xGuard_tf, ↓xGuard_ft, ↓xIf_t, tick_eq, tickV_eq, ne_eq, not_true_eq_false, Int.reduceEq, Int.reduceLT, Int.reduceLE, 
      Bool.false_and, Bool.true_and, Bool.and_true, Bool.and_false, ↓xBin_add', ↓xBin_sub', ↓xBin_mul', ↓xBin_quo', ↓xBin_rem', wrap_in, ↓xIf_f, ↓xIf_tt, ↓xEx0, ↓xEx1, ↓xEx2, ↓xEx3, ↓xBin_eqs, ↓xBin_nes, ↓xUn_not, ↓u8_add, 
      ↓u8_sub, ↓u8_com, ↓u8_eql, ↓u8_neq, ↓u8_lss, ↓u8_leq, ↓u8_gtr, ↓u8_geq, ↓u16_add, ↓u16_sub, ↓u16_com, ↓u16_eql, ↓u16_neq, ↓u16_lss, ↓u16_leq, ↓u16_gtr, ↓u16_geq, ↓u32_add, ↓u32_sub, ↓u32_com, ↓u32_eql, ↓u32_neq, 
      ↓u32_lss, ↓u32_leq, ↓u32_gtr, ↓u32_geq, ↓u64_add, ↓u64_sub, ↓u64_com, ↓u64_eql, ↓u64_neq, ↓u64_lss, ↓u64_leq, ↓u64_gtr, ↓u64_geq, ↓i64_lss, ↓i64_leq, ↓i64_gtr, ↓i64_geq, ↓i64_eql, ↓i64_neq, ↓i64_neg, Int.toNat_natCast, 
      Int.reduceToNat, Nat.reduceMul, Nat.reduceAdd, Nat.reduceSub, Nat.mul_one, List.nil_append, List.cons_append, List.getElem?_toArray, List.getElem?_cons_zero, List.getElem?_cons_succ, cells_int, cells_bool, cells_string, 
      cells_slice, cells_pointer, cells_agg, one_int, one_bool, one_string, one_slice, one_pointer, List.setIfInBounds_toArray, List.set_cons_zero, List.set_cons_succ, ↓xDet_s, ↓xDet_ld, ↓xDet_ld2, ↓xDet_ld3, ↓xDet_ld4, 
      World.size_drew, Nat.zero_add, cell_drew, frozen_drew, cell_set_eq, cell_set_o, cell_set_b, Option.map_some, World.frozen?_setCell, decide_true, decide_false, List.not_mem_nil, not_false_eq_true, ↓xGuard_tt, Bool.not_true, 
      Bool.not_false, ←decide_not, ↓ld_3, ↓ld_23, ↓fa_23_0, ↓fa_23_1, ↓fa_23_2, ↓fa_34_0, ↓fa_34_1, ↓al_34, ↓st_34, ↓eb_4, e1_0]
  by_cases g1 : s < 8
  · simp (disch := (first | omega | (simp only [World.size_alloc, World.size_setCell, World.size_drew, List.mem_cons, List.not_mem_nil, or_false, not_false_eq_true] <;> omega) | fail)) only [↓xBox_r, ↓loadK_some, ↓loadsK_s, ↓loadsK_n, ↓loadsR_s, ↓loadsR_n, ↓storesK_s, ↓storesK_n, setCells_c, setCells_n, World.setCell_alloc_at, World.setCell_alloc_past, World.cell?_alloc_at, World.cell?_alloc_past, 
      World.frozen?_alloc_at, World.frozen?_alloc_past, World.size_alloc, ↓xPick_t, ↓xPick_f, ↓xGuard_tt, ↓xGuard_ff, ↓xGuard_tf, ↓xGuard_ft, ↓xIf_t, tick_eq, tickV_eq, ne_eq, not_true_eq_false, Int.reduceEq, Int.reduceLT, Int.reduceLE, 
      Bool.false_and, Bool.true_and, Bool.and_true, Bool.and_false, ↓xBin_add', ↓xBin_sub', ↓xBin_mul', ↓xBin_quo', ↓xBin_rem', wrap_in, ↓xIf_f, ↓xIf_tt, ↓xEx0, ↓xEx1, ↓xEx2, ↓xEx3, ↓xBin_eqs, ↓xBin_nes, ↓xUn_not, ↓u8_add, 
      ↓u8_sub, ↓u8_com, ↓u8_eql, ↓u8_neq, ↓u8_lss, ↓u8_leq, ↓u8_gtr, ↓u8_geq, ↓u16_add, ↓u16_sub, ↓u16_com, ↓u16_eql, ↓u16_neq, ↓u16_lss, ↓u16_leq, ↓u16_gtr, ↓u16_geq, ↓u32_add, ↓u32_sub, ↓u32_com, ↓u32_eql, ↓u32_neq, 
      ↓u32_lss, ↓u32_leq, ↓u32_gtr, ↓u32_geq, ↓u64_add, ↓u64_sub, ↓u64_com, ↓u64_eql, ↓u64_neq, ↓u64_lss, ↓u64_leq, ↓u64_gtr, ↓u64_geq, ↓i64_lss, ↓i64_leq, ↓i64_gtr, ↓i64_geq, ↓i64_eql, ↓i64_neq, ↓i64_neg, Int.toNat_natCast, 
      Int.reduceToNat, Nat.reduceMul, Nat.reduceAdd, Nat.reduceSub, Nat.mul_one, List.nil_append, List.cons_append, List.getElem?_toArray, List.getElem?_cons_zero, List.getElem?_cons_succ, cells_int, cells_bool, cells_string, 
      cells_slice, cells_pointer, cells_agg, one_int, one_bool, one_string, one_slice, one_pointer, List.setIfInBounds_toArray, List.set_cons_zero, List.set_cons_succ, ↓xDet_s, ↓xDet_ld, ↓xDet_ld2, ↓xDet_ld3, ↓xDet_ld4, 
      World.size_drew, Nat.zero_add, cell_drew, frozen_drew, cell_set_eq, cell_set_o, cell_set_b, Option.map_some, World.frozen?_setCell, decide_true, decide_false, List.not_mem_nil, not_false_eq_true, ↓xGuard_tt, Bool.not_true, 
      Bool.not_false, ←decide_not, ↓ld_3, ↓ld_23, ↓fa_23_0, ↓fa_23_1, ↓fa_23_2, ↓fa_34_0, ↓fa_34_1, ↓al_34, ↓st_34, ↓eb_4, e1_0, g1]
    exact ⟨trivial, by (repeat (first | exact Ext.refl _ _ | refine Ext.alloc' ?_ _ | refine Ext.drew' ?_ | refine Ext.set' ?_ (.inr (by first | omega | (simp only [World.size_alloc, World.size_drew, World.size_setCell] <;> omega))) | assumption | refine Ext.trans ?_ (by assumption)))⟩
  by_cases g2 : 1048576 < n
  · simp (disch := (first | omega | (simp only [World.size_alloc, World.size_setCell, World.size_drew, List.mem_cons, List.not_mem_nil, or_false, not_false_eq_true] <;> omega) | fail)) only [↓xBox_r, ↓loadK_some, ↓loadsK_s, ↓loadsK_n, ↓loadsR_s, ↓loadsR_n, ↓storesK_s, ↓storesK_n, setCells_c, setCells_n, World.setCell_alloc_at, World.setCell_alloc_past, World.cell?_alloc_at, World.cell?_alloc_past, 
      World.frozen?_alloc_at, World.frozen?_alloc_past, World.size_alloc, ↓xPick_t, ↓xPick_f, ↓xGuard_tt, ↓xGuard_ff, ↓xGuard_tf, ↓xGuard_ft, ↓xIf_t, tick_eq, tickV_eq, ne_eq, not_true_eq_false, Int.reduceEq, Int.reduceLT, Int.reduceLE, 
      Bool.false_and, Bool.true_and, Bool.and_true, Bool.and_false, ↓xBin_add', ↓xBin_sub', ↓xBin_mul', ↓xBin_quo', ↓xBin_rem', wrap_in, ↓xIf_f, ↓xIf_tt, ↓xEx0, ↓xEx1, ↓xEx2, ↓xEx3, ↓xBin_eqs, ↓xBin_nes, ↓xUn_not, ↓u8_add, 
      ↓u8_sub, ↓u8_com, ↓u8_eql, ↓u8_neq, ↓u8_lss, ↓u8_leq, ↓u8_gtr, ↓u8_geq, ↓u16_add, ↓u16_sub, ↓u16_com, ↓u16_eql, ↓u16_neq, ↓u16_lss, ↓u16_leq, ↓u16_gtr, ↓u16_geq, ↓u32_add, ↓u32_sub, ↓u32_com, ↓u32_eql, ↓u32_neq, 
      ↓u32_lss, ↓u32_leq, ↓u32_gtr, ↓u32_geq, ↓u64_add, ↓u64_sub, ↓u64_com, ↓u64_eql, ↓u64_neq, ↓u64_lss, ↓u64_leq, ↓u64_gtr, ↓u64_geq, ↓i64_lss, ↓i64_leq, ↓i64_gtr, ↓i64_geq, ↓i64_eql, ↓i64_neq, ↓i64_neg, Int.toNat_natCast, 
      Int.reduceToNat, Nat.reduceMul, Nat.reduceAdd, Nat.reduceSub, Nat.mul_one, List.nil_append, List.cons_append, List.getElem?_toArray, List.getElem?_cons_zero, List.getElem?_cons_succ, cells_int, cells_bool, cells_string, 
      cells_slice, cells_pointer, cells_agg, one_int, one_bool, one_string, one_slice, one_pointer, List.setIfInBounds_toArray, List.set_cons_zero, List.set_cons_succ, ↓xDet_s, ↓xDet_ld, ↓xDet_ld2, ↓xDet_ld3, ↓xDet_ld4, 
      World.size_drew, Nat.zero_add, cell_drew, frozen_drew, cell_set_eq, cell_set_o, cell_set_b, Option.map_some, World.frozen?_setCell, decide_true, decide_false, List.not_mem_nil, not_false_eq_true, ↓xGuard_tt, Bool.not_true, 
      Bool.not_false, ←decide_not, ↓ld_3, ↓ld_23, ↓fa_23_0, ↓fa_23_1, ↓fa_23_2, ↓fa_34_0, ↓fa_34_1, ↓al_34, ↓st_34, ↓eb_4, e1_0, g1, g2]
    exact ⟨trivial, by (repeat (first | exact Ext.refl _ _ | refine Ext.alloc' ?_ _ | refine Ext.drew' ?_ | refine Ext.set' ?_ (.inr (by first | omega | (simp only [World.size_alloc, World.size_drew, World.size_setCell] <;> omega))) | assumption | refine Ext.trans ?_ (by assumption)))⟩
  by_cases g3 : 1048576 < l
  · simp (disch := (first | omega | (simp only [World.size_alloc, World.size_setCell, World.size_drew, List.mem_cons, List.not_mem_nil, or_false, not_false_eq_true] <;> omega) | fail)) only [↓xBox_r, ↓loadK_some, ↓loadsK_s, ↓loadsK_n, ↓loadsR_s, ↓loadsR_n, ↓storesK_s, ↓storesK_n, setCells_c, setCells_n, World.setCell_alloc_at, World.setCell_alloc_past, World.cell?_alloc_at, World.cell?_alloc_past, 
      World.frozen?_alloc_at, World.frozen?_alloc_past, World.size_alloc, ↓xPick_t, ↓xPick_f, ↓xGuard_tt, ↓xGuard_ff, ↓xGuard_tf, ↓xGuard_ft, ↓xIf_t, tick_eq, tickV_eq, ne_eq, not_true_eq_false, Int.reduceEq, Int.reduceLT, Int.reduceLE, 
      Bool.false_and, Bool.true_and, Bool.and_true, Bool.and_false, ↓xBin_add', ↓xBin_sub', ↓xBin_mul', ↓xBin_quo', ↓xBin_rem', wrap_in, ↓xIf_f, ↓xIf_tt, ↓xEx0, ↓xEx1, ↓xEx2, ↓xEx3, ↓xBin_eqs, ↓xBin_nes, ↓xUn_not, ↓u8_add, 
      ↓u8_sub, ↓u8_com, ↓u8_eql, ↓u8_neq, ↓u8_lss, ↓u8_leq, ↓u8_gtr, ↓u8_geq, ↓u16_add, ↓u16_sub, ↓u16_com, ↓u16_eql, ↓u16_neq, ↓u16_lss, ↓u16_leq, ↓u16_gtr, ↓u16_geq, ↓u32_add, ↓u32_sub, ↓u32_com, ↓u32_eql, ↓u32_neq, 
      ↓u32_lss, ↓u32_leq, ↓u32_gtr, ↓u32_geq, ↓u64_add, ↓u64_sub, ↓u64_com, ↓u64_eql, ↓u64_neq, ↓u64_lss, ↓u64_leq, ↓u64_gtr, ↓u64_geq, ↓i64_lss, ↓i64_leq, ↓i64_gtr, ↓i64_geq, ↓i64_eql, ↓i64_neq, ↓i64_neg, Int.toNat_natCast, 
      Int.reduceToNat, Nat.reduceMul, Nat.reduceAdd, Nat.reduceSub, Nat.mul_one, List.nil_append, List.cons_append, List.getElem?_toArray, List.getElem?_cons_zero, List.getElem?_cons_succ, cells_int, cells_bool, cells_string, 
      cells_slice, cells_pointer, cells_agg, one_int, one_bool, one_string, one_slice, one_pointer, List.setIfInBounds_toArray, List.set_cons_zero, List.set_cons_succ, ↓xDet_s, ↓xDet_ld, ↓xDet_ld2, ↓xDet_ld3, ↓xDet_ld4, 
      World.size_drew, Nat.zero_add, cell_drew, frozen_drew, cell_set_eq, cell_set_o, cell_set_b, Option.map_some, World.frozen?_setCell, decide_true, decide_false, List.not_mem_nil, not_false_eq_true, ↓xGuard_tt, Bool.not_true, 
      Bool.not_false, ←decide_not, ↓ld_3, ↓ld_23, ↓fa_23_0, ↓fa_23_1, ↓fa_23_2, ↓fa_34_0, ↓fa_34_1, ↓al_34, ↓st_34, ↓eb_4, e1_0, g1, g2, g3]
    exact ⟨trivial, by (repeat (first | exact Ext.refl _ _ | refine Ext.alloc' ?_ _ | refine Ext.drew' ?_ | refine Ext.set' ?_ (.inr (by first | omega | (simp only [World.size_alloc, World.size_drew, World.size_setCell] <;> omega))) | assumption | refine Ext.trans ?_ (by assumption)))⟩
  simp (disch := (first | omega | (simp only [World.size_alloc, World.size_setCell, World.size_drew, List.mem_cons, List.not_mem_nil, or_false, not_false_eq_true] <;> omega) | fail)) only [↓xBox_r, ↓loadK_some, ↓loadsK_s, ↓loadsK_n, ↓loadsR_s, ↓loadsR_n, ↓storesK_s, ↓storesK_n, setCells_c, setCells_n, World.setCell_alloc_at, World.setCell_alloc_past, World.cell?_alloc_at, World.cell?_alloc_past, 
      World.frozen?_alloc_at, World.frozen?_alloc_past, World.size_alloc, ↓xPick_t, ↓xPick_f, ↓xGuard_tt, ↓xGuard_ff, ↓xGuard_tf, ↓xGuard_ft, ↓xIf_t, tick_eq, tickV_eq, ne_eq, not_true_eq_false, Int.reduceEq, Int.reduceLT, Int.reduceLE, 
      Bool.false_and, Bool.true_and, Bool.and_true, Bool.and_false, ↓xBin_add', ↓xBin_sub', ↓xBin_mul', ↓xBin_quo', ↓xBin_rem', wrap_in, ↓xIf_f, ↓xIf_tt, ↓xEx0, ↓xEx1, ↓xEx2, ↓xEx3, ↓xBin_eqs, ↓xBin_nes, ↓xUn_not, ↓u8_add, 
      ↓u8_sub, ↓u8_com, ↓u8_eql, ↓u8_neq, ↓u8_lss, ↓u8_leq, ↓u8_gtr, ↓u8_geq, ↓u16_add, ↓u16_sub, ↓u16_com, ↓u16_eql, ↓u16_neq, ↓u16_lss, ↓u16_leq, ↓u16_gtr, ↓u16_geq, ↓u32_add, ↓u32_sub, ↓u32_com, ↓u32_eql, ↓u32_neq, 
      ↓u32_lss, ↓u32_leq, ↓u32_gtr, ↓u32_geq, ↓u64_add, ↓u64_sub, ↓u64_com, ↓u64_eql, ↓u64_neq, ↓u64_lss, ↓u64_leq, ↓u64_gtr, ↓u64_geq, ↓i64_lss, ↓i64_leq, ↓i64_gtr, ↓i64_geq, ↓i64_eql, ↓i64_neq, ↓i64_neg, Int.toNat_natCast, 
      Int.reduceToNat, Nat.reduceMul, Nat.reduceAdd, Nat.reduceSub, Nat.mul_one, List.nil_append, List.cons_append, List.getElem?_toArray, List.getElem?_cons_zero, List.getElem?_cons_succ, cells_int, cells_bool, cells_string, 
      cells_slice, cells_pointer, cells_agg, one_int, one_bool, one_string, one_slice, one_pointer, List.setIfInBounds_toArray, List.set_cons_zero, List.set_cons_succ, ↓xDet_s, ↓xDet_ld, ↓xDet_ld2, ↓xDet_ld3, ↓xDet_ld4, 
      World.size_drew, Nat.zero_add, cell_drew, frozen_drew, cell_set_eq, cell_set_o, cell_set_b, Option.map_some, World.frozen?_setCell, decide_true, decide_false, List.not_mem_nil, not_false_eq_true, ↓xGuard_tt, Bool.not_true, 
      Bool.not_false, ←decide_not, ↓ld_3, ↓ld_23, ↓fa_23_0, ↓fa_23_1, ↓fa_23_2, ↓fa_34_0, ↓fa_34_1, ↓al_34, ↓st_34, ↓eb_4, e1_0, g1, g2, g3]
  refine geom_Check_call (Gives.to (Check_spec _ _ _ _) fun w2 E2 => ?_)
  have z2 := E2.size
  try simp only [World.size_alloc, World.size_setCell, World.size_drew] at z2
  have e2_0 : ∀ o, w2.cell? ⟨w.heap.size, o, none⟩ = _ := fun o => E2.cell_o (by first | omega | (simp only [World.size_alloc, World.size_setCell, World.size_drew] <;> omega))
  by_cases g6 : badGeom s l n
  · simp (disch := (first | omega | (simp only [World.size_alloc, World.size_setCell, World.size_drew, List.mem_cons, List.not_mem_nil, or_false, not_false_eq_true] <;> omega) | fail)) only [↓xBox_r, ↓loadK_some, ↓loadsK_s, ↓loadsK_n, ↓loadsR_s, ↓loadsR_n, ↓storesK_s, ↓storesK_n, setCells_c, setCells_n, World.setCell_alloc_at, World.setCell_alloc_past, World.cell?_alloc_at, World.cell?_alloc_past, 
      World.frozen?_alloc_at, World.frozen?_alloc_past, World.size_alloc, ↓xPick_t, ↓xPick_f, ↓xGuard_tt, ↓xGuard_ff, ↓xGuard_tf, ↓xGuard_ft, ↓xIf_t, tick_eq, tickV_eq, ne_eq, not_true_eq_false, Int.reduceEq, Int.reduceLT, Int.reduceLE, 
      Bool.false_and, Bool.true_and, Bool.and_true, Bool.and_false, ↓xBin_add', ↓xBin_sub', ↓xBin_mul', ↓xBin_quo', ↓xBin_rem', wrap_in, ↓xIf_f, ↓xIf_tt, ↓xEx0, ↓xEx1, ↓xEx2, ↓xEx3, ↓xBin_eqs, ↓xBin_nes, ↓xUn_not, ↓u8_add, 
      ↓u8_sub, ↓u8_com, ↓u8_eql, ↓u8_neq, ↓u8_lss, ↓u8_leq, ↓u8_gtr, ↓u8_geq, ↓u16_add, ↓u16_sub, ↓u16_com, ↓u16_eql, ↓u16_neq, ↓u16_lss, ↓u16_leq, ↓u16_gtr, ↓u16_geq, ↓u32_add, ↓u32_sub, ↓u32_com, ↓u32_eql, ↓u32_neq, 
      ↓u32_lss, ↓u32_leq, ↓u32_gtr, ↓u32_geq, ↓u64_add, ↓u64_sub, ↓u64_com, ↓u64_eql, ↓u64_neq, ↓u64_lss, ↓u64_leq, ↓u64_gtr, ↓u64_geq, ↓i64_lss, ↓i64_leq, ↓i64_gtr, ↓i64_geq, ↓i64_eql, ↓i64_neq, ↓i64_neg, Int.toNat_natCast, 
      Int.reduceToNat, Nat.reduceMul, Nat.reduceAdd, Nat.reduceSub, Nat.mul_one, List.nil_append, List.cons_append, List.getElem?_toArray, List.getElem?_cons_zero, List.getElem?_cons_succ, cells_int, cells_bool, cells_string, 
      cells_slice, cells_pointer, cells_agg, one_int, one_bool, one_string, one_slice, one_pointer, List.setIfInBounds_toArray, List.set_cons_zero, List.set_cons_succ, ↓xDet_s, ↓xDet_ld, ↓xDet_ld2, ↓xDet_ld3, ↓xDet_ld4, 
      World.size_drew, Nat.zero_add, cell_drew, frozen_drew, cell_set_eq, cell_set_o, cell_set_b, Option.map_some, World.frozen?_setCell, decide_true, decide_false, List.not_mem_nil, not_false_eq_true, ↓xGuard_tt, Bool.not_true, 
      Bool.not_false, ←decide_not, ↓ld_3, ↓ld_23, ↓fa_23_0, ↓fa_23_1, ↓fa_23_2, ↓fa_34_0, ↓fa_34_1, ↓al_34, ↓st_34, ↓eb_4, e1_0, e2_0, g3, checkV_1 g6]
    exact ⟨trivial, by (repeat (first | exact Ext.refl _ _ | refine Ext.alloc' ?_ _ | refine Ext.drew' ?_ | refine Ext.set' ?_ (.inr (by first | omega | (simp only [World.size_alloc, World.size_drew, World.size_setCell] <;> omega))) | assumption | refine Ext.trans ?_ (by assumption)))⟩
  have hf := fit_of g6
  obtain ⟨s0, s1, l0, l1, n0, n1⟩ := fit_of g6
  have h8 : s % 8 = 0 := by unfold badGeom at g6; omega
  have ho := one_le s n (by omega) n0
  simp (disch := (first | omega | (simp only [World.size_alloc, World.size_setCell, World.size_drew, List.mem_cons, List.not_mem_nil, or_false, not_false_eq_true] <;> omega) | fail)) only [↓xBox_r, ↓loadK_some, ↓loadsK_s, ↓loadsK_n, ↓loadsR_s, ↓loadsR_n, ↓storesK_s, ↓storesK_n, setCells_c, setCells_n, World.setCell_alloc_at, World.setCell_alloc_past, World.cell?_alloc_at, World.cell?_alloc_past, 
      World.frozen?_alloc_at, World.frozen?_alloc_past, World.size_alloc, ↓xPick_t, ↓xPick_f, ↓xGuard_tt, ↓xGuard_ff, ↓xGuard_tf, ↓xGuard_ft, ↓xIf_t, tick_eq, tickV_eq, ne_eq, not_true_eq_false, Int.reduceEq, Int.reduceLT, Int.reduceLE, 
      Bool.false_and, Bool.true_and, Bool.and_true, Bool.and_false, ↓xBin_add', ↓xBin_sub', ↓xBin_mul', ↓xBin_quo', ↓xBin_rem', wrap_in, ↓xIf_f, ↓xIf_tt, ↓xEx0, ↓xEx1, ↓xEx2, ↓xEx3, ↓xBin_eqs, ↓xBin_nes, ↓xUn_not, ↓u8_add, 
      ↓u8_sub, ↓u8_com, ↓u8_eql, ↓u8_neq, ↓u8_lss, ↓u8_leq, ↓u8_gtr, ↓u8_geq, ↓u16_add, ↓u16_sub, ↓u16_com, ↓u16_eql, ↓u16_neq, ↓u16_lss, ↓u16_leq, ↓u16_gtr, ↓u16_geq, ↓u32_add, ↓u32_sub, ↓u32_com, ↓u32_eql, ↓u32_neq, 
      ↓u32_lss, ↓u32_leq, ↓u32_gtr, ↓u32_geq, ↓u64_add, ↓u64_sub, ↓u64_com, ↓u64_eql, ↓u64_neq, ↓u64_lss, ↓u64_leq, ↓u64_gtr, ↓u64_geq, ↓i64_lss, ↓i64_leq, ↓i64_gtr, ↓i64_geq, ↓i64_eql, ↓i64_neq, ↓i64_neg, Int.toNat_natCast, 
      Int.reduceToNat, Nat.reduceMul, Nat.reduceAdd, Nat.reduceSub, Nat.mul_one, List.nil_append, List.cons_append, List.getElem?_toArray, List.getElem?_cons_zero, List.getElem?_cons_succ, cells_int, cells_bool, cells_string, 
      cells_slice, cells_pointer, cells_agg, one_int, one_bool, one_string, one_slice, one_pointer, List.setIfInBounds_toArray, List.set_cons_zero, List.set_cons_succ, ↓xDet_s, ↓xDet_ld, ↓xDet_ld2, ↓xDet_ld3, ↓xDet_ld4, 
      World.size_drew, Nat.zero_add, cell_drew, frozen_drew, cell_set_eq, cell_set_o, cell_set_b, Option.map_some, World.frozen?_setCell, decide_true, decide_false, List.not_mem_nil, not_false_eq_true, ↓xGuard_tt, Bool.not_true, 
      Bool.not_false, ←decide_not, ↓ld_3, ↓ld_23, ↓fa_23_0, ↓fa_23_1, ↓fa_23_2, ↓fa_34_0, ↓fa_34_1, ↓al_34, ↓st_34, ↓eb_4, e1_0, e2_0, g3, checkV_0 g6]
  refine geom_Log_call (Gives.to (Log_spec _ _ _ _) fun w3 E3 => ?_)
  have z3 := E3.size
  try simp only [World.size_alloc, World.size_setCell, World.size_drew] at z3
  have e3_0 : ∀ o, w3.cell? ⟨w.heap.size, o, none⟩ = _ := fun o => E3.cell_o (by first | omega | (simp only [World.size_alloc, World.size_setCell, World.size_drew] <;> omega))
  simp (disch := (first | omega | (simp only [World.size_alloc, World.size_setCell, World.size_drew, List.mem_cons, List.not_mem_nil, or_false, not_false_eq_true] <;> omega) | fail)) only [↓xBox_r, ↓loadK_some, ↓loadsK_s, ↓loadsK_n, ↓loadsR_s, ↓loadsR_n, ↓storesK_s, ↓storesK_n, setCells_c, setCells_n, World.setCell_alloc_at, World.setCell_alloc_past, World.cell?_alloc_at, World.cell?_alloc_past, 
      World.frozen?_alloc_at, World.frozen?_alloc_past, World.size_alloc, ↓xPick_t, ↓xPick_f, ↓xGuard_tt, ↓xGuard_ff, ↓xGuard_tf, ↓xGuard_ft, ↓xIf_t, tick_eq, tickV_eq, ne_eq, not_true_eq_false, Int.reduceEq, Int.reduceLT, Int.reduceLE, 
      Bool.false_and, Bool.true_and, Bool.and_true, Bool.and_false, ↓xBin_add', ↓xBin_sub', ↓xBin_mul', ↓xBin_quo', ↓xBin_rem', wrap_in, ↓xIf_f, ↓xIf_tt, ↓xEx0, ↓xEx1, ↓xEx2, ↓xEx3, ↓xBin_eqs, ↓xBin_nes, ↓xUn_not, ↓u8_add, 
      ↓u8_sub, ↓u8_com, ↓u8_eql, ↓u8_neq, ↓u8_lss, ↓u8_leq, ↓u8_gtr, ↓u8_geq, ↓u16_add, ↓u16_sub, ↓u16_com, ↓u16_eql, ↓u16_neq, ↓u16_lss, ↓u16_leq, ↓u16_gtr, ↓u16_geq, ↓u32_add, ↓u32_sub, ↓u32_com, ↓u32_eql, ↓u32_neq, 
      ↓u32_lss, ↓u32_leq, ↓u32_gtr, ↓u32_geq, ↓u64_add, ↓u64_sub, ↓u64_com, ↓u64_eql, ↓u64_neq, ↓u64_lss, ↓u64_leq, ↓u64_gtr, ↓u64_geq, ↓i64_lss, ↓i64_leq, ↓i64_gtr, ↓i64_geq, ↓i64_eql, ↓i64_neq, ↓i64_neg, Int.toNat_natCast, 
      Int.reduceToNat, Nat.reduceMul, Nat.reduceAdd, Nat.reduceSub, Nat.mul_one, List.nil_append, List.cons_append, List.getElem?_toArray, List.getElem?_cons_zero, List.getElem?_cons_succ, cells_int, cells_bool, cells_string, 
      cells_slice, cells_pointer, cells_agg, one_int, one_bool, one_string, one_slice, one_pointer, List.setIfInBounds_toArray, List.set_cons_zero, List.set_cons_succ, ↓xDet_s, ↓xDet_ld, ↓xDet_ld2, ↓xDet_ld3, ↓xDet_ld4, 
      World.size_drew, Nat.zero_add, cell_drew, frozen_drew, cell_set_eq, cell_set_o, cell_set_b, Option.map_some, World.frozen?_setCell, decide_true, decide_false, List.not_mem_nil, not_false_eq_true, ↓xGuard_tt, Bool.not_true, 
      Bool.not_false, ←decide_not, ↓ld_3, ↓ld_23, ↓fa_23_0, ↓fa_23_1, ↓fa_23_2, ↓fa_34_0, ↓fa_34_1, ↓al_34, ↓st_34, ↓eb_4, e1_0, e2_0, e3_0]
  refine geom_Space_call (Gives.to (Space_spec _ _ _ _ _ hf) fun w4 E4 => ?_)
  have z4 := E4.size
  try simp only [World.size_alloc, World.size_setCell, World.size_drew] at z4
  have e4_0 : ∀ o, w4.cell? ⟨w.heap.size, o, none⟩ = _ := fun o => E4.cell_o (by first | omega | (simp only [World.size_alloc, World.size_setCell, World.size_drew] <;> omega))
  have e4_1 : ∀ o, w4.cell? ⟨w3.heap.size, o, none⟩ = _ := fun o => E4.cell_o (by first | omega | (simp only [World.size_alloc, World.size_setCell, World.size_drew] <;> omega))
  rw [show spaceAt s l n 0 = 2 + l by simp [spaceAt], show spaceN s n 0 = one s n by simp [spaceN]]
  simp (disch := (first | omega | (simp only [World.size_alloc, World.size_setCell, World.size_drew, List.mem_cons, List.not_mem_nil, or_false, not_false_eq_true] <;> omega) | fail)) only [↓xBox_r, ↓loadK_some, ↓loadsK_s, ↓loadsK_n, ↓loadsR_s, ↓loadsR_n, ↓storesK_s, ↓storesK_n, setCells_c, setCells_n, World.setCell_alloc_at, World.setCell_alloc_past, World.cell?_alloc_at, World.cell?_alloc_past, 
      World.frozen?_alloc_at, World.frozen?_alloc_past, World.size_alloc, ↓xPick_t, ↓xPick_f, ↓xGuard_tt, ↓xGuard_ff, ↓xGuard_tf, ↓xGuard_ft, ↓xIf_t, tick_eq, tickV_eq, ne_eq, not_true_eq_false, Int.reduceEq, Int.reduceLT, Int.reduceLE, 
      Bool.false_and, Bool.true_and, Bool.and_true, Bool.and_false, ↓xBin_add', ↓xBin_sub', ↓xBin_mul', ↓xBin_quo', ↓xBin_rem', wrap_in, ↓xIf_f, ↓xIf_tt, ↓xEx0, ↓xEx1, ↓xEx2, ↓xEx3, ↓xBin_eqs, ↓xBin_nes, ↓xUn_not, ↓u8_add, 
      ↓u8_sub, ↓u8_com, ↓u8_eql, ↓u8_neq, ↓u8_lss, ↓u8_leq, ↓u8_gtr, ↓u8_geq, ↓u16_add, ↓u16_sub, ↓u16_com, ↓u16_eql, ↓u16_neq, ↓u16_lss, ↓u16_leq, ↓u16_gtr, ↓u16_geq, ↓u32_add, ↓u32_sub, ↓u32_com, ↓u32_eql, ↓u32_neq, 
      ↓u32_lss, ↓u32_leq, ↓u32_gtr, ↓u32_geq, ↓u64_add, ↓u64_sub, ↓u64_com, ↓u64_eql, ↓u64_neq, ↓u64_lss, ↓u64_leq, ↓u64_gtr, ↓u64_geq, ↓i64_lss, ↓i64_leq, ↓i64_gtr, ↓i64_geq, ↓i64_eql, ↓i64_neq, ↓i64_neg, Int.toNat_natCast, 
      Int.reduceToNat, Nat.reduceMul, Nat.reduceAdd, Nat.reduceSub, Nat.mul_one, List.nil_append, List.cons_append, List.getElem?_toArray, List.getElem?_cons_zero, List.getElem?_cons_succ, cells_int, cells_bool, cells_string, 
      cells_slice, cells_pointer, cells_agg, one_int, one_bool, one_string, one_slice, one_pointer, List.setIfInBounds_toArray, List.set_cons_zero, List.set_cons_succ, ↓xDet_s, ↓xDet_ld, ↓xDet_ld2, ↓xDet_ld3, ↓xDet_ld4, 
      World.size_drew, Nat.zero_add, cell_drew, frozen_drew, cell_set_eq, cell_set_o, cell_set_b, Option.map_some, World.frozen?_setCell, decide_true, decide_false, List.not_mem_nil, not_false_eq_true, ↓xGuard_tt, Bool.not_true, 
      Bool.not_false, ←decide_not, ↓ld_3, ↓ld_23, ↓fa_23_0, ↓fa_23_1, ↓fa_23_2, ↓fa_34_0, ↓fa_34_1, ↓al_34, ↓st_34, ↓eb_4, e1_0, e2_0, e3_0, e4_0, e4_1]
  refine geom_Space_call (Gives.to (Space_spec _ _ _ _ _ hf) fun w5 E5 => ?_)
  have z5 := E5.size
  try simp only [World.size_alloc, World.size_setCell, World.size_drew] at z5
  have e5_0 : ∀ o, w5.cell? ⟨w.heap.size, o, none⟩ = _ := fun o => E5.cell_o (by first | omega | (simp only [World.size_alloc, World.size_setCell, World.size_drew] <;> omega))
  have e5_1 : ∀ o, w5.cell? ⟨w3.heap.size, o, none⟩ = _ := fun o => E5.cell_o (by first | omega | (simp only [World.size_alloc, World.size_setCell, World.size_drew] <;> omega))
  have e5_2 : ∀ o, w5.cell? ⟨w4.heap.size, o, none⟩ = _ := fun o => E5.cell_o (by first | omega | (simp only [World.size_alloc, World.size_setCell, World.size_drew] <;> omega))
  rw [show spaceAt s l n 1 = 2 + l + one s n by simp [spaceAt], show spaceN s n 1 = one s n by simp [spaceN]]
  simp (disch := (first | omega | (simp only [World.size_alloc, World.size_setCell, World.size_drew, List.mem_cons, List.not_mem_nil, or_false, not_false_eq_true] <;> omega) | fail)) only [↓xBox_r, ↓loadK_some, ↓loadsK_s, ↓loadsK_n, ↓loadsR_s, ↓loadsR_n, ↓storesK_s, ↓storesK_n, setCells_c, setCells_n, World.setCell_alloc_at, World.setCell_alloc_past, World.cell?_alloc_at, World.cell?_alloc_past, 
      World.frozen?_alloc_at, World.frozen?_alloc_past, World.size_alloc, ↓xPick_t, ↓xPick_f, ↓xGuard_tt, ↓xGuard_ff, ↓xGuard_tf, ↓xGuard_ft, ↓xIf_t, tick_eq, tickV_eq, ne_eq, not_true_eq_false, Int.reduceEq, Int.reduceLT, Int.reduceLE, 
      Bool.false_and, Bool.true_and, Bool.and_true, Bool.and_false, ↓xBin_add', ↓xBin_sub', ↓xBin_mul', ↓xBin_quo', ↓xBin_rem', wrap_in, ↓xIf_f, ↓xIf_tt, ↓xEx0, ↓xEx1, ↓xEx2, ↓xEx3, ↓xBin_eqs, ↓xBin_nes, ↓xUn_not, ↓u8_add, 
      ↓u8_sub, ↓u8_com, ↓u8_eql, ↓u8_neq, ↓u8_lss, ↓u8_leq, ↓u8_gtr, ↓u8_geq, ↓u16_add, ↓u16_sub, ↓u16_com, ↓u16_eql, ↓u16_neq, ↓u16_lss, ↓u16_leq, ↓u16_gtr, ↓u16_geq, ↓u32_add, ↓u32_sub, ↓u32_com, ↓u32_eql, ↓u32_neq, 
      ↓u32_lss, ↓u32_leq, ↓u32_gtr, ↓u32_geq, ↓u64_add, ↓u64_sub, ↓u64_com, ↓u64_eql, ↓u64_neq, ↓u64_lss, ↓u64_leq, ↓u64_gtr, ↓u64_geq, ↓i64_lss, ↓i64_leq, ↓i64_gtr, ↓i64_geq, ↓i64_eql, ↓i64_neq, ↓i64_neg, Int.toNat_natCast, 
      Int.reduceToNat, Nat.reduceMul, Nat.reduceAdd, Nat.reduceSub, Nat.mul_one, List.nil_append, List.cons_append, List.getElem?_toArray, List.getElem?_cons_zero, List.getElem?_cons_succ, cells_int, cells_bool, cells_string, 
      cells_slice, cells_pointer, cells_agg, one_int, one_bool, one_string, one_slice, one_pointer, List.setIfInBounds_toArray, List.set_cons_zero, List.set_cons_succ, ↓xDet_s, ↓xDet_ld, ↓xDet_ld2, ↓xDet_ld3, ↓xDet_ld4, 
      World.size_drew, Nat.zero_add, cell_drew, frozen_drew, cell_set_eq, cell_set_o, cell_set_b, Option.map_some, World.frozen?_setCell, decide_true, decide_false, List.not_mem_nil, not_false_eq_true, ↓xGuard_tt, Bool.not_true, 
      Bool.not_false, ←decide_not, ↓ld_3, ↓ld_23, ↓fa_23_0, ↓fa_23_1, ↓fa_23_2, ↓fa_34_0, ↓fa_34_1, ↓al_34, ↓st_34, ↓eb_4, e1_0, e2_0, e3_0, e4_0, e4_1, e5_0, e5_1, e5_2]
  refine xDraw_ext [] [] ?_
  simp (disch := (first | omega | (simp only [World.size_alloc, World.size_setCell, World.size_drew, List.mem_cons, List.not_mem_nil, or_false, not_false_eq_true] <;> omega) | fail)) only [↓xBox_r, ↓loadK_some, ↓loadsK_s, ↓loadsK_n, ↓loadsR_s, ↓loadsR_n, ↓storesK_s, ↓storesK_n, setCells_c, setCells_n, World.setCell_alloc_at, World.setCell_alloc_past, World.cell?_alloc_at, World.cell?_alloc_past, 
      World.frozen?_alloc_at, World.frozen?_alloc_past, World.size_alloc, ↓xPick_t, ↓xPick_f, ↓xGuard_tt, ↓xGuard_ff, ↓xGuard_tf, ↓xGuard_ft, ↓xIf_t, tick_eq, tickV_eq, ne_eq, not_true_eq_false, Int.reduceEq, Int.reduceLT, Int.reduceLE, 
      Bool.false_and, Bool.true_and, Bool.and_true, Bool.and_false, ↓xBin_add', ↓xBin_sub', ↓xBin_mul', ↓xBin_quo', ↓xBin_rem', wrap_in, ↓xIf_f, ↓xIf_tt, ↓xEx0, ↓xEx1, ↓xEx2, ↓xEx3, ↓xBin_eqs, ↓xBin_nes, ↓xUn_not, ↓u8_add, 
      ↓u8_sub, ↓u8_com, ↓u8_eql, ↓u8_neq, ↓u8_lss, ↓u8_leq, ↓u8_gtr, ↓u8_geq, ↓u16_add, ↓u16_sub, ↓u16_com, ↓u16_eql, ↓u16_neq, ↓u16_lss, ↓u16_leq, ↓u16_gtr, ↓u16_geq, ↓u32_add, ↓u32_sub, ↓u32_com, ↓u32_eql, ↓u32_neq, 
      ↓u32_lss, ↓u32_leq, ↓u32_gtr, ↓u32_geq, ↓u64_add, ↓u64_sub, ↓u64_com, ↓u64_eql, ↓u64_neq, ↓u64_lss, ↓u64_leq, ↓u64_gtr, ↓u64_geq, ↓i64_lss, ↓i64_leq, ↓i64_gtr, ↓i64_geq, ↓i64_eql, ↓i64_neq, ↓i64_neg, Int.toNat_natCast, 
      Int.reduceToNat, Nat.reduceMul, Nat.reduceAdd, Nat.reduceSub, Nat.mul_one, List.nil_append, List.cons_append, List.getElem?_toArray, List.getElem?_cons_zero, List.getElem?_cons_succ, cells_int, cells_bool, cells_string, 
      cells_slice, cells_pointer, cells_agg, one_int, one_bool, one_string, one_slice, one_pointer, List.setIfInBounds_toArray, List.set_cons_zero, List.set_cons_succ, ↓xDet_s, ↓xDet_ld, ↓xDet_ld2, ↓xDet_ld3, ↓xDet_ld4, 
      World.size_drew, Nat.zero_add, cell_drew, frozen_drew, cell_set_eq, cell_set_o, cell_set_b, Option.map_some, World.frozen?_setCell, decide_true, decide_false, List.not_mem_nil, not_false_eq_true, ↓xGuard_tt, Bool.not_true, 
      Bool.not_false, ←decide_not, ↓ld_3, ↓ld_23, ↓fa_23_0, ↓fa_23_1, ↓fa_23_2, ↓fa_34_0, ↓fa_34_1, ↓al_34, ↓st_34, ↓eb_4, e1_0, e2_0, e3_0, e4_0, e4_1, e5_0, e5_1, e5_2]
  apply xDet_x
  · exact fun w hw => geom_Sectors_call (Gives.lq (Sectors_spec s l n _ (by omega) (by omega) (by omega) (by omega) (by omega) (by omega)))
  have hq : 2 + l + 2 * ((n * 8 + s - 1) / s + (n + 32 - 1) / 32) = 2 + l + one s n + one s n := by unfold one; omega
  simp (disch := (first | omega | (simp only [World.size_alloc, World.size_setCell, World.size_drew, List.mem_cons, List.not_mem_nil, or_false, not_false_eq_true] <;> omega) | fail)) only [↓xBox_r, ↓loadK_some, ↓loadsK_s, ↓loadsK_n, ↓loadsR_s, ↓loadsR_n, ↓storesK_s, ↓storesK_n, setCells_c, setCells_n, World.setCell_alloc_at, World.setCell_alloc_past, World.cell?_alloc_at, World.cell?_alloc_past, 
      World.frozen?_alloc_at, World.frozen?_alloc_past, World.size_alloc, ↓xPick_t, ↓xPick_f, ↓xGuard_tt, ↓xGuard_ff, ↓xGuard_tf, ↓xGuard_ft, ↓xIf_t, tick_eq, tickV_eq, ne_eq, not_true_eq_false, Int.reduceEq, Int.reduceLT, Int.reduceLE, 
      Bool.false_and, Bool.true_and, Bool.and_true, Bool.and_false, ↓xBin_add', ↓xBin_sub', ↓xBin_mul', ↓xBin_quo', ↓xBin_rem', wrap_in, ↓xIf_f, ↓xIf_tt, ↓xEx0, ↓xEx1, ↓xEx2, ↓xEx3, ↓xBin_eqs, ↓xBin_nes, ↓xUn_not, ↓u8_add, 
      ↓u8_sub, ↓u8_com, ↓u8_eql, ↓u8_neq, ↓u8_lss, ↓u8_leq, ↓u8_gtr, ↓u8_geq, ↓u16_add, ↓u16_sub, ↓u16_com, ↓u16_eql, ↓u16_neq, ↓u16_lss, ↓u16_leq, ↓u16_gtr, ↓u16_geq, ↓u32_add, ↓u32_sub, ↓u32_com, ↓u32_eql, ↓u32_neq, 
      ↓u32_lss, ↓u32_leq, ↓u32_gtr, ↓u32_geq, ↓u64_add, ↓u64_sub, ↓u64_com, ↓u64_eql, ↓u64_neq, ↓u64_lss, ↓u64_leq, ↓u64_gtr, ↓u64_geq, ↓i64_lss, ↓i64_leq, ↓i64_gtr, ↓i64_geq, ↓i64_eql, ↓i64_neq, ↓i64_neg, Int.toNat_natCast, 
      Int.reduceToNat, Nat.reduceMul, Nat.reduceAdd, Nat.reduceSub, Nat.mul_one, List.nil_append, List.cons_append, List.getElem?_toArray, List.getElem?_cons_zero, List.getElem?_cons_succ, cells_int, cells_bool, cells_string, 
      cells_slice, cells_pointer, cells_agg, one_int, one_bool, one_string, one_slice, one_pointer, List.setIfInBounds_toArray, List.set_cons_zero, List.set_cons_succ, ↓xDet_s, ↓xDet_ld, ↓xDet_ld2, ↓xDet_ld3, ↓xDet_ld4, 
      World.size_drew, Nat.zero_add, cell_drew, frozen_drew, cell_set_eq, cell_set_o, cell_set_b, Option.map_some, World.frozen?_setCell, decide_true, decide_false, List.not_mem_nil, not_false_eq_true, ↓xGuard_tt, Bool.not_true, 
      Bool.not_false, ←decide_not, ↓ld_3, ↓ld_23, ↓fa_23_0, ↓fa_23_1, ↓fa_23_2, ↓fa_34_0, ↓fa_34_1, ↓al_34, ↓st_34, ↓eb_4, e1_0, e2_0, e3_0, e4_0, e4_1, e5_0, e5_1, e5_2, hq]
  refine xEnd_i fun w9 hw => ?_
  have E9 := hw.ext
  have z9 := E9.size
  try simp only [World.size_alloc, World.size_setCell, World.size_drew] at z9
  have e9_0 : ∀ o, w9.cell? ⟨w.heap.size, o, none⟩ = _ := fun o => E9.cell_o (by simp only [World.size_alloc, World.size_drew]; omega)
  have e9_1 : ∀ o, w9.cell? ⟨w3.heap.size, o, none⟩ = _ := fun o => E9.cell_o (by simp only [World.size_alloc, World.size_drew]; omega)
  have e9_2 : ∀ o, w9.cell? ⟨w4.heap.size, o, none⟩ = _ := fun o => E9.cell_o (by simp only [World.size_alloc, World.size_drew]; omega)
  have e9_3 : ∀ o, w9.cell? ⟨w5.heap.size, o, none⟩ = _ := fun o => E9.cell_o (by simp only [World.size_alloc, World.size_drew]; omega)
  by_cases g7 : a < 0
  · simp (disch := (first | omega | (simp only [World.size_alloc, World.size_setCell, World.size_drew, List.mem_cons, List.not_mem_nil, or_false, not_false_eq_true] <;> omega) | fail)) only [↓xBox_r, ↓loadK_some, ↓loadsK_s, ↓loadsK_n, ↓loadsR_s, ↓loadsR_n, ↓storesK_s, ↓storesK_n, setCells_c, setCells_n, World.setCell_alloc_at, World.setCell_alloc_past, World.cell?_alloc_at, World.cell?_alloc_past, 
      World.frozen?_alloc_at, World.frozen?_alloc_past, World.size_alloc, ↓xPick_t, ↓xPick_f, ↓xGuard_tt, ↓xGuard_ff, ↓xGuard_tf, ↓xGuard_ft, ↓xIf_t, tick_eq, tickV_eq, ne_eq, not_true_eq_false, Int.reduceEq, Int.reduceLT, Int.reduceLE, 
      Bool.false_and, Bool.true_and, Bool.and_true, Bool.and_false, ↓xBin_add', ↓xBin_sub', ↓xBin_mul', ↓xBin_quo', ↓xBin_rem', wrap_in, ↓xIf_f, ↓xIf_tt, ↓xEx0, ↓xEx1, ↓xEx2, ↓xEx3, ↓xBin_eqs, ↓xBin_nes, ↓xUn_not, ↓u8_add, 
      ↓u8_sub, ↓u8_com, ↓u8_eql, ↓u8_neq, ↓u8_lss, ↓u8_leq, ↓u8_gtr, ↓u8_geq, ↓u16_add, ↓u16_sub, ↓u16_com, ↓u16_eql, ↓u16_neq, ↓u16_lss, ↓u16_leq, ↓u16_gtr, ↓u16_geq, ↓u32_add, ↓u32_sub, ↓u32_com, ↓u32_eql, ↓u32_neq, 
      ↓u32_lss, ↓u32_leq, ↓u32_gtr, ↓u32_geq, ↓u64_add, ↓u64_sub, ↓u64_com, ↓u64_eql, ↓u64_neq, ↓u64_lss, ↓u64_leq, ↓u64_gtr, ↓u64_geq, ↓i64_lss, ↓i64_leq, ↓i64_gtr, ↓i64_geq, ↓i64_eql, ↓i64_neq, ↓i64_neg, Int.toNat_natCast, 
      Int.reduceToNat, Nat.reduceMul, Nat.reduceAdd, Nat.reduceSub, Nat.mul_one, List.nil_append, List.cons_append, List.getElem?_toArray, List.getElem?_cons_zero, List.getElem?_cons_succ, cells_int, cells_bool, cells_string, 
      cells_slice, cells_pointer, cells_agg, one_int, one_bool, one_string, one_slice, one_pointer, List.setIfInBounds_toArray, List.set_cons_zero, List.set_cons_succ, ↓xDet_s, ↓xDet_ld, ↓xDet_ld2, ↓xDet_ld3, ↓xDet_ld4, 
      World.size_drew, Nat.zero_add, cell_drew, frozen_drew, cell_set_eq, cell_set_o, cell_set_b, Option.map_some, World.frozen?_setCell, decide_true, decide_false, List.not_mem_nil, not_false_eq_true, ↓xGuard_tt, Bool.not_true, 
      Bool.not_false, ←decide_not, ↓ld_3, ↓ld_23, ↓fa_23_0, ↓fa_23_1, ↓fa_23_2, ↓fa_34_0, ↓fa_34_1, ↓al_34, ↓st_34, ↓eb_4, e1_0, e2_0, e3_0, e4_0, e4_1, e5_0, e5_1, e5_2, e9_0, e9_1, e9_2, e9_3, g7]
    exact ⟨trivial, by (repeat (first | exact Ext.refl _ _ | refine Ext.alloc' ?_ _ | refine Ext.drew' ?_ | refine Ext.set' ?_ (.inr (by first | omega | (simp only [World.size_alloc, World.size_drew, World.size_setCell] <;> omega))) | assumption | refine Ext.trans ?_ (by assumption)))⟩
  by_cases g8 : n ≤ a
  · simp (disch := (first | omega | (simp only [World.size_alloc, World.size_setCell, World.size_drew, List.mem_cons, List.not_mem_nil, or_false, not_false_eq_true] <;> omega) | fail)) only [↓xBox_r, ↓loadK_some, ↓loadsK_s, ↓loadsK_n, ↓loadsR_s, ↓loadsR_n, ↓storesK_s, ↓storesK_n, setCells_c, setCells_n, World.setCell_alloc_at, World.setCell_alloc_past, World.cell?_alloc_at, World.cell?_alloc_past, 
      World.frozen?_alloc_at, World.frozen?_alloc_past, World.size_alloc, ↓xPick_t, ↓xPick_f, ↓xGuard_tt, ↓xGuard_ff, ↓xGuard_tf, ↓xGuard_ft, ↓xIf_t, tick_eq, tickV_eq, ne_eq, not_true_eq_false, Int.reduceEq, Int.reduceLT, Int.reduceLE, 
      Bool.false_and, Bool.true_and, Bool.and_true, Bool.and_false, ↓xBin_add', ↓xBin_sub', ↓xBin_mul', ↓xBin_quo', ↓xBin_rem', wrap_in, ↓xIf_f, ↓xIf_tt, ↓xEx0, ↓xEx1, ↓xEx2, ↓xEx3, ↓xBin_eqs, ↓xBin_nes, ↓xUn_not, ↓u8_add, 
      ↓u8_sub, ↓u8_com, ↓u8_eql, ↓u8_neq, ↓u8_lss, ↓u8_leq, ↓u8_gtr, ↓u8_geq, ↓u16_add, ↓u16_sub, ↓u16_com, ↓u16_eql, ↓u16_neq, ↓u16_lss, ↓u16_leq, ↓u16_gtr, ↓u16_geq, ↓u32_add, ↓u32_sub, ↓u32_com, ↓u32_eql, ↓u32_neq, 
      ↓u32_lss, ↓u32_leq, ↓u32_gtr, ↓u32_geq, ↓u64_add, ↓u64_sub, ↓u64_com, ↓u64_eql, ↓u64_neq, ↓u64_lss, ↓u64_leq, ↓u64_gtr, ↓u64_geq, ↓i64_lss, ↓i64_leq, ↓i64_gtr, ↓i64_geq, ↓i64_eql, ↓i64_neq, ↓i64_neg, Int.toNat_natCast, 
      Int.reduceToNat, Nat.reduceMul, Nat.reduceAdd, Nat.reduceSub, Nat.mul_one, List.nil_append, List.cons_append, List.getElem?_toArray, List.getElem?_cons_zero, List.getElem?_cons_succ, cells_int, cells_bool, cells_string, 
      cells_slice, cells_pointer, cells_agg, one_int, one_bool, one_string, one_slice, one_pointer, List.setIfInBounds_toArray, List.set_cons_zero, List.set_cons_succ, ↓xDet_s, ↓xDet_ld, ↓xDet_ld2, ↓xDet_ld3, ↓xDet_ld4, 
      World.size_drew, Nat.zero_add, cell_drew, frozen_drew, cell_set_eq, cell_set_o, cell_set_b, Option.map_some, World.frozen?_setCell, decide_true, decide_false, List.not_mem_nil, not_false_eq_true, ↓xGuard_tt, Bool.not_true, 
      Bool.not_false, ←decide_not, ↓ld_3, ↓ld_23, ↓fa_23_0, ↓fa_23_1, ↓fa_23_2, ↓fa_34_0, ↓fa_34_1, ↓al_34, ↓st_34, ↓eb_4, e1_0, e2_0, e3_0, e4_0, e4_1, e5_0, e5_1, e5_2, e9_0, e9_1, e9_2, e9_3, g7, g8]
    exact ⟨trivial, by (repeat (first | exact Ext.refl _ _ | refine Ext.alloc' ?_ _ | refine Ext.drew' ?_ | refine Ext.set' ?_ (.inr (by first | omega | (simp only [World.size_alloc, World.size_drew, World.size_setCell] <;> omega))) | assumption | refine Ext.trans ?_ (by assumption)))⟩
  by_cases g9 : b < 0
  · simp (disch := (first | omega | (simp only [World.size_alloc, World.size_setCell, World.size_drew, List.mem_cons, List.not_mem_nil, or_false, not_false_eq_true] <;> omega) | fail)) only [↓xBox_r, ↓loadK_some, ↓loadsK_s, ↓loadsK_n, ↓loadsR_s, ↓loadsR_n, ↓storesK_s, ↓storesK_n, setCells_c, setCells_n, World.setCell_alloc_at, World.setCell_alloc_past, World.cell?_alloc_at, World.cell?_alloc_past, 
      World.frozen?_alloc_at, World.frozen?_alloc_past, World.size_alloc, ↓xPick_t, ↓xPick_f, ↓xGuard_tt, ↓xGuard_ff, ↓xGuard_tf, ↓xGuard_ft, ↓xIf_t, tick_eq, tickV_eq, ne_eq, not_true_eq_false, Int.reduceEq, Int.reduceLT, Int.reduceLE, 
      Bool.false_and, Bool.true_and, Bool.and_true, Bool.and_false, ↓xBin_add', ↓xBin_sub', ↓xBin_mul', ↓xBin_quo', ↓xBin_rem', wrap_in, ↓xIf_f, ↓xIf_tt, ↓xEx0, ↓xEx1, ↓xEx2, ↓xEx3, ↓xBin_eqs, ↓xBin_nes, ↓xUn_not, ↓u8_add, 
      ↓u8_sub, ↓u8_com, ↓u8_eql, ↓u8_neq, ↓u8_lss, ↓u8_leq, ↓u8_gtr, ↓u8_geq, ↓u16_add, ↓u16_sub, ↓u16_com, ↓u16_eql, ↓u16_neq, ↓u16_lss, ↓u16_leq, ↓u16_gtr, ↓u16_geq, ↓u32_add, ↓u32_sub, ↓u32_com, ↓u32_eql, ↓u32_neq, 
      ↓u32_lss, ↓u32_leq, ↓u32_gtr, ↓u32_geq, ↓u64_add, ↓u64_sub, ↓u64_com, ↓u64_eql, ↓u64_neq, ↓u64_lss, ↓u64_leq, ↓u64_gtr, ↓u64_geq, ↓i64_lss, ↓i64_leq, ↓i64_gtr, ↓i64_geq, ↓i64_eql, ↓i64_neq, ↓i64_neg, Int.toNat_natCast, 
      Int.reduceToNat, Nat.reduceMul, Nat.reduceAdd, Nat.reduceSub, Nat.mul_one, List.nil_append, List.cons_append, List.getElem?_toArray, List.getElem?_cons_zero, List.getElem?_cons_succ, cells_int, cells_bool, cells_string, 
      cells_slice, cells_pointer, cells_agg, one_int, one_bool, one_string, one_slice, one_pointer, List.setIfInBounds_toArray, List.set_cons_zero, List.set_cons_succ, ↓xDet_s, ↓xDet_ld, ↓xDet_ld2, ↓xDet_ld3, ↓xDet_ld4, 
      World.size_drew, Nat.zero_add, cell_drew, frozen_drew, cell_set_eq, cell_set_o, cell_set_b, Option.map_some, World.frozen?_setCell, decide_true, decide_false, List.not_mem_nil, not_false_eq_true, ↓xGuard_tt, Bool.not_true, 
      Bool.not_false, ←decide_not, ↓ld_3, ↓ld_23, ↓fa_23_0, ↓fa_23_1, ↓fa_23_2, ↓fa_34_0, ↓fa_34_1, ↓al_34, ↓st_34, ↓eb_4, e1_0, e2_0, e3_0, e4_0, e4_1, e5_0, e5_1, e5_2, e9_0, e9_1, e9_2, e9_3, g7, g8, g9]
    exact ⟨trivial, by (repeat (first | exact Ext.refl _ _ | refine Ext.alloc' ?_ _ | refine Ext.drew' ?_ | refine Ext.set' ?_ (.inr (by first | omega | (simp only [World.size_alloc, World.size_drew, World.size_setCell] <;> omega))) | assumption | refine Ext.trans ?_ (by assumption)))⟩
  by_cases g10 : n ≤ b
  · simp (disch := (first | omega | (simp only [World.size_alloc, World.size_setCell, World.size_drew, List.mem_cons, List.not_mem_nil, or_false, not_false_eq_true] <;> omega) | fail)) only [↓xBox_r, ↓loadK_some, ↓loadsK_s, ↓loadsK_n, ↓loadsR_s, ↓loadsR_n, ↓storesK_s, ↓storesK_n, setCells_c, setCells_n, World.setCell_alloc_at, World.setCell_alloc_past, World.cell?_alloc_at, World.cell?_alloc_past, 
      World.frozen?_alloc_at, World.frozen?_alloc_past, World.size_alloc, ↓xPick_t, ↓xPick_f, ↓xGuard_tt, ↓xGuard_ff, ↓xGuard_tf, ↓xGuard_ft, ↓xIf_t, tick_eq, tickV_eq, ne_eq, not_true_eq_false, Int.reduceEq, Int.reduceLT, Int.reduceLE, 
      Bool.false_and, Bool.true_and, Bool.and_true, Bool.and_false, ↓xBin_add', ↓xBin_sub', ↓xBin_mul', ↓xBin_quo', ↓xBin_rem', wrap_in, ↓xIf_f, ↓xIf_tt, ↓xEx0, ↓xEx1, ↓xEx2, ↓xEx3, ↓xBin_eqs, ↓xBin_nes, ↓xUn_not, ↓u8_add, 
      ↓u8_sub, ↓u8_com, ↓u8_eql, ↓u8_neq, ↓u8_lss, ↓u8_leq, ↓u8_gtr, ↓u8_geq, ↓u16_add, ↓u16_sub, ↓u16_com, ↓u16_eql, ↓u16_neq, ↓u16_lss, ↓u16_leq, ↓u16_gtr, ↓u16_geq, ↓u32_add, ↓u32_sub, ↓u32_com, ↓u32_eql, ↓u32_neq, 
      ↓u32_lss, ↓u32_leq, ↓u32_gtr, ↓u32_geq, ↓u64_add, ↓u64_sub, ↓u64_com, ↓u64_eql, ↓u64_neq, ↓u64_lss, ↓u64_leq, ↓u64_gtr, ↓u64_geq, ↓i64_lss, ↓i64_leq, ↓i64_gtr, ↓i64_geq, ↓i64_eql, ↓i64_neq, ↓i64_neg, Int.toNat_natCast, 
      Int.reduceToNat, Nat.reduceMul, Nat.reduceAdd, Nat.reduceSub, Nat.mul_one, List.nil_append, List.cons_append, List.getElem?_toArray, List.getElem?_cons_zero, List.getElem?_cons_succ, cells_int, cells_bool, cells_string, 
      cells_slice, cells_pointer, cells_agg, one_int, one_bool, one_string, one_slice, one_pointer, List.setIfInBounds_toArray, List.set_cons_zero, List.set_cons_succ, ↓xDet_s, ↓xDet_ld, ↓xDet_ld2, ↓xDet_ld3, ↓xDet_ld4, 
      World.size_drew, Nat.zero_add, cell_drew, frozen_drew, cell_set_eq, cell_set_o, cell_set_b, Option.map_some, World.frozen?_setCell, decide_true, decide_false, List.not_mem_nil, not_false_eq_true, ↓xGuard_tt, Bool.not_true, 
      Bool.not_false, ←decide_not, ↓ld_3, ↓ld_23, ↓fa_23_0, ↓fa_23_1, ↓fa_23_2, ↓fa_34_0, ↓fa_34_1, ↓al_34, ↓st_34, ↓eb_4, e1_0, e2_0, e3_0, e4_0, e4_1, e5_0, e5_1, e5_2, e9_0, e9_1, e9_2, e9_3, g7, g8, g9, g10]
    exact ⟨trivial, by (repeat (first | exact Ext.refl _ _ | refine Ext.alloc' ?_ _ | refine Ext.drew' ?_ | refine Ext.set' ?_ (.inr (by first | omega | (simp only [World.size_alloc, World.size_drew, World.size_setCell] <;> omega))) | assumption | refine Ext.trans ?_ (by assumption)))⟩
  have ha : 0 ≤ a ∧ a < n := by omega
  have hb : 0 ≤ b ∧ b < n := by omega
  have ia := word_in (s := s) (n := n) (by omega) ha
  have ib := word_in (s := s) (n := n) (by omega) hb
  have oa := off_in (s := s) (x := a) (by omega)
  have ob := off_in (s := s) (x := b) (by omega)
  have qa := off_8 (x := a) h8
  have qb := off_8 (x := b) h8
  simp (disch := (first | omega | (simp only [World.size_alloc, World.size_setCell, World.size_drew, List.mem_cons, List.not_mem_nil, or_false, not_false_eq_true] <;> omega) | fail)) only [↓xBox_r, ↓loadK_some, ↓loadsK_s, ↓loadsK_n, ↓loadsR_s, ↓loadsR_n, ↓storesK_s, ↓storesK_n, setCells_c, setCells_n, World.setCell_alloc_at, World.setCell_alloc_past, World.cell?_alloc_at, World.cell?_alloc_past, 
      World.frozen?_alloc_at, World.frozen?_alloc_past, World.size_alloc, ↓xPick_t, ↓xPick_f, ↓xGuard_tt, ↓xGuard_ff, ↓xGuard_tf, ↓xGuard_ft, ↓xIf_t, tick_eq, tickV_eq, ne_eq, not_true_eq_false, Int.reduceEq, Int.reduceLT, Int.reduceLE, 
      Bool.false_and, Bool.true_and, Bool.and_true, Bool.and_false, ↓xBin_add', ↓xBin_sub', ↓xBin_mul', ↓xBin_quo', ↓xBin_rem', wrap_in, ↓xIf_f, ↓xIf_tt, ↓xEx0, ↓xEx1, ↓xEx2, ↓xEx3, ↓xBin_eqs, ↓xBin_nes, ↓xUn_not, ↓u8_add, 
      ↓u8_sub, ↓u8_com, ↓u8_eql, ↓u8_neq, ↓u8_lss, ↓u8_leq, ↓u8_gtr, ↓u8_geq, ↓u16_add, ↓u16_sub, ↓u16_com, ↓u16_eql, ↓u16_neq, ↓u16_lss, ↓u16_leq, ↓u16_gtr, ↓u16_geq, ↓u32_add, ↓u32_sub, ↓u32_com, ↓u32_eql, ↓u32_neq, 
      ↓u32_lss, ↓u32_leq, ↓u32_gtr, ↓u32_geq, ↓u64_add, ↓u64_sub, ↓u64_com, ↓u64_eql, ↓u64_neq, ↓u64_lss, ↓u64_leq, ↓u64_gtr, ↓u64_geq, ↓i64_lss, ↓i64_leq, ↓i64_gtr, ↓i64_geq, ↓i64_eql, ↓i64_neq, ↓i64_neg, Int.toNat_natCast, 
      Int.reduceToNat, Nat.reduceMul, Nat.reduceAdd, Nat.reduceSub, Nat.mul_one, List.nil_append, List.cons_append, List.getElem?_toArray, List.getElem?_cons_zero, List.getElem?_cons_succ, cells_int, cells_bool, cells_string, 
      cells_slice, cells_pointer, cells_agg, one_int, one_bool, one_string, one_slice, one_pointer, List.setIfInBounds_toArray, List.set_cons_zero, List.set_cons_succ, ↓xDet_s, ↓xDet_ld, ↓xDet_ld2, ↓xDet_ld3, ↓xDet_ld4, 
      World.size_drew, Nat.zero_add, cell_drew, frozen_drew, cell_set_eq, cell_set_o, cell_set_b, Option.map_some, World.frozen?_setCell, decide_true, decide_false, List.not_mem_nil, not_false_eq_true, ↓xGuard_tt, Bool.not_true, 
      Bool.not_false, ←decide_not, ↓ld_3, ↓ld_23, ↓fa_23_0, ↓fa_23_1, ↓fa_23_2, ↓fa_34_0, ↓fa_34_1, ↓al_34, ↓st_34, ↓eb_4, e1_0, e2_0, e3_0, e4_0, e4_1, e5_0, e5_1, e5_2, e9_0, e9_1, e9_2, e9_3, g7, g8, g9, g10]
  refine geom_Word_call (Gives.to (Word_spec _ _ _ _ _ _ hf) fun w6 E6 => ?_)
  have z6 := E6.size
  try simp only [World.size_alloc, World.size_setCell, World.size_drew] at z6
  have e6_0 : ∀ o, w6.cell? ⟨w.heap.size, o, none⟩ = _ := fun o => E6.cell_o (by first | omega | (simp only [World.size_alloc, World.size_setCell, World.size_drew] <;> omega))
  have e6_1 : ∀ o, w6.cell? ⟨w4.heap.size, o, none⟩ = _ := fun o => E6.cell_o (by first | omega | (simp only [World.size_alloc, World.size_setCell, World.size_drew] <;> omega))
  have e6_2 : ∀ o, w6.cell? ⟨w5.heap.size, o, none⟩ = _ := fun o => E6.cell_o (by first | omega | (simp only [World.size_alloc, World.size_setCell, World.size_drew] <;> omega))
  simp (disch := (first | omega | (simp only [World.size_alloc, World.size_setCell, World.size_drew, List.mem_cons, List.not_mem_nil, or_false, not_false_eq_true] <;> omega) | fail)) only [↓xBox_r, ↓loadK_some, ↓loadsK_s, ↓loadsK_n, ↓loadsR_s, ↓loadsR_n, ↓storesK_s, ↓storesK_n, setCells_c, setCells_n, World.setCell_alloc_at, World.setCell_alloc_past, World.cell?_alloc_at, World.cell?_alloc_past, 
      World.frozen?_alloc_at, World.frozen?_alloc_past, World.size_alloc, ↓xPick_t, ↓xPick_f, ↓xGuard_tt, ↓xGuard_ff, ↓xGuard_tf, ↓xGuard_ft, ↓xIf_t, tick_eq, tickV_eq, ne_eq, not_true_eq_false, Int.reduceEq, Int.reduceLT, Int.reduceLE, 
      Bool.false_and, Bool.true_and, Bool.and_true, Bool.and_false, ↓xBin_add', ↓xBin_sub', ↓xBin_mul', ↓xBin_quo', ↓xBin_rem', wrap_in, ↓xIf_f, ↓xIf_tt, ↓xEx0, ↓xEx1, ↓xEx2, ↓xEx3, ↓xBin_eqs, ↓xBin_nes, ↓xUn_not, ↓u8_add, 
      ↓u8_sub, ↓u8_com, ↓u8_eql, ↓u8_neq, ↓u8_lss, ↓u8_leq, ↓u8_gtr, ↓u8_geq, ↓u16_add, ↓u16_sub, ↓u16_com, ↓u16_eql, ↓u16_neq, ↓u16_lss, ↓u16_leq, ↓u16_gtr, ↓u16_geq, ↓u32_add, ↓u32_sub, ↓u32_com, ↓u32_eql, ↓u32_neq, 
      ↓u32_lss, ↓u32_leq, ↓u32_gtr, ↓u32_geq, ↓u64_add, ↓u64_sub, ↓u64_com, ↓u64_eql, ↓u64_neq, ↓u64_lss, ↓u64_leq, ↓u64_gtr, ↓u64_geq, ↓i64_lss, ↓i64_leq, ↓i64_gtr, ↓i64_geq, ↓i64_eql, ↓i64_neq, ↓i64_neg, Int.toNat_natCast, 
      Int.reduceToNat, Nat.reduceMul, Nat.reduceAdd, Nat.reduceSub, Nat.mul_one, List.nil_append, List.cons_append, List.getElem?_toArray, List.getElem?_cons_zero, List.getElem?_cons_succ, cells_int, cells_bool, cells_string, 
      cells_slice, cells_pointer, cells_agg, one_int, one_bool, one_string, one_slice, one_pointer, List.setIfInBounds_toArray, List.set_cons_zero, List.set_cons_succ, ↓xDet_s, ↓xDet_ld, ↓xDet_ld2, ↓xDet_ld3, ↓xDet_ld4, 
      World.size_drew, Nat.zero_add, cell_drew, frozen_drew, cell_set_eq, cell_set_o, cell_set_b, Option.map_some, World.frozen?_setCell, decide_true, decide_false, List.not_mem_nil, not_false_eq_true, ↓xGuard_tt, Bool.not_true, 
      Bool.not_false, ←decide_not, ↓ld_3, ↓ld_23, ↓fa_23_0, ↓fa_23_1, ↓fa_23_2, ↓fa_34_0, ↓fa_34_1, ↓al_34, ↓st_34, ↓eb_4, e1_0, e2_0, e3_0, e4_0, e4_1, e5_0, e5_1, e5_2, e6_0, e6_1, e6_2, e9_0, e9_1, e9_2, e9_3]
  refine geom_Word_call (Gives.to (Word_spec _ _ _ _ _ _ hf) fun w7 E7 => ?_)
  have z7 := E7.size
  try simp only [World.size_alloc, World.size_setCell, World.size_drew] at z7
  have e7_0 : ∀ o, w7.cell? ⟨w.heap.size, o, none⟩ = _ := fun o => E7.cell_o (by first | omega | (simp only [World.size_alloc, World.size_setCell, World.size_drew] <;> omega))
  have e7_1 : ∀ o, w7.cell? ⟨w4.heap.size, o, none⟩ = _ := fun o => E7.cell_o (by first | omega | (simp only [World.size_alloc, World.size_setCell, World.size_drew] <;> omega))
  have e7_2 : ∀ o, w7.cell? ⟨w5.heap.size, o, none⟩ = _ := fun o => E7.cell_o (by first | omega | (simp only [World.size_alloc, World.size_setCell, World.size_drew] <;> omega))
  simp (disch := (first | omega | (simp only [World.size_alloc, World.size_setCell, World.size_drew, List.mem_cons, List.not_mem_nil, or_false, not_false_eq_true] <;> omega) | fail)) only [↓xBox_r, ↓loadK_some, ↓loadsK_s, ↓loadsK_n, ↓loadsR_s, ↓loadsR_n, ↓storesK_s, ↓storesK_n, setCells_c, setCells_n, World.setCell_alloc_at, World.setCell_alloc_past, World.cell?_alloc_at, World.cell?_alloc_past, 
      World.frozen?_alloc_at, World.frozen?_alloc_past, World.size_alloc, ↓xPick_t, ↓xPick_f, ↓xGuard_tt, ↓xGuard_ff, ↓xGuard_tf, ↓xGuard_ft, ↓xIf_t, tick_eq, tickV_eq, ne_eq, not_true_eq_false, Int.reduceEq, Int.reduceLT, Int.reduceLE, 
      Bool.false_and, Bool.true_and, Bool.and_true, Bool.and_false, ↓xBin_add', ↓xBin_sub', ↓xBin_mul', ↓xBin_quo', ↓xBin_rem', wrap_in, ↓xIf_f, ↓xIf_tt, ↓xEx0, ↓xEx1, ↓xEx2, ↓xEx3, ↓xBin_eqs, ↓xBin_nes, ↓xUn_not, ↓u8_add, 
      ↓u8_sub, ↓u8_com, ↓u8_eql, ↓u8_neq, ↓u8_lss, ↓u8_leq, ↓u8_gtr, ↓u8_geq, ↓u16_add, ↓u16_sub, ↓u16_com, ↓u16_eql, ↓u16_neq, ↓u16_lss, ↓u16_leq, ↓u16_gtr, ↓u16_geq, ↓u32_add, ↓u32_sub, ↓u32_com, ↓u32_eql, ↓u32_neq, 
      ↓u32_lss, ↓u32_leq, ↓u32_gtr, ↓u32_geq, ↓u64_add, ↓u64_sub, ↓u64_com, ↓u64_eql, ↓u64_neq, ↓u64_lss, ↓u64_leq, ↓u64_gtr, ↓u64_geq, ↓i64_lss, ↓i64_leq, ↓i64_gtr, ↓i64_geq, ↓i64_eql, ↓i64_neq, ↓i64_neg, Int.toNat_natCast, 
      Int.reduceToNat, Nat.reduceMul, Nat.reduceAdd, Nat.reduceSub, Nat.mul_one, List.nil_append, List.cons_append, List.getElem?_toArray, List.getElem?_cons_zero, List.getElem?_cons_succ, cells_int, cells_bool, cells_string, 
      cells_slice, cells_pointer, cells_agg, one_int, one_bool, one_string, one_slice, one_pointer, List.setIfInBounds_toArray, List.set_cons_zero, List.set_cons_succ, ↓xDet_s, ↓xDet_ld, ↓xDet_ld2, ↓xDet_ld3, ↓xDet_ld4, 
      World.size_drew, Nat.zero_add, cell_drew, frozen_drew, cell_set_eq, cell_set_o, cell_set_b, Option.map_some, World.frozen?_setCell, decide_true, decide_false, List.not_mem_nil, not_false_eq_true, ↓xGuard_tt, Bool.not_true, 
      Bool.not_false, ←decide_not, ↓ld_3, ↓ld_23, ↓fa_23_0, ↓fa_23_1, ↓fa_23_2, ↓fa_34_0, ↓fa_34_1, ↓al_34, ↓st_34, ↓eb_4, e1_0, e2_0, e3_0, e4_0, e4_1, e5_0, e5_1, e5_2, e6_0, e6_1, e6_2, e7_0, e7_1, e7_2, e9_0, e9_1, e9_2, e9_3]
  refine geom_Word_call (Gives.to (Word_spec _ _ _ _ _ _ hf) fun w8 E8 => ?_)
  have z8 := E8.size
  try simp only [World.size_alloc, World.size_setCell, World.size_drew] at z8
  have e8_0 : ∀ o, w8.cell? ⟨w.heap.size, o, none⟩ = _ := fun o => E8.cell_o (by first | omega | (simp only [World.size_alloc, World.size_setCell, World.size_drew] <;> omega))
  have e8_1 : ∀ o, w8.cell? ⟨w4.heap.size, o, none⟩ = _ := fun o => E8.cell_o (by first | omega | (simp only [World.size_alloc, World.size_setCell, World.size_drew] <;> omega))
  have e8_2 : ∀ o, w8.cell? ⟨w5.heap.size, o, none⟩ = _ := fun o => E8.cell_o (by first | omega | (simp only [World.size_alloc, World.size_setCell, World.size_drew] <;> omega))
  rw [wordAt_0 ha, wordOff_0 ha, wordAt_0 hb, wordOff_0 hb, wordAt_1 ha, wordOff_1 ha]
  have p1 : 2 + l ≤ 2 + l + a * 8 / s := by omega
  have p2 : 2 + l + a * 8 / s < 2 + l + one s n := by omega
  have p3 : a * 8 % s + 8 ≤ s := by omega
  have p4 := oa.1
  have m1 : 2 + l + one s n + a * 8 / s - (2 + l + one s n) = a * 8 / s := by omega
  have m2 : 2 + l + a * 8 / s - (2 + l) = a * 8 / s := by omega
  have own : ownerV s l n (2 + l + a * 8 / s) = ⟨#[115, 112, 97, 99, 101]⟩ := by
    have o1 : ¬ 2 + l + a * 8 / s < 0 := by omega
    have o2 : ¬ 2 + l + a * 8 / s < 2 := by omega
    have o3 : ¬ 2 + l + a * 8 / s < 2 + l := by omega
    have o4 : 2 + l + a * 8 / s < 2 + l + 2 * one s n := by omega
    simp only [ownerV, if_neg o1, if_neg o2, if_neg o3, if_pos o4]
  have key : ∀ w K, xBin Try.prog .eql 3 false (i64 (2 + l + a * 8 / s)) false (i64 (2 + l + b * 8 / s)) w K = K (.bool (decide (a * 8 / s = b * 8 / s))) w := fun w K => by
    rw [xBin_eql]
    congr 2
    simp only [Int.add_right_inj]
  simp (disch := (first | omega | (simp only [World.size_alloc, World.size_setCell, World.size_drew, List.mem_cons, List.not_mem_nil, or_false, not_false_eq_true] <;> omega) | fail)) only [↓key, ↓xBox_r, ↓loadK_some, ↓loadsK_s, ↓loadsK_n, ↓loadsR_s, ↓loadsR_n, ↓storesK_s, ↓storesK_n, setCells_c, setCells_n, World.setCell_alloc_at, World.setCell_alloc_past, World.cell?_alloc_at, World.cell?_alloc_past, 
      World.frozen?_alloc_at, World.frozen?_alloc_past, World.size_alloc, ↓xPick_t, ↓xPick_f, ↓xGuard_tt, ↓xGuard_ff, ↓xGuard_tf, ↓xGuard_ft, ↓xIf_t, tick_eq, tickV_eq, ne_eq, not_true_eq_false, Int.reduceEq, Int.reduceLT, Int.reduceLE, 
      Bool.false_and, Bool.true_and, Bool.and_true, Bool.and_false, ↓xBin_add', ↓xBin_sub', ↓xBin_mul', ↓xBin_quo', ↓xBin_rem', wrap_in, ↓xIf_f, ↓xIf_tt, ↓xEx0, ↓xEx1, ↓xEx2, ↓xEx3, ↓xBin_eqs, ↓xBin_nes, ↓xUn_not, ↓u8_add, 
      ↓u8_sub, ↓u8_com, ↓u8_eql, ↓u8_neq, ↓u8_lss, ↓u8_leq, ↓u8_gtr, ↓u8_geq, ↓u16_add, ↓u16_sub, ↓u16_com, ↓u16_eql, ↓u16_neq, ↓u16_lss, ↓u16_leq, ↓u16_gtr, ↓u16_geq, ↓u32_add, ↓u32_sub, ↓u32_com, ↓u32_eql, ↓u32_neq, 
      ↓u32_lss, ↓u32_leq, ↓u32_gtr, ↓u32_geq, ↓u64_add, ↓u64_sub, ↓u64_com, ↓u64_eql, ↓u64_neq, ↓u64_lss, ↓u64_leq, ↓u64_gtr, ↓u64_geq, ↓i64_lss, ↓i64_leq, ↓i64_gtr, ↓i64_geq, ↓i64_eql, ↓i64_neq, ↓i64_neg, Int.toNat_natCast, 
      Int.reduceToNat, Nat.reduceMul, Nat.reduceAdd, Nat.reduceSub, Nat.mul_one, List.nil_append, List.cons_append, List.getElem?_toArray, List.getElem?_cons_zero, List.getElem?_cons_succ, cells_int, cells_bool, cells_string, 
      cells_slice, cells_pointer, cells_agg, one_int, one_bool, one_string, one_slice, one_pointer, List.setIfInBounds_toArray, List.set_cons_zero, List.set_cons_succ, ↓xDet_s, ↓xDet_ld, ↓xDet_ld2, ↓xDet_ld3, ↓xDet_ld4, 
      World.size_drew, Nat.zero_add, cell_drew, frozen_drew, cell_set_eq, cell_set_o, cell_set_b, Option.map_some, World.frozen?_setCell, decide_true, decide_false, List.not_mem_nil, not_false_eq_true, ↓xGuard_tt, Bool.not_true, 
      Bool.not_false, ←decide_not, ↓ld_3, ↓ld_23, ↓fa_23_0, ↓fa_23_1, ↓fa_23_2, ↓fa_34_0, ↓fa_34_1, ↓al_34, ↓st_34, ↓eb_4, e1_0, e2_0, e3_0, e4_0, e4_1, e5_0, e5_1, e5_2, e6_0, e6_1, e6_2, e7_0, e7_1, e7_2, e8_0, e8_1, e8_2, e9_0, e9_1, e9_2, e9_3, p1, p2, p3, p4]
  by_cases c1 : a * 8 / s = b * 8 / s
  · by_cases c2 : a * 8 % s = b * 8 % s
    · obtain rfl := word_eq c1 c2
      simp (disch := (first | omega | (simp only [World.size_alloc, World.size_setCell, World.size_drew, List.mem_cons, List.not_mem_nil, or_false, not_false_eq_true] <;> omega) | fail)) only [↓key, ↓xBox_r, ↓loadK_some, ↓loadsK_s, ↓loadsK_n, ↓loadsR_s, ↓loadsR_n, ↓storesK_s, ↓storesK_n, setCells_c, setCells_n, World.setCell_alloc_at, World.setCell_alloc_past, World.cell?_alloc_at, World.cell?_alloc_past, 
      World.frozen?_alloc_at, World.frozen?_alloc_past, World.size_alloc, ↓xPick_t, ↓xPick_f, ↓xGuard_tt, ↓xGuard_ff, ↓xGuard_tf, ↓xGuard_ft, ↓xIf_t, tick_eq, tickV_eq, ne_eq, not_true_eq_false, Int.reduceEq, Int.reduceLT, Int.reduceLE, 
      Bool.false_and, Bool.true_and, Bool.and_true, Bool.and_false, ↓xBin_add', ↓xBin_sub', ↓xBin_mul', ↓xBin_quo', ↓xBin_rem', wrap_in, ↓xIf_f, ↓xIf_tt, ↓xEx0, ↓xEx1, ↓xEx2, ↓xEx3, ↓xBin_eqs, ↓xBin_nes, ↓xUn_not, ↓u8_add, 
      ↓u8_sub, ↓u8_com, ↓u8_eql, ↓u8_neq, ↓u8_lss, ↓u8_leq, ↓u8_gtr, ↓u8_geq, ↓u16_add, ↓u16_sub, ↓u16_com, ↓u16_eql, ↓u16_neq, ↓u16_lss, ↓u16_leq, ↓u16_gtr, ↓u16_geq, ↓u32_add, ↓u32_sub, ↓u32_com, ↓u32_eql, ↓u32_neq, 
      ↓u32_lss, ↓u32_leq, ↓u32_gtr, ↓u32_geq, ↓u64_add, ↓u64_sub, ↓u64_com, ↓u64_eql, ↓u64_neq, ↓u64_lss, ↓u64_leq, ↓u64_gtr, ↓u64_geq, ↓i64_lss, ↓i64_leq, ↓i64_gtr, ↓i64_geq, ↓i64_eql, ↓i64_neq, ↓i64_neg, Int.toNat_natCast, 
      Int.reduceToNat, Nat.reduceMul, Nat.reduceAdd, Nat.reduceSub, Nat.mul_one, List.nil_append, List.cons_append, List.getElem?_toArray, List.getElem?_cons_zero, List.getElem?_cons_succ, cells_int, cells_bool, cells_string, 
      cells_slice, cells_pointer, cells_agg, one_int, one_bool, one_string, one_slice, one_pointer, List.setIfInBounds_toArray, List.set_cons_zero, List.set_cons_succ, ↓xDet_s, ↓xDet_ld, ↓xDet_ld2, ↓xDet_ld3, ↓xDet_ld4, 
      World.size_drew, Nat.zero_add, cell_drew, frozen_drew, cell_set_eq, cell_set_o, cell_set_b, Option.map_some, World.frozen?_setCell, decide_true, decide_false, List.not_mem_nil, not_false_eq_true, ↓xGuard_tt, Bool.not_true, 
      Bool.not_false, ←decide_not, ↓ld_3, ↓ld_23, ↓fa_23_0, ↓fa_23_1, ↓fa_23_2, ↓fa_34_0, ↓fa_34_1, ↓al_34, ↓st_34, ↓eb_4, e1_0, e2_0, e3_0, e4_0, e4_1, e5_0, e5_1, e5_2, e6_0, e6_1, e6_2, e7_0, e7_1, e7_2, e8_0, e8_1, e8_2, e9_0, e9_1, e9_2, e9_3, p1, p2, p3, p4, m1, m2, ↓eb_4, beq_self_eq_true]
      refine geom_Owner_call (Gives.to (Owner_spec _ _ _ _ _ hf) fun w9 E9 => ?_)
      have z9 := E9.size
      try simp only [World.size_alloc, World.size_setCell, World.size_drew] at z9
      have e9_0 : ∀ o, w9.cell? ⟨w.heap.size, o, none⟩ = _ := fun o => E9.cell_o (by first | omega | (simp only [World.size_alloc, World.size_setCell, World.size_drew] <;> omega))
      rw [own]
      simp (disch := (first | omega | (simp only [World.size_alloc, World.size_setCell, World.size_drew, List.mem_cons, List.not_mem_nil, or_false, not_false_eq_true] <;> omega) | fail)) only [↓xBox_r, ↓loadK_some, ↓loadsK_s, ↓loadsK_n, ↓loadsR_s, ↓loadsR_n, ↓storesK_s, ↓storesK_n, setCells_c, setCells_n, World.setCell_alloc_at, World.setCell_alloc_past, World.cell?_alloc_at, World.cell?_alloc_past, 
      World.frozen?_alloc_at, World.frozen?_alloc_past, World.size_alloc, ↓xPick_t, ↓xPick_f, ↓xGuard_tt, ↓xGuard_ff, ↓xGuard_tf, ↓xGuard_ft, ↓xIf_t, tick_eq, tickV_eq, ne_eq, not_true_eq_false, Int.reduceEq, Int.reduceLT, Int.reduceLE, 
      Bool.false_and, Bool.true_and, Bool.and_true, Bool.and_false, ↓xBin_add', ↓xBin_sub', ↓xBin_mul', ↓xBin_quo', ↓xBin_rem', wrap_in, ↓xIf_f, ↓xIf_tt, ↓xEx0, ↓xEx1, ↓xEx2, ↓xEx3, ↓xBin_eqs, ↓xBin_nes, ↓xUn_not, ↓u8_add, 
      ↓u8_sub, ↓u8_com, ↓u8_eql, ↓u8_neq, ↓u8_lss, ↓u8_leq, ↓u8_gtr, ↓u8_geq, ↓u16_add, ↓u16_sub, ↓u16_com, ↓u16_eql, ↓u16_neq, ↓u16_lss, ↓u16_leq, ↓u16_gtr, ↓u16_geq, ↓u32_add, ↓u32_sub, ↓u32_com, ↓u32_eql, ↓u32_neq, 
      ↓u32_lss, ↓u32_leq, ↓u32_gtr, ↓u32_geq, ↓u64_add, ↓u64_sub, ↓u64_com, ↓u64_eql, ↓u64_neq, ↓u64_lss, ↓u64_leq, ↓u64_gtr, ↓u64_geq, ↓i64_lss, ↓i64_leq, ↓i64_gtr, ↓i64_geq, ↓i64_eql, ↓i64_neq, ↓i64_neg, Int.toNat_natCast, 
      Int.reduceToNat, Nat.reduceMul, Nat.reduceAdd, Nat.reduceSub, Nat.mul_one, List.nil_append, List.cons_append, List.getElem?_toArray, List.getElem?_cons_zero, List.getElem?_cons_succ, cells_int, cells_bool, cells_string, 
      cells_slice, cells_pointer, cells_agg, one_int, one_bool, one_string, one_slice, one_pointer, List.setIfInBounds_toArray, List.set_cons_zero, List.set_cons_succ, ↓xDet_s, ↓xDet_ld, ↓xDet_ld2, ↓xDet_ld3, ↓xDet_ld4, 
      World.size_drew, Nat.zero_add, cell_drew, frozen_drew, cell_set_eq, cell_set_o, cell_set_b, Option.map_some, World.frozen?_setCell, decide_true, decide_false, List.not_mem_nil, not_false_eq_true, ↓xGuard_tt, Bool.not_true, 
      Bool.not_false, ←decide_not, ↓ld_3, ↓ld_23, ↓fa_23_0, ↓fa_23_1, ↓fa_23_2, ↓fa_34_0, ↓fa_34_1, ↓al_34, ↓st_34, ↓eb_4, e1_0, e2_0, e3_0, e4_0, e4_1, e5_0, e5_1, e5_2, e6_0, e6_1, e6_2, e7_0, e7_1, e7_2, e8_0, e8_1, e8_2, e9_0]
      exact ⟨by trivial, by (repeat (first | exact Ext.refl _ _ | refine Ext.alloc' ?_ _ | refine Ext.drew' ?_ | refine Ext.set' ?_ (.inr (by first | omega | (simp only [World.size_alloc, World.size_drew, World.size_setCell] <;> omega))) | assumption | refine Ext.trans ?_ (by assumption)))⟩
    · have c3 : ¬ a = b := fun e => c2 (by rw [e])
      simp (disch := (first | omega | (simp only [World.size_alloc, World.size_setCell, World.size_drew, List.mem_cons, List.not_mem_nil, or_false, not_false_eq_true] <;> omega) | fail)) only [↓key, ↓xBox_r, ↓loadK_some, ↓loadsK_s, ↓loadsK_n, ↓loadsR_s, ↓loadsR_n, ↓storesK_s, ↓storesK_n, setCells_c, setCells_n, World.setCell_alloc_at, World.setCell_alloc_past, World.cell?_alloc_at, World.cell?_alloc_past, 
      World.frozen?_alloc_at, World.frozen?_alloc_past, World.size_alloc, ↓xPick_t, ↓xPick_f, ↓xGuard_tt, ↓xGuard_ff, ↓xGuard_tf, ↓xGuard_ft, ↓xIf_t, tick_eq, tickV_eq, ne_eq, not_true_eq_false, Int.reduceEq, Int.reduceLT, Int.reduceLE, 
      Bool.false_and, Bool.true_and, Bool.and_true, Bool.and_false, ↓xBin_add', ↓xBin_sub', ↓xBin_mul', ↓xBin_quo', ↓xBin_rem', wrap_in, ↓xIf_f, ↓xIf_tt, ↓xEx0, ↓xEx1, ↓xEx2, ↓xEx3, ↓xBin_eqs, ↓xBin_nes, ↓xUn_not, ↓u8_add, 
      ↓u8_sub, ↓u8_com, ↓u8_eql, ↓u8_neq, ↓u8_lss, ↓u8_leq, ↓u8_gtr, ↓u8_geq, ↓u16_add, ↓u16_sub, ↓u16_com, ↓u16_eql, ↓u16_neq, ↓u16_lss, ↓u16_leq, ↓u16_gtr, ↓u16_geq, ↓u32_add, ↓u32_sub, ↓u32_com, ↓u32_eql, ↓u32_neq, 
      ↓u32_lss, ↓u32_leq, ↓u32_gtr, ↓u32_geq, ↓u64_add, ↓u64_sub, ↓u64_com, ↓u64_eql, ↓u64_neq, ↓u64_lss, ↓u64_leq, ↓u64_gtr, ↓u64_geq, ↓i64_lss, ↓i64_leq, ↓i64_gtr, ↓i64_geq, ↓i64_eql, ↓i64_neq, ↓i64_neg, Int.toNat_natCast, 
      Int.reduceToNat, Nat.reduceMul, Nat.reduceAdd, Nat.reduceSub, Nat.mul_one, List.nil_append, List.cons_append, List.getElem?_toArray, List.getElem?_cons_zero, List.getElem?_cons_succ, cells_int, cells_bool, cells_string, 
      cells_slice, cells_pointer, cells_agg, one_int, one_bool, one_string, one_slice, one_pointer, List.setIfInBounds_toArray, List.set_cons_zero, List.set_cons_succ, ↓xDet_s, ↓xDet_ld, ↓xDet_ld2, ↓xDet_ld3, ↓xDet_ld4, 
      World.size_drew, Nat.zero_add, cell_drew, frozen_drew, cell_set_eq, cell_set_o, cell_set_b, Option.map_some, World.frozen?_setCell, decide_true, decide_false, List.not_mem_nil, not_false_eq_true, ↓xGuard_tt, Bool.not_true, 
      Bool.not_false, ←decide_not, ↓ld_3, ↓ld_23, ↓fa_23_0, ↓fa_23_1, ↓fa_23_2, ↓fa_34_0, ↓fa_34_1, ↓al_34, ↓st_34, ↓eb_4, e1_0, e2_0, e3_0, e4_0, e4_1, e5_0, e5_1, e5_2, e6_0, e6_1, e6_2, e7_0, e7_1, e7_2, e8_0, e8_1, e8_2, e9_0, e9_1, e9_2, e9_3, p1, p2, p3, p4, m1, m2, decide_eq_true c1, c2, c3, ↓eb_4, beq_self_eq_true]
      refine geom_Owner_call (Gives.to (Owner_spec _ _ _ _ _ hf) fun w10 E10 => ?_)
      have z10 := E10.size
      try simp only [World.size_alloc, World.size_setCell, World.size_drew] at z10
      have e10_0 : ∀ o, w10.cell? ⟨w.heap.size, o, none⟩ = _ := fun o => E10.cell_o (by first | omega | (simp only [World.size_alloc, World.size_setCell, World.size_drew] <;> omega))
      rw [own]
      simp (disch := (first | omega | (simp only [World.size_alloc, World.size_setCell, World.size_drew, List.mem_cons, List.not_mem_nil, or_false, not_false_eq_true] <;> omega) | fail)) only [↓xBox_r, ↓loadK_some, ↓loadsK_s, ↓loadsK_n, ↓loadsR_s, ↓loadsR_n, ↓storesK_s, ↓storesK_n, setCells_c, setCells_n, World.setCell_alloc_at, World.setCell_alloc_past, World.cell?_alloc_at, World.cell?_alloc_past, 
      World.frozen?_alloc_at, World.frozen?_alloc_past, World.size_alloc, ↓xPick_t, ↓xPick_f, ↓xGuard_tt, ↓xGuard_ff, ↓xGuard_tf, ↓xGuard_ft, ↓xIf_t, tick_eq, tickV_eq, ne_eq, not_true_eq_false, Int.reduceEq, Int.reduceLT, Int.reduceLE, 
      Bool.false_and, Bool.true_and, Bool.and_true, Bool.and_false, ↓xBin_add', ↓xBin_sub', ↓xBin_mul', ↓xBin_quo', ↓xBin_rem', wrap_in, ↓xIf_f, ↓xIf_tt, ↓xEx0, ↓xEx1, ↓xEx2, ↓xEx3, ↓xBin_eqs, ↓xBin_nes, ↓xUn_not, ↓u8_add, 
      ↓u8_sub, ↓u8_com, ↓u8_eql, ↓u8_neq, ↓u8_lss, ↓u8_leq, ↓u8_gtr, ↓u8_geq, ↓u16_add, ↓u16_sub, ↓u16_com, ↓u16_eql, ↓u16_neq, ↓u16_lss, ↓u16_leq, ↓u16_gtr, ↓u16_geq, ↓u32_add, ↓u32_sub, ↓u32_com, ↓u32_eql, ↓u32_neq, 
      ↓u32_lss, ↓u32_leq, ↓u32_gtr, ↓u32_geq, ↓u64_add, ↓u64_sub, ↓u64_com, ↓u64_eql, ↓u64_neq, ↓u64_lss, ↓u64_leq, ↓u64_gtr, ↓u64_geq, ↓i64_lss, ↓i64_leq, ↓i64_gtr, ↓i64_geq, ↓i64_eql, ↓i64_neq, ↓i64_neg, Int.toNat_natCast, 
      Int.reduceToNat, Nat.reduceMul, Nat.reduceAdd, Nat.reduceSub, Nat.mul_one, List.nil_append, List.cons_append, List.getElem?_toArray, List.getElem?_cons_zero, List.getElem?_cons_succ, cells_int, cells_bool, cells_string, 
      cells_slice, cells_pointer, cells_agg, one_int, one_bool, one_string, one_slice, one_pointer, List.setIfInBounds_toArray, List.set_cons_zero, List.set_cons_succ, ↓xDet_s, ↓xDet_ld, ↓xDet_ld2, ↓xDet_ld3, ↓xDet_ld4, 
      World.size_drew, Nat.zero_add, cell_drew, frozen_drew, cell_set_eq, cell_set_o, cell_set_b, Option.map_some, World.frozen?_setCell, decide_true, decide_false, List.not_mem_nil, not_false_eq_true, ↓xGuard_tt, Bool.not_true, 
      Bool.not_false, ←decide_not, ↓ld_3, ↓ld_23, ↓fa_23_0, ↓fa_23_1, ↓fa_23_2, ↓fa_34_0, ↓fa_34_1, ↓al_34, ↓st_34, ↓eb_4, e1_0, e2_0, e3_0, e4_0, e4_1, e5_0, e5_1, e5_2, e6_0, e6_1, e6_2, e7_0, e7_1, e7_2, e8_0, e8_1, e8_2, e10_0]
      exact ⟨by trivial, by (repeat (first | exact Ext.refl _ _ | refine Ext.alloc' ?_ _ | refine Ext.drew' ?_ | refine Ext.set' ?_ (.inr (by first | omega | (simp only [World.size_alloc, World.size_drew, World.size_setCell] <;> omega))) | assumption | refine Ext.trans ?_ (by assumption)))⟩
  · have c3 : ¬ a = b := fun e => c1 (by rw [e])
    simp (disch := (first | omega | (simp only [World.size_alloc, World.size_setCell, World.size_drew, List.mem_cons, List.not_mem_nil, or_false, not_false_eq_true] <;> omega) | fail)) only [↓key, ↓xBox_r, ↓loadK_some, ↓loadsK_s, ↓loadsK_n, ↓loadsR_s, ↓loadsR_n, ↓storesK_s, ↓storesK_n, setCells_c, setCells_n, World.setCell_alloc_at, World.setCell_alloc_past, World.cell?_alloc_at, World.cell?_alloc_past, 
      World.frozen?_alloc_at, World.frozen?_alloc_past, World.size_alloc, ↓xPick_t, ↓xPick_f, ↓xGuard_tt, ↓xGuard_ff, ↓xGuard_tf, ↓xGuard_ft, ↓xIf_t, tick_eq, tickV_eq, ne_eq, not_true_eq_false, Int.reduceEq, Int.reduceLT, Int.reduceLE, 
      Bool.false_and, Bool.true_and, Bool.and_true, Bool.and_false, ↓xBin_add', ↓xBin_sub', ↓xBin_mul', ↓xBin_quo', ↓xBin_rem', wrap_in, ↓xIf_f, ↓xIf_tt, ↓xEx0, ↓xEx1, ↓xEx2, ↓xEx3, ↓xBin_eqs, ↓xBin_nes, ↓xUn_not, ↓u8_add, 
      ↓u8_sub, ↓u8_com, ↓u8_eql, ↓u8_neq, ↓u8_lss, ↓u8_leq, ↓u8_gtr, ↓u8_geq, ↓u16_add, ↓u16_sub, ↓u16_com, ↓u16_eql, ↓u16_neq, ↓u16_lss, ↓u16_leq, ↓u16_gtr, ↓u16_geq, ↓u32_add, ↓u32_sub, ↓u32_com, ↓u32_eql, ↓u32_neq, 
      ↓u32_lss, ↓u32_leq, ↓u32_gtr, ↓u32_geq, ↓u64_add, ↓u64_sub, ↓u64_com, ↓u64_eql, ↓u64_neq, ↓u64_lss, ↓u64_leq, ↓u64_gtr, ↓u64_geq, ↓i64_lss, ↓i64_leq, ↓i64_gtr, ↓i64_geq, ↓i64_eql, ↓i64_neq, ↓i64_neg, Int.toNat_natCast, 
      Int.reduceToNat, Nat.reduceMul, Nat.reduceAdd, Nat.reduceSub, Nat.mul_one, List.nil_append, List.cons_append, List.getElem?_toArray, List.getElem?_cons_zero, List.getElem?_cons_succ, cells_int, cells_bool, cells_string, 
      cells_slice, cells_pointer, cells_agg, one_int, one_bool, one_string, one_slice, one_pointer, List.setIfInBounds_toArray, List.set_cons_zero, List.set_cons_succ, ↓xDet_s, ↓xDet_ld, ↓xDet_ld2, ↓xDet_ld3, ↓xDet_ld4, 
      World.size_drew, Nat.zero_add, cell_drew, frozen_drew, cell_set_eq, cell_set_o, cell_set_b, Option.map_some, World.frozen?_setCell, decide_true, decide_false, List.not_mem_nil, not_false_eq_true, ↓xGuard_tt, Bool.not_true, 
      Bool.not_false, ←decide_not, ↓ld_3, ↓ld_23, ↓fa_23_0, ↓fa_23_1, ↓fa_23_2, ↓fa_34_0, ↓fa_34_1, ↓al_34, ↓st_34, ↓eb_4, e1_0, e2_0, e3_0, e4_0, e4_1, e5_0, e5_1, e5_2, e6_0, e6_1, e6_2, e7_0, e7_1, e7_2, e8_0, e8_1, e8_2, e9_0, e9_1, e9_2, e9_3, p1, p2, p3, p4, m1, m2, c1, c3, ↓eb_4, beq_self_eq_true]
    refine geom_Owner_call (Gives.to (Owner_spec _ _ _ _ _ hf) fun w11 E11 => ?_)
    have z11 := E11.size
    try simp only [World.size_alloc, World.size_setCell, World.size_drew] at z11
    have e11_0 : ∀ o, w11.cell? ⟨w.heap.size, o, none⟩ = _ := fun o => E11.cell_o (by first | omega | (simp only [World.size_alloc, World.size_setCell, World.size_drew] <;> omega))
    rw [own]
    simp (disch := (first | omega | (simp only [World.size_alloc, World.size_setCell, World.size_drew, List.mem_cons, List.not_mem_nil, or_false, not_false_eq_true] <;> omega) | fail)) only [↓xBox_r, ↓loadK_some, ↓loadsK_s, ↓loadsK_n, ↓loadsR_s, ↓loadsR_n, ↓storesK_s, ↓storesK_n, setCells_c, setCells_n, World.setCell_alloc_at, World.setCell_alloc_past, World.cell?_alloc_at, World.cell?_alloc_past, 
      World.frozen?_alloc_at, World.frozen?_alloc_past, World.size_alloc, ↓xPick_t, ↓xPick_f, ↓xGuard_tt, ↓xGuard_ff, ↓xGuard_tf, ↓xGuard_ft, ↓xIf_t, tick_eq, tickV_eq, ne_eq, not_true_eq_false, Int.reduceEq, Int.reduceLT, Int.reduceLE, 
      Bool.false_and, Bool.true_and, Bool.and_true, Bool.and_false, ↓xBin_add', ↓xBin_sub', ↓xBin_mul', ↓xBin_quo', ↓xBin_rem', wrap_in, ↓xIf_f, ↓xIf_tt, ↓xEx0, ↓xEx1, ↓xEx2, ↓xEx3, ↓xBin_eqs, ↓xBin_nes, ↓xUn_not, ↓u8_add, 
      ↓u8_sub, ↓u8_com, ↓u8_eql, ↓u8_neq, ↓u8_lss, ↓u8_leq, ↓u8_gtr, ↓u8_geq, ↓u16_add, ↓u16_sub, ↓u16_com, ↓u16_eql, ↓u16_neq, ↓u16_lss, ↓u16_leq, ↓u16_gtr, ↓u16_geq, ↓u32_add, ↓u32_sub, ↓u32_com, ↓u32_eql, ↓u32_neq, 
      ↓u32_lss, ↓u32_leq, ↓u32_gtr, ↓u32_geq, ↓u64_add, ↓u64_sub, ↓u64_com, ↓u64_eql, ↓u64_neq, ↓u64_lss, ↓u64_leq, ↓u64_gtr, ↓u64_geq, ↓i64_lss, ↓i64_leq, ↓i64_gtr, ↓i64_geq, ↓i64_eql, ↓i64_neq, ↓i64_neg, Int.toNat_natCast, 
      Int.reduceToNat, Nat.reduceMul, Nat.reduceAdd, Nat.reduceSub, Nat.mul_one, List.nil_append, List.cons_append, List.getElem?_toArray, List.getElem?_cons_zero, List.getElem?_cons_succ, cells_int, cells_bool, cells_string, 
      cells_slice, cells_pointer, cells_agg, one_int, one_bool, one_string, one_slice, one_pointer, List.setIfInBounds_toArray, List.set_cons_zero, List.set_cons_succ, ↓xDet_s, ↓xDet_ld, ↓xDet_ld2, ↓xDet_ld3, ↓xDet_ld4, 
      World.size_drew, Nat.zero_add, cell_drew, frozen_drew, cell_set_eq, cell_set_o, cell_set_b, Option.map_some, World.frozen?_setCell, decide_true, decide_false, List.not_mem_nil, not_false_eq_true, ↓xGuard_tt, Bool.not_true, 
      Bool.not_false, ←decide_not, ↓ld_3, ↓ld_23, ↓fa_23_0, ↓fa_23_1, ↓fa_23_2, ↓fa_34_0, ↓fa_34_1, ↓al_34, ↓st_34, ↓eb_4, e1_0, e2_0, e3_0, e4_0, e4_1, e5_0, e5_1, e5_2, e6_0, e6_1, e6_2, e7_0, e7_1, e7_2, e8_0, e8_1, e8_2, e11_0]
    exact ⟨by trivial, by (repeat (first | exact Ext.refl _ _ | refine Ext.alloc' ?_ _ | refine Ext.drew' ?_ | refine Ext.set' ?_ (.inr (by first | omega | (simp only [World.size_alloc, World.size_drew, World.size_setCell] <;> omega))) | assumption | refine Ext.trans ?_ (by assumption)))⟩
end Go.Proofs.Ytohonkbneimkoaa
