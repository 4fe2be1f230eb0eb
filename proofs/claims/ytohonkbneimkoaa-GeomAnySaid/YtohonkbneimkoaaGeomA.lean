/- The reference of geom computes what geom does; and the statement on any geometry, walked. -/
import Derived.Test.YtohonkbneimkoaaGeomP
set_option linter.unusedVariables false
set_option linter.unusedSimpArgs false
namespace Go.Proofs.Ytohonkbneimkoaa
open Go.Sh Go.RowKit

theorem per_up {s n : Int} (hs : 64 ≤ s) (h8 : s % 8 = 0) : (n + s / 8 - 1) / (s / 8) = (n * 8 + s - 1) / s := by
  have h1 : s = 8 * (s / 8) := by omega
  have h2 : (n * 8 + s - 1) / (8 * (s / 8)) = (n * 8 + s - 1) / 8 / (s / 8) := Int.ediv_ediv_of_nonneg (by omega) |>.symm
  rw [← h1] at h2
  rw [h2]
  congr 1
  omega
theorem per_q {s x : Int} (hs : 64 ≤ s) (h8 : s % 8 = 0) : x / (s / 8) = x * 8 / s := by
  have h1 : s = s / 8 * 8 := by omega
  have h2 : x * 8 / (s / 8 * 8) = x / (s / 8) := Int.mul_ediv_mul_of_pos_left _ _ (by omega)
  rw [← h1] at h2
  exact h2.symm
theorem per_r {s x : Int} (hs : 64 ≤ s) (h8 : s % 8 = 0) : 8 * (x % (s / 8)) = x * 8 % s := by
  have h1 : s = 8 * (s / 8) := by omega
  have h2 : 8 * x % (8 * (s / 8)) = 8 * (x % (s / 8)) := Int.mul_emod_mul_of_pos _ _ (by omega)
  rw [← h1] at h2
  rw [← h2, Int.mul_comm]

theorem rone_spec (s l n : Int) (w : World) (hs : 64 ≤ s) (h1 : s ≤ 1024) (h8 : s % 8 = 0) (h2 : 0 ≤ n) (h3 : n ≤ 16384) : Gives Try.prog n_loamref4_one #[gm s l n] w (i64 (one s n)) := by
  refine loamref4_one_of ?_
  unfold loamref4_one
  simp (disch := (first | omega | (simp only [World.size_alloc, World.size_setCell, World.size_drew, List.mem_cons, List.not_mem_nil, or_false, not_false_eq_true] <;> omega) | fail)) only [↓xBox_r, ↓loadK_some, ↓loadsK_s, ↓loadsK_n, ↓loadsR_s, ↓loadsR_n, ↓storesK_s, ↓storesK_n, setCells_c, setCells_n, World.setCell_alloc_at, World.setCell_alloc_past, World.cell?_alloc_at, World.cell?_alloc_past, 
      World.frozen?_alloc_at, World.frozen?_alloc_past, World.size_alloc, ↓xPick_t, ↓xPick_f, ↓xGuard_tt, ↓xGuard_ff, ↓xGuard_tf, ↓xGuard_ft, ↓xIf_t, tick_eq, tickV_eq, ne_eq, not_true_eq_false, Int.reduceEq, Int.reduceLT, Int.reduceLE, 
      Bool.false_and, Bool.true_and, Bool.and_true, Bool.and_false, ↓xBin_add', ↓xBin_sub', ↓xBin_mul', ↓xBin_quo', ↓xBin_rem', wrap_in, ↓xIf_f, ↓xIf_tt, ↓xEx0, ↓xEx1, ↓xEx2, ↓xEx3, ↓xBin_eqs, ↓xBin_nes, ↓xUn_not, ↓u8_add, 
      ↓u8_sub, ↓u8_quo, ↓u16_add, ↓u16_sub, ↓u16_quo, ↓u32_add, ↓u32_sub, ↓u32_quo, ↓u64_add, ↓u64_sub, ↓u64_quo, Int.toNat_natCast, Int.reduceToNat, Nat.reduceMul, Nat.reduceAdd, Nat.reduceSub, Nat.mul_one, List.nil_append, 
      List.cons_append, List.getElem?_toArray, List.getElem?_cons_zero, List.getElem?_cons_succ, cells_int, cells_bool, cells_string, cells_slice, cells_pointer, cells_agg, one_int, one_bool, one_string, one_slice, one_pointer, 
      List.setIfInBounds_toArray, List.set_cons_zero, List.set_cons_succ, ↓xDet_s, ↓xDet_ld, ↓xDet_ld2, ↓xDet_ld3, ↓xDet_ld4, World.size_drew, Nat.zero_add, cell_drew, frozen_drew, cell_set_eq, cell_set_o, cell_set_b, Option.map_some, 
      World.frozen?_setCell, decide_true, decide_false, List.not_mem_nil, not_false_eq_true, ↓xGuard_tt, Bool.not_true, Bool.not_false, ←decide_not, ↓ld_3, ↓fa_25_0, ↓fa_25_2, eq_self]
  have hb : 0 ≤ (n + s / 8 - 1) / (s / 8) := Int.ediv_nonneg (by omega) (by omega)
  have hb' : (n + s / 8 - 1) / (s / 8) ≤ n + s / 8 - 1 := Int.ediv_le_self _ (by omega)
  refine xDraw_ext [] [] ?_
  simp (disch := (first | omega | (simp only [World.size_alloc, World.size_setCell, World.size_drew, List.mem_cons, List.not_mem_nil, or_false, not_false_eq_true] <;> omega) | fail)) only [↓xBox_r, ↓loadK_some, ↓loadsK_s, ↓loadsK_n, ↓loadsR_s, ↓loadsR_n, ↓storesK_s, ↓storesK_n, setCells_c, setCells_n, World.setCell_alloc_at, World.setCell_alloc_past, World.cell?_alloc_at, World.cell?_alloc_past, 
      World.frozen?_alloc_at, World.frozen?_alloc_past, World.size_alloc, ↓xPick_t, ↓xPick_f, ↓xGuard_tt, ↓xGuard_ff, ↓xGuard_tf, ↓xGuard_ft, ↓xIf_t, tick_eq, tickV_eq, ne_eq, not_true_eq_false, Int.reduceEq, Int.reduceLT, Int.reduceLE, 
      Bool.false_and, Bool.true_and, Bool.and_true, Bool.and_false, ↓xBin_add', ↓xBin_sub', ↓xBin_mul', ↓xBin_quo', ↓xBin_rem', wrap_in, ↓xIf_f, ↓xIf_tt, ↓xEx0, ↓xEx1, ↓xEx2, ↓xEx3, ↓xBin_eqs, ↓xBin_nes, ↓xUn_not, ↓u8_add, 
      ↓u8_sub, ↓u8_quo, ↓u16_add, ↓u16_sub, ↓u16_quo, ↓u32_add, ↓u32_sub, ↓u32_quo, ↓u64_add, ↓u64_sub, ↓u64_quo, Int.toNat_natCast, Int.reduceToNat, Nat.reduceMul, Nat.reduceAdd, Nat.reduceSub, Nat.mul_one, List.nil_append, 
      List.cons_append, List.getElem?_toArray, List.getElem?_cons_zero, List.getElem?_cons_succ, cells_int, cells_bool, cells_string, cells_slice, cells_pointer, cells_agg, one_int, one_bool, one_string, one_slice, one_pointer, 
      List.setIfInBounds_toArray, List.set_cons_zero, List.set_cons_succ, ↓xDet_s, ↓xDet_ld, ↓xDet_ld2, ↓xDet_ld3, ↓xDet_ld4, World.size_drew, Nat.zero_add, cell_drew, frozen_drew, cell_set_eq, cell_set_o, cell_set_b, Option.map_some, 
      World.frozen?_setCell, decide_true, decide_false, List.not_mem_nil, not_false_eq_true, ↓xGuard_tt, Bool.not_true, Bool.not_false, ←decide_not, ↓ld_3, ↓fa_25_0, ↓fa_25_2, eq_self]
  refine xEnd_i fun w2 hw => ⟨?_, ?_⟩
  · rw [per_up hs h8, show n + 31 = n + 32 - 1 by omega]; rfl
  · refine Ext.trans ?_ hw.ext
    (repeat (first | exact Ext.refl _ _ | refine Ext.alloc' ?_ _ | refine Ext.drew' ?_ | refine Ext.set' ?_ (.inr (by first | omega | (simp only [World.size_alloc, World.size_drew, World.size_setCell] <;> omega))) | assumption | refine Ext.trans ?_ (by assumption)))

theorem rSectors_spec (s l n : Int) (w : World) (hs : 64 ≤ s) (h1 : s ≤ 1024) (h8 : s % 8 = 0) (h2 : 0 ≤ n) (h3 : n ≤ 16384) (l0 : 0 ≤ l) (l1 : l ≤ 4096) : Gives Try.prog n_loamref4_Sectors #[gm s l n] w (i64 (2 + l + 2 * one s n)) := by
  refine loamref4_Sectors_of ?_
  unfold loamref4_Sectors
  have ho := one_le s n (by omega) h2
  simp (disch := (first | omega | (simp only [World.size_alloc, World.size_setCell, World.size_drew, List.mem_cons, List.not_mem_nil, or_false, not_false_eq_true] <;> omega) | fail)) only [↓xBox_r, ↓loadK_some, ↓loadsK_s, ↓loadsK_n, ↓loadsR_s, ↓loadsR_n, ↓storesK_s, ↓storesK_n, setCells_c, setCells_n, World.setCell_alloc_at, World.setCell_alloc_past, World.cell?_alloc_at, World.cell?_alloc_past, 
      World.frozen?_alloc_at, World.frozen?_alloc_past, World.size_alloc, ↓xPick_t, ↓xPick_f, ↓xGuard_tt, ↓xGuard_ff, ↓xGuard_tf, ↓xGuard_ft, ↓xIf_t, tick_eq, tickV_eq, ne_eq, not_true_eq_false, Int.reduceEq, Int.reduceLT, Int.reduceLE, 
      Bool.false_and, Bool.true_and, Bool.and_true, Bool.and_false, ↓xBin_add', ↓xBin_sub', ↓xBin_mul', ↓xBin_quo', ↓xBin_rem', wrap_in, ↓xIf_f, ↓xIf_tt, ↓xEx0, ↓xEx1, ↓xEx2, ↓xEx3, ↓xBin_eqs, ↓xBin_nes, ↓xUn_not, ↓u8_add, 
      ↓u8_mul, ↓u16_add, ↓u16_mul, ↓u32_add, ↓u32_mul, ↓u64_add, ↓u64_mul, Int.toNat_natCast, Int.reduceToNat, Nat.reduceMul, Nat.reduceAdd, Nat.reduceSub, Nat.mul_one, List.nil_append, List.cons_append, List.getElem?_toArray, 
      List.getElem?_cons_zero, List.getElem?_cons_succ, cells_int, cells_bool, cells_string, cells_slice, cells_pointer, cells_agg, one_int, one_bool, one_string, one_slice, one_pointer, List.setIfInBounds_toArray, List.set_cons_zero, 
      List.set_cons_succ, ↓xDet_s, ↓xDet_ld, ↓xDet_ld2, ↓xDet_ld3, ↓xDet_ld4, World.size_drew, Nat.zero_add, cell_drew, frozen_drew, cell_set_eq, cell_set_o, cell_set_b, Option.map_some, World.frozen?_setCell, decide_true, decide_false, 
      List.not_mem_nil, not_false_eq_true, ↓xGuard_tt, Bool.not_true, Bool.not_false, ←decide_not, ↓ld_3, ↓ld_25, ↓fa_25_1, eq_self]
  refine xDraw_ext [] [] ?_
  simp (disch := (first | omega | (simp only [World.size_alloc, World.size_setCell, World.size_drew, List.mem_cons, List.not_mem_nil, or_false, not_false_eq_true] <;> omega) | fail)) only [↓xBox_r, ↓loadK_some, ↓loadsK_s, ↓loadsK_n, ↓loadsR_s, ↓loadsR_n, ↓storesK_s, ↓storesK_n, setCells_c, setCells_n, World.setCell_alloc_at, World.setCell_alloc_past, World.cell?_alloc_at, World.cell?_alloc_past, 
      World.frozen?_alloc_at, World.frozen?_alloc_past, World.size_alloc, ↓xPick_t, ↓xPick_f, ↓xGuard_tt, ↓xGuard_ff, ↓xGuard_tf, ↓xGuard_ft, ↓xIf_t, tick_eq, tickV_eq, ne_eq, not_true_eq_false, Int.reduceEq, Int.reduceLT, Int.reduceLE, 
      Bool.false_and, Bool.true_and, Bool.and_true, Bool.and_false, ↓xBin_add', ↓xBin_sub', ↓xBin_mul', ↓xBin_quo', ↓xBin_rem', wrap_in, ↓xIf_f, ↓xIf_tt, ↓xEx0, ↓xEx1, ↓xEx2, ↓xEx3, ↓xBin_eqs, ↓xBin_nes, ↓xUn_not, ↓u8_add, 
      ↓u8_mul, ↓u16_add, ↓u16_mul, ↓u32_add, ↓u32_mul, ↓u64_add, ↓u64_mul, Int.toNat_natCast, Int.reduceToNat, Nat.reduceMul, Nat.reduceAdd, Nat.reduceSub, Nat.mul_one, List.nil_append, List.cons_append, List.getElem?_toArray, 
      List.getElem?_cons_zero, List.getElem?_cons_succ, cells_int, cells_bool, cells_string, cells_slice, cells_pointer, cells_agg, one_int, one_bool, one_string, one_slice, one_pointer, List.setIfInBounds_toArray, List.set_cons_zero, 
      List.set_cons_succ, ↓xDet_s, ↓xDet_ld, ↓xDet_ld2, ↓xDet_ld3, ↓xDet_ld4, World.size_drew, Nat.zero_add, cell_drew, frozen_drew, cell_set_eq, cell_set_o, cell_set_b, Option.map_some, World.frozen?_setCell, decide_true, decide_false, 
      List.not_mem_nil, not_false_eq_true, ↓xGuard_tt, Bool.not_true, Bool.not_false, ←decide_not, ↓ld_3, ↓ld_25, ↓fa_25_1, eq_self]
  apply xDet_x
  · exact fun w hw => loamref4_one_call (Gives.lq (rone_spec _ _ _ _ hs h1 h8 h2 h3))
  simp (disch := (first | omega | (simp only [World.size_alloc, World.size_setCell, World.size_drew, List.mem_cons, List.not_mem_nil, or_false, not_false_eq_true] <;> omega) | fail)) only [↓xBox_r, ↓loadK_some, ↓loadsK_s, ↓loadsK_n, ↓loadsR_s, ↓loadsR_n, ↓storesK_s, ↓storesK_n, setCells_c, setCells_n, World.setCell_alloc_at, World.setCell_alloc_past, World.cell?_alloc_at, World.cell?_alloc_past, 
      World.frozen?_alloc_at, World.frozen?_alloc_past, World.size_alloc, ↓xPick_t, ↓xPick_f, ↓xGuard_tt, ↓xGuard_ff, ↓xGuard_tf, ↓xGuard_ft, ↓xIf_t, tick_eq, tickV_eq, ne_eq, not_true_eq_false, Int.reduceEq, Int.reduceLT, Int.reduceLE, 
      Bool.false_and, Bool.true_and, Bool.and_true, Bool.and_false, ↓xBin_add', ↓xBin_sub', ↓xBin_mul', ↓xBin_quo', ↓xBin_rem', wrap_in, ↓xIf_f, ↓xIf_tt, ↓xEx0, ↓xEx1, ↓xEx2, ↓xEx3, ↓xBin_eqs, ↓xBin_nes, ↓xUn_not, ↓u8_add, 
      ↓u8_mul, ↓u16_add, ↓u16_mul, ↓u32_add, ↓u32_mul, ↓u64_add, ↓u64_mul, Int.toNat_natCast, Int.reduceToNat, Nat.reduceMul, Nat.reduceAdd, Nat.reduceSub, Nat.mul_one, List.nil_append, List.cons_append, List.getElem?_toArray, 
      List.getElem?_cons_zero, List.getElem?_cons_succ, cells_int, cells_bool, cells_string, cells_slice, cells_pointer, cells_agg, one_int, one_bool, one_string, one_slice, one_pointer, List.setIfInBounds_toArray, List.set_cons_zero, 
      List.set_cons_succ, ↓xDet_s, ↓xDet_ld, ↓xDet_ld2, ↓xDet_ld3, ↓xDet_ld4, World.size_drew, Nat.zero_add, cell_drew, frozen_drew, cell_set_eq, cell_set_o, cell_set_b, Option.map_some, World.frozen?_setCell, decide_true, decide_false, 
      List.not_mem_nil, not_false_eq_true, ↓xGuard_tt, Bool.not_true, Bool.not_false, ←decide_not, ↓ld_3, ↓ld_25, ↓fa_25_1, eq_self]
  refine xEnd_i fun w2 hw => ⟨by trivial, ?_⟩
  refine Ext.trans ?_ hw.ext
  (repeat (first | exact Ext.refl _ _ | refine Ext.alloc' ?_ _ | refine Ext.drew' ?_ | refine Ext.set' ?_ (.inr (by first | omega | (simp only [World.size_alloc, World.size_drew, World.size_setCell] <;> omega))) | assumption | refine Ext.trans ?_ (by assumption)))

theorem rCheck_spec (s l n : Int) (w : World) : Gives Try.prog n_loamref4_Check #[gm s l n] w (i64 (checkV s l n)) := by
  refine loamref4_Check_of ?_
  unfold loamref4_Check
  simp (disch := (first | omega | (simp only [World.size_alloc, World.size_setCell, World.size_drew, List.mem_cons, List.not_mem_nil, or_false, not_false_eq_true] <;> omega) | fail)) only [↓xBox_r, ↓loadK_some, ↓loadsK_s, ↓loadsK_n, ↓loadsR_s, ↓loadsR_n, ↓storesK_s, ↓storesK_n, setCells_c, setCells_n, World.setCell_alloc_at, World.setCell_alloc_past, World.cell?_alloc_at, World.cell?_alloc_past, 
      World.frozen?_alloc_at, World.frozen?_alloc_past, World.size_alloc, ↓xPick_t, ↓xPick_f, ↓xGuard_tt, ↓xGuard_ff, ↓xGuard_tf, ↓xGuard_ft, ↓xIf_t, tick_eq, tickV_eq, ne_eq, not_true_eq_false, Int.reduceEq, Int.reduceLT, Int.reduceLE, 
      Bool.false_and, Bool.true_and, Bool.and_true, Bool.and_false, ↓xBin_add', ↓xBin_sub', ↓xBin_mul', ↓xBin_quo', ↓xBin_rem', wrap_in, ↓xIf_f, ↓xIf_tt, ↓xEx0, ↓xEx1, ↓xEx2, ↓xEx3, ↓xBin_eqs, ↓xBin_nes, ↓xUn_not, ↓u8_rem, 
      ↓u8_neq, ↓u8_lss, ↓u8_gtr, ↓u16_rem, ↓u16_neq, ↓u16_lss, ↓u16_gtr, ↓u32_rem, ↓u32_neq, ↓u32_lss, ↓u32_gtr, ↓u64_rem, ↓u64_neq, ↓u64_lss, ↓u64_gtr, ↓i64_lss, ↓i64_gtr, ↓i64_neq, ↓i64_neg, Int.toNat_natCast, Int.reduceToNat, 
      Nat.reduceMul, Nat.reduceAdd, Nat.reduceSub, Nat.mul_one, List.nil_append, List.cons_append, List.getElem?_toArray, List.getElem?_cons_zero, List.getElem?_cons_succ, cells_int, cells_bool, cells_string, cells_slice, 
      cells_pointer, cells_agg, one_int, one_bool, one_string, one_slice, one_pointer, List.setIfInBounds_toArray, List.set_cons_zero, List.set_cons_succ, ↓xDet_s, ↓xDet_ld, ↓xDet_ld2, ↓xDet_ld3, ↓xDet_ld4, World.size_drew, 
      Nat.zero_add, cell_drew, frozen_drew, cell_set_eq, cell_set_o, cell_set_b, Option.map_some, World.frozen?_setCell, decide_true, decide_false, List.not_mem_nil, not_false_eq_true, ↓xGuard_tt, Bool.not_true, Bool.not_false, 
      ←decide_not, ↓ld_3, ↓ld_25, ↓fa_25_0, ↓fa_25_1, ↓fa_25_2, eq_self]
  by_cases g1 : s < 64
  · have hv : checkV s l n = 1 := checkV_1 (by unfold badGeom; omega)
    simp (disch := (first | omega | (simp only [World.size_alloc, World.size_setCell, World.size_drew, List.mem_cons, List.not_mem_nil, or_false, not_false_eq_true] <;> omega) | fail)) only [↓xBox_r, ↓loadK_some, ↓loadsK_s, ↓loadsK_n, ↓loadsR_s, ↓loadsR_n, ↓storesK_s, ↓storesK_n, setCells_c, setCells_n, World.setCell_alloc_at, World.setCell_alloc_past, World.cell?_alloc_at, World.cell?_alloc_past, 
      World.frozen?_alloc_at, World.frozen?_alloc_past, World.size_alloc, ↓xPick_t, ↓xPick_f, ↓xGuard_tt, ↓xGuard_ff, ↓xGuard_tf, ↓xGuard_ft, ↓xIf_t, tick_eq, tickV_eq, ne_eq, not_true_eq_false, Int.reduceEq, Int.reduceLT, Int.reduceLE, 
      Bool.false_and, Bool.true_and, Bool.and_true, Bool.and_false, ↓xBin_add', ↓xBin_sub', ↓xBin_mul', ↓xBin_quo', ↓xBin_rem', wrap_in, ↓xIf_f, ↓xIf_tt, ↓xEx0, ↓xEx1, ↓xEx2, ↓xEx3, ↓xBin_eqs, ↓xBin_nes, ↓xUn_not, ↓u8_rem, 
      ↓u8_neq, ↓u8_lss, ↓u8_gtr, ↓u16_rem, ↓u16_neq, ↓u16_lss, ↓u16_gtr, ↓u32_rem, ↓u32_neq, ↓u32_lss, ↓u32_gtr, ↓u64_rem, ↓u64_neq, ↓u64_lss, ↓u64_gtr, ↓i64_lss, ↓i64_gtr, ↓i64_neq, ↓i64_neg, Int.toNat_natCast, Int.reduceToNat, 
      Nat.reduceMul, Nat.reduceAdd, Nat.reduceSub, Nat.mul_one, List.nil_append, List.cons_append, List.getElem?_toArray, List.getElem?_cons_zero, List.getElem?_cons_succ, cells_int, cells_bool, cells_string, cells_slice, 
      cells_pointer, cells_agg, one_int, one_bool, one_string, one_slice, one_pointer, List.setIfInBounds_toArray, List.set_cons_zero, List.set_cons_succ, ↓xDet_s, ↓xDet_ld, ↓xDet_ld2, ↓xDet_ld3, ↓xDet_ld4, World.size_drew, 
      Nat.zero_add, cell_drew, frozen_drew, cell_set_eq, cell_set_o, cell_set_b, Option.map_some, World.frozen?_setCell, decide_true, decide_false, List.not_mem_nil, not_false_eq_true, ↓xGuard_tt, Bool.not_true, Bool.not_false, 
      ←decide_not, ↓ld_3, ↓ld_25, ↓fa_25_0, ↓fa_25_1, ↓fa_25_2, eq_self, g1, hv]
    exact ⟨by trivial, by (repeat (first | exact Ext.refl _ _ | refine Ext.alloc' ?_ _ | refine Ext.drew' ?_ | refine Ext.set' ?_ (.inr (by first | omega | (simp only [World.size_alloc, World.size_drew, World.size_setCell] <;> omega))) | assumption | refine Ext.trans ?_ (by assumption)))⟩
  by_cases g2 : 1024 < s
  · have hv : checkV s l n = 1 := checkV_1 (by unfold badGeom; omega)
    simp (disch := (first | omega | (simp only [World.size_alloc, World.size_setCell, World.size_drew, List.mem_cons, List.not_mem_nil, or_false, not_false_eq_true] <;> omega) | fail)) only [↓xBox_r, ↓loadK_some, ↓loadsK_s, ↓loadsK_n, ↓loadsR_s, ↓loadsR_n, ↓storesK_s, ↓storesK_n, setCells_c, setCells_n, World.setCell_alloc_at, World.setCell_alloc_past, World.cell?_alloc_at, World.cell?_alloc_past, 
      World.frozen?_alloc_at, World.frozen?_alloc_past, World.size_alloc, ↓xPick_t, ↓xPick_f, ↓xGuard_tt, ↓xGuard_ff, ↓xGuard_tf, ↓xGuard_ft, ↓xIf_t, tick_eq, tickV_eq, ne_eq, not_true_eq_false, Int.reduceEq, Int.reduceLT, Int.reduceLE, 
      Bool.false_and, Bool.true_and, Bool.and_true, Bool.and_false, ↓xBin_add', ↓xBin_sub', ↓xBin_mul', ↓xBin_quo', ↓xBin_rem', wrap_in, ↓xIf_f, ↓xIf_tt, ↓xEx0, ↓xEx1, ↓xEx2, ↓xEx3, ↓xBin_eqs, ↓xBin_nes, ↓xUn_not, ↓u8_rem, 
      ↓u8_neq, ↓u8_lss, ↓u8_gtr, ↓u16_rem, ↓u16_neq, ↓u16_lss, ↓u16_gtr, ↓u32_rem, ↓u32_neq, ↓u32_lss, ↓u32_gtr, ↓u64_rem, ↓u64_neq, ↓u64_lss, ↓u64_gtr, ↓i64_lss, ↓i64_gtr, ↓i64_neq, ↓i64_neg, Int.toNat_natCast, Int.reduceToNat, 
      Nat.reduceMul, Nat.reduceAdd, Nat.reduceSub, Nat.mul_one, List.nil_append, List.cons_append, List.getElem?_toArray, List.getElem?_cons_zero, List.getElem?_cons_succ, cells_int, cells_bool, cells_string, cells_slice, 
      cells_pointer, cells_agg, one_int, one_bool, one_string, one_slice, one_pointer, List.setIfInBounds_toArray, List.set_cons_zero, List.set_cons_succ, ↓xDet_s, ↓xDet_ld, ↓xDet_ld2, ↓xDet_ld3, ↓xDet_ld4, World.size_drew, 
      Nat.zero_add, cell_drew, frozen_drew, cell_set_eq, cell_set_o, cell_set_b, Option.map_some, World.frozen?_setCell, decide_true, decide_false, List.not_mem_nil, not_false_eq_true, ↓xGuard_tt, Bool.not_true, Bool.not_false, 
      ←decide_not, ↓ld_3, ↓ld_25, ↓fa_25_0, ↓fa_25_1, ↓fa_25_2, g1, g2, hv]
    exact ⟨by trivial, by (repeat (first | exact Ext.refl _ _ | refine Ext.alloc' ?_ _ | refine Ext.drew' ?_ | refine Ext.set' ?_ (.inr (by first | omega | (simp only [World.size_alloc, World.size_drew, World.size_setCell] <;> omega))) | assumption | refine Ext.trans ?_ (by assumption)))⟩
  by_cases g3 : ¬ s % 8 = 0
  · have hv : checkV s l n = 1 := checkV_1 (by unfold badGeom; omega)
    simp (disch := (first | omega | (simp only [World.size_alloc, World.size_setCell, World.size_drew, List.mem_cons, List.not_mem_nil, or_false, not_false_eq_true] <;> omega) | fail)) only [↓xBox_r, ↓loadK_some, ↓loadsK_s, ↓loadsK_n, ↓loadsR_s, ↓loadsR_n, ↓storesK_s, ↓storesK_n, setCells_c, setCells_n, World.setCell_alloc_at, World.setCell_alloc_past, World.cell?_alloc_at, World.cell?_alloc_past, 
      World.frozen?_alloc_at, World.frozen?_alloc_past, World.size_alloc, ↓xPick_t, ↓xPick_f, ↓xGuard_tt, ↓xGuard_ff, ↓xGuard_tf, ↓xGuard_ft, ↓xIf_t, tick_eq, tickV_eq, ne_eq, not_true_eq_false, Int.reduceEq, Int.reduceLT, Int.reduceLE, 
      Bool.false_and, Bool.true_and, Bool.and_true, Bool.and_false, ↓xBin_add', ↓xBin_sub', ↓xBin_mul', ↓xBin_quo', ↓xBin_rem', wrap_in, ↓xIf_f, ↓xIf_tt, ↓xEx0, ↓xEx1, ↓xEx2, ↓xEx3, ↓xBin_eqs, ↓xBin_nes, ↓xUn_not, ↓u8_rem, 
      ↓u8_neq, ↓u8_lss, ↓u8_gtr, ↓u16_rem, ↓u16_neq, ↓u16_lss, ↓u16_gtr, ↓u32_rem, ↓u32_neq, ↓u32_lss, ↓u32_gtr, ↓u64_rem, ↓u64_neq, ↓u64_lss, ↓u64_gtr, ↓i64_lss, ↓i64_gtr, ↓i64_neq, ↓i64_neg, Int.toNat_natCast, Int.reduceToNat, 
      Nat.reduceMul, Nat.reduceAdd, Nat.reduceSub, Nat.mul_one, List.nil_append, List.cons_append, List.getElem?_toArray, List.getElem?_cons_zero, List.getElem?_cons_succ, cells_int, cells_bool, cells_string, cells_slice, 
      cells_pointer, cells_agg, one_int, one_bool, one_string, one_slice, one_pointer, List.setIfInBounds_toArray, List.set_cons_zero, List.set_cons_succ, ↓xDet_s, ↓xDet_ld, ↓xDet_ld2, ↓xDet_ld3, ↓xDet_ld4, World.size_drew, 
      Nat.zero_add, cell_drew, frozen_drew, cell_set_eq, cell_set_o, cell_set_b, Option.map_some, World.frozen?_setCell, decide_true, decide_false, List.not_mem_nil, not_false_eq_true, ↓xGuard_tt, Bool.not_true, Bool.not_false, 
      ←decide_not, ↓ld_3, ↓ld_25, ↓fa_25_0, ↓fa_25_1, ↓fa_25_2, g1, g2, g3, hv]
    exact ⟨by trivial, by (repeat (first | exact Ext.refl _ _ | refine Ext.alloc' ?_ _ | refine Ext.drew' ?_ | refine Ext.set' ?_ (.inr (by first | omega | (simp only [World.size_alloc, World.size_drew, World.size_setCell] <;> omega))) | assumption | refine Ext.trans ?_ (by assumption)))⟩
  by_cases g4 : l < 8
  · have hv : checkV s l n = 1 := checkV_1 (by unfold badGeom; omega)
    simp (disch := (first | omega | (simp only [World.size_alloc, World.size_setCell, World.size_drew, List.mem_cons, List.not_mem_nil, or_false, not_false_eq_true] <;> omega) | fail)) only [↓xBox_r, ↓loadK_some, ↓loadsK_s, ↓loadsK_n, ↓loadsR_s, ↓loadsR_n, ↓storesK_s, ↓storesK_n, setCells_c, setCells_n, World.setCell_alloc_at, World.setCell_alloc_past, World.cell?_alloc_at, World.cell?_alloc_past, 
      World.frozen?_alloc_at, World.frozen?_alloc_past, World.size_alloc, ↓xPick_t, ↓xPick_f, ↓xGuard_tt, ↓xGuard_ff, ↓xGuard_tf, ↓xGuard_ft, ↓xIf_t, tick_eq, tickV_eq, ne_eq, not_true_eq_false, Int.reduceEq, Int.reduceLT, Int.reduceLE, 
      Bool.false_and, Bool.true_and, Bool.and_true, Bool.and_false, ↓xBin_add', ↓xBin_sub', ↓xBin_mul', ↓xBin_quo', ↓xBin_rem', wrap_in, ↓xIf_f, ↓xIf_tt, ↓xEx0, ↓xEx1, ↓xEx2, ↓xEx3, ↓xBin_eqs, ↓xBin_nes, ↓xUn_not, ↓u8_rem, 
      ↓u8_neq, ↓u8_lss, ↓u8_gtr, ↓u16_rem, ↓u16_neq, ↓u16_lss, ↓u16_gtr, ↓u32_rem, ↓u32_neq, ↓u32_lss, ↓u32_gtr, ↓u64_rem, ↓u64_neq, ↓u64_lss, ↓u64_gtr, ↓i64_lss, ↓i64_gtr, ↓i64_neq, ↓i64_neg, Int.toNat_natCast, Int.reduceToNat, 
      Nat.reduceMul, Nat.reduceAdd, Nat.reduceSub, Nat.mul_one, List.nil_append, List.cons_append, List.getElem?_toArray, List.getElem?_cons_zero, List.getElem?_cons_succ, cells_int, cells_bool, cells_string, cells_slice, 
      cells_pointer, cells_agg, one_int, one_bool, one_string, one_slice, one_pointer, List.setIfInBounds_toArray, List.set_cons_zero, List.set_cons_succ, ↓xDet_s, ↓xDet_ld, ↓xDet_ld2, ↓xDet_ld3, ↓xDet_ld4, World.size_drew, 
      Nat.zero_add, cell_drew, frozen_drew, cell_set_eq, cell_set_o, cell_set_b, Option.map_some, World.frozen?_setCell, decide_true, decide_false, List.not_mem_nil, not_false_eq_true, ↓xGuard_tt, Bool.not_true, Bool.not_false, 
      ←decide_not, ↓ld_3, ↓ld_25, ↓fa_25_0, ↓fa_25_1, ↓fa_25_2, g1, g2, g3, g4, hv]
    exact ⟨by trivial, by (repeat (first | exact Ext.refl _ _ | refine Ext.alloc' ?_ _ | refine Ext.drew' ?_ | refine Ext.set' ?_ (.inr (by first | omega | (simp only [World.size_alloc, World.size_drew, World.size_setCell] <;> omega))) | assumption | refine Ext.trans ?_ (by assumption)))⟩
  by_cases g5 : 1024 < l
  · have hv : checkV s l n = 1 := checkV_1 (by unfold badGeom; omega)
    simp (disch := (first | omega | (simp only [World.size_alloc, World.size_setCell, World.size_drew, List.mem_cons, List.not_mem_nil, or_false, not_false_eq_true] <;> omega) | fail)) only [↓xBox_r, ↓loadK_some, ↓loadsK_s, ↓loadsK_n, ↓loadsR_s, ↓loadsR_n, ↓storesK_s, ↓storesK_n, setCells_c, setCells_n, World.setCell_alloc_at, World.setCell_alloc_past, World.cell?_alloc_at, World.cell?_alloc_past, 
      World.frozen?_alloc_at, World.frozen?_alloc_past, World.size_alloc, ↓xPick_t, ↓xPick_f, ↓xGuard_tt, ↓xGuard_ff, ↓xGuard_tf, ↓xGuard_ft, ↓xIf_t, tick_eq, tickV_eq, ne_eq, not_true_eq_false, Int.reduceEq, Int.reduceLT, Int.reduceLE, 
      Bool.false_and, Bool.true_and, Bool.and_true, Bool.and_false, ↓xBin_add', ↓xBin_sub', ↓xBin_mul', ↓xBin_quo', ↓xBin_rem', wrap_in, ↓xIf_f, ↓xIf_tt, ↓xEx0, ↓xEx1, ↓xEx2, ↓xEx3, ↓xBin_eqs, ↓xBin_nes, ↓xUn_not, ↓u8_rem, 
      ↓u8_neq, ↓u8_lss, ↓u8_gtr, ↓u16_rem, ↓u16_neq, ↓u16_lss, ↓u16_gtr, ↓u32_rem, ↓u32_neq, ↓u32_lss, ↓u32_gtr, ↓u64_rem, ↓u64_neq, ↓u64_lss, ↓u64_gtr, ↓i64_lss, ↓i64_gtr, ↓i64_neq, ↓i64_neg, Int.toNat_natCast, Int.reduceToNat, 
      Nat.reduceMul, Nat.reduceAdd, Nat.reduceSub, Nat.mul_one, List.nil_append, List.cons_append, List.getElem?_toArray, List.getElem?_cons_zero, List.getElem?_cons_succ, cells_int, cells_bool, cells_string, cells_slice, 
      cells_pointer, cells_agg, one_int, one_bool, one_string, one_slice, one_pointer, List.setIfInBounds_toArray, List.set_cons_zero, List.set_cons_succ, ↓xDet_s, ↓xDet_ld, ↓xDet_ld2, ↓xDet_ld3, ↓xDet_ld4, World.size_drew, 
      Nat.zero_add, cell_drew, frozen_drew, cell_set_eq, cell_set_o, cell_set_b, Option.map_some, World.frozen?_setCell, decide_true, decide_false, List.not_mem_nil, not_false_eq_true, ↓xGuard_tt, Bool.not_true, Bool.not_false, 
      ←decide_not, ↓ld_3, ↓ld_25, ↓fa_25_0, ↓fa_25_1, ↓fa_25_2, g1, g2, g3, g4, g5, hv]
    exact ⟨by trivial, by (repeat (first | exact Ext.refl _ _ | refine Ext.alloc' ?_ _ | refine Ext.drew' ?_ | refine Ext.set' ?_ (.inr (by first | omega | (simp only [World.size_alloc, World.size_drew, World.size_setCell] <;> omega))) | assumption | refine Ext.trans ?_ (by assumption)))⟩
  by_cases g6 : n < 64
  · have hv : checkV s l n = 1 := checkV_1 (by unfold badGeom; omega)
    simp (disch := (first | omega | (simp only [World.size_alloc, World.size_setCell, World.size_drew, List.mem_cons, List.not_mem_nil, or_false, not_false_eq_true] <;> omega) | fail)) only [↓xBox_r, ↓loadK_some, ↓loadsK_s, ↓loadsK_n, ↓loadsR_s, ↓loadsR_n, ↓storesK_s, ↓storesK_n, setCells_c, setCells_n, World.setCell_alloc_at, World.setCell_alloc_past, World.cell?_alloc_at, World.cell?_alloc_past, 
      World.frozen?_alloc_at, World.frozen?_alloc_past, World.size_alloc, ↓xPick_t, ↓xPick_f, ↓xGuard_tt, ↓xGuard_ff, ↓xGuard_tf, ↓xGuard_ft, ↓xIf_t, tick_eq, tickV_eq, ne_eq, not_true_eq_false, Int.reduceEq, Int.reduceLT, Int.reduceLE, 
      Bool.false_and, Bool.true_and, Bool.and_true, Bool.and_false, ↓xBin_add', ↓xBin_sub', ↓xBin_mul', ↓xBin_quo', ↓xBin_rem', wrap_in, ↓xIf_f, ↓xIf_tt, ↓xEx0, ↓xEx1, ↓xEx2, ↓xEx3, ↓xBin_eqs, ↓xBin_nes, ↓xUn_not, ↓u8_rem, 
      ↓u8_neq, ↓u8_lss, ↓u8_gtr, ↓u16_rem, ↓u16_neq, ↓u16_lss, ↓u16_gtr, ↓u32_rem, ↓u32_neq, ↓u32_lss, ↓u32_gtr, ↓u64_rem, ↓u64_neq, ↓u64_lss, ↓u64_gtr, ↓i64_lss, ↓i64_gtr, ↓i64_neq, ↓i64_neg, Int.toNat_natCast, Int.reduceToNat, 
      Nat.reduceMul, Nat.reduceAdd, Nat.reduceSub, Nat.mul_one, List.nil_append, List.cons_append, List.getElem?_toArray, List.getElem?_cons_zero, List.getElem?_cons_succ, cells_int, cells_bool, cells_string, cells_slice, 
      cells_pointer, cells_agg, one_int, one_bool, one_string, one_slice, one_pointer, List.setIfInBounds_toArray, List.set_cons_zero, List.set_cons_succ, ↓xDet_s, ↓xDet_ld, ↓xDet_ld2, ↓xDet_ld3, ↓xDet_ld4, World.size_drew, 
      Nat.zero_add, cell_drew, frozen_drew, cell_set_eq, cell_set_o, cell_set_b, Option.map_some, World.frozen?_setCell, decide_true, decide_false, List.not_mem_nil, not_false_eq_true, ↓xGuard_tt, Bool.not_true, Bool.not_false, 
      ←decide_not, ↓ld_3, ↓ld_25, ↓fa_25_0, ↓fa_25_1, ↓fa_25_2, g1, g2, g3, g4, g5, g6, hv]
    exact ⟨by trivial, by (repeat (first | exact Ext.refl _ _ | refine Ext.alloc' ?_ _ | refine Ext.drew' ?_ | refine Ext.set' ?_ (.inr (by first | omega | (simp only [World.size_alloc, World.size_drew, World.size_setCell] <;> omega))) | assumption | refine Ext.trans ?_ (by assumption)))⟩
  by_cases g7 : 8192 < n
  · have hv : checkV s l n = 1 := checkV_1 (by unfold badGeom; omega)
    simp (disch := (first | omega | (simp only [World.size_alloc, World.size_setCell, World.size_drew, List.mem_cons, List.not_mem_nil, or_false, not_false_eq_true] <;> omega) | fail)) only [↓xBox_r, ↓loadK_some, ↓loadsK_s, ↓loadsK_n, ↓loadsR_s, ↓loadsR_n, ↓storesK_s, ↓storesK_n, setCells_c, setCells_n, World.setCell_alloc_at, World.setCell_alloc_past, World.cell?_alloc_at, World.cell?_alloc_past, 
      World.frozen?_alloc_at, World.frozen?_alloc_past, World.size_alloc, ↓xPick_t, ↓xPick_f, ↓xGuard_tt, ↓xGuard_ff, ↓xGuard_tf, ↓xGuard_ft, ↓xIf_t, tick_eq, tickV_eq, ne_eq, not_true_eq_false, Int.reduceEq, Int.reduceLT, Int.reduceLE, 
      Bool.false_and, Bool.true_and, Bool.and_true, Bool.and_false, ↓xBin_add', ↓xBin_sub', ↓xBin_mul', ↓xBin_quo', ↓xBin_rem', wrap_in, ↓xIf_f, ↓xIf_tt, ↓xEx0, ↓xEx1, ↓xEx2, ↓xEx3, ↓xBin_eqs, ↓xBin_nes, ↓xUn_not, ↓u8_rem, 
      ↓u8_neq, ↓u8_lss, ↓u8_gtr, ↓u16_rem, ↓u16_neq, ↓u16_lss, ↓u16_gtr, ↓u32_rem, ↓u32_neq, ↓u32_lss, ↓u32_gtr, ↓u64_rem, ↓u64_neq, ↓u64_lss, ↓u64_gtr, ↓i64_lss, ↓i64_gtr, ↓i64_neq, ↓i64_neg, Int.toNat_natCast, Int.reduceToNat, 
      Nat.reduceMul, Nat.reduceAdd, Nat.reduceSub, Nat.mul_one, List.nil_append, List.cons_append, List.getElem?_toArray, List.getElem?_cons_zero, List.getElem?_cons_succ, cells_int, cells_bool, cells_string, cells_slice, 
      cells_pointer, cells_agg, one_int, one_bool, one_string, one_slice, one_pointer, List.setIfInBounds_toArray, List.set_cons_zero, List.set_cons_succ, ↓xDet_s, ↓xDet_ld, ↓xDet_ld2, ↓xDet_ld3, ↓xDet_ld4, World.size_drew, 
      Nat.zero_add, cell_drew, frozen_drew, cell_set_eq, cell_set_o, cell_set_b, Option.map_some, World.frozen?_setCell, decide_true, decide_false, List.not_mem_nil, not_false_eq_true, ↓xGuard_tt, Bool.not_true, Bool.not_false, 
      ←decide_not, ↓ld_3, ↓ld_25, ↓fa_25_0, ↓fa_25_1, ↓fa_25_2, g1, g2, g3, g4, g5, g6, g7, hv]
    exact ⟨by trivial, by (repeat (first | exact Ext.refl _ _ | refine Ext.alloc' ?_ _ | refine Ext.drew' ?_ | refine Ext.set' ?_ (.inr (by first | omega | (simp only [World.size_alloc, World.size_drew, World.size_setCell] <;> omega))) | assumption | refine Ext.trans ?_ (by assumption)))⟩
  simp (disch := (first | omega | (simp only [World.size_alloc, World.size_setCell, World.size_drew, List.mem_cons, List.not_mem_nil, or_false, not_false_eq_true] <;> omega) | fail)) only [↓xBox_r, ↓loadK_some, ↓loadsK_s, ↓loadsK_n, ↓loadsR_s, ↓loadsR_n, ↓storesK_s, ↓storesK_n, setCells_c, setCells_n, World.setCell_alloc_at, World.setCell_alloc_past, World.cell?_alloc_at, World.cell?_alloc_past, 
      World.frozen?_alloc_at, World.frozen?_alloc_past, World.size_alloc, ↓xPick_t, ↓xPick_f, ↓xGuard_tt, ↓xGuard_ff, ↓xGuard_tf, ↓xGuard_ft, ↓xIf_t, tick_eq, tickV_eq, ne_eq, not_true_eq_false, Int.reduceEq, Int.reduceLT, Int.reduceLE, 
      Bool.false_and, Bool.true_and, Bool.and_true, Bool.and_false, ↓xBin_add', ↓xBin_sub', ↓xBin_mul', ↓xBin_quo', ↓xBin_rem', wrap_in, ↓xIf_f, ↓xIf_tt, ↓xEx0, ↓xEx1, ↓xEx2, ↓xEx3, ↓xBin_eqs, ↓xBin_nes, ↓xUn_not, ↓u8_rem, 
      ↓u8_neq, ↓u8_lss, ↓u8_gtr, ↓u16_rem, ↓u16_neq, ↓u16_lss, ↓u16_gtr, ↓u32_rem, ↓u32_neq, ↓u32_lss, ↓u32_gtr, ↓u64_rem, ↓u64_neq, ↓u64_lss, ↓u64_gtr, ↓i64_lss, ↓i64_gtr, ↓i64_neq, ↓i64_neg, Int.toNat_natCast, Int.reduceToNat, 
      Nat.reduceMul, Nat.reduceAdd, Nat.reduceSub, Nat.mul_one, List.nil_append, List.cons_append, List.getElem?_toArray, List.getElem?_cons_zero, List.getElem?_cons_succ, cells_int, cells_bool, cells_string, cells_slice, 
      cells_pointer, cells_agg, one_int, one_bool, one_string, one_slice, one_pointer, List.setIfInBounds_toArray, List.set_cons_zero, List.set_cons_succ, ↓xDet_s, ↓xDet_ld, ↓xDet_ld2, ↓xDet_ld3, ↓xDet_ld4, World.size_drew, 
      Nat.zero_add, cell_drew, frozen_drew, cell_set_eq, cell_set_o, cell_set_b, Option.map_some, World.frozen?_setCell, decide_true, decide_false, List.not_mem_nil, not_false_eq_true, ↓xGuard_tt, Bool.not_true, Bool.not_false, 
      ←decide_not, ↓ld_3, ↓ld_25, ↓fa_25_0, ↓fa_25_1, ↓fa_25_2, g1, g2, g3, g4, g5, g6, g7]
  refine loamref4_Sectors_call (Gives.to (rSectors_spec s l n _ (by omega) (by omega) (by omega) (by omega) (by omega) (by omega) (by omega)) fun w1 E1 => ?_)
  have z1 := E1.size
  try simp only [World.size_alloc, World.size_setCell, World.size_drew] at z1
  have e1_0 : ∀ o, w1.cell? ⟨w.heap.size, o, none⟩ = _ := fun o => E1.cell_o (by first | omega | (simp only [World.size_alloc, World.size_setCell, World.size_drew] <;> omega))
  by_cases g8 : 16384 < 2 + l + 2 * one s n
  · have hv : checkV s l n = 1 := checkV_1 (by unfold badGeom; omega)
    simp (disch := (first | omega | (simp only [World.size_alloc, World.size_setCell, World.size_drew, List.mem_cons, List.not_mem_nil, or_false, not_false_eq_true] <;> omega) | fail)) only [↓xBox_r, ↓loadK_some, ↓loadsK_s, ↓loadsK_n, ↓loadsR_s, ↓loadsR_n, ↓storesK_s, ↓storesK_n, setCells_c, setCells_n, World.setCell_alloc_at, World.setCell_alloc_past, World.cell?_alloc_at, World.cell?_alloc_past, 
      World.frozen?_alloc_at, World.frozen?_alloc_past, World.size_alloc, ↓xPick_t, ↓xPick_f, ↓xGuard_tt, ↓xGuard_ff, ↓xGuard_tf, ↓xGuard_ft, ↓xIf_t, tick_eq, tickV_eq, ne_eq, not_true_eq_false, Int.reduceEq, Int.reduceLT, Int.reduceLE, 
      Bool.false_and, Bool.true_and, Bool.and_true, Bool.and_false, ↓xBin_add', ↓xBin_sub', ↓xBin_mul', ↓xBin_quo', ↓xBin_rem', wrap_in, ↓xIf_f, ↓xIf_tt, ↓xEx0, ↓xEx1, ↓xEx2, ↓xEx3, ↓xBin_eqs, ↓xBin_nes, ↓xUn_not, ↓u8_rem, 
      ↓u8_neq, ↓u8_lss, ↓u8_gtr, ↓u16_rem, ↓u16_neq, ↓u16_lss, ↓u16_gtr, ↓u32_rem, ↓u32_neq, ↓u32_lss, ↓u32_gtr, ↓u64_rem, ↓u64_neq, ↓u64_lss, ↓u64_gtr, ↓i64_lss, ↓i64_gtr, ↓i64_neq, ↓i64_neg, Int.toNat_natCast, Int.reduceToNat, 
      Nat.reduceMul, Nat.reduceAdd, Nat.reduceSub, Nat.mul_one, List.nil_append, List.cons_append, List.getElem?_toArray, List.getElem?_cons_zero, List.getElem?_cons_succ, cells_int, cells_bool, cells_string, cells_slice, 
      cells_pointer, cells_agg, one_int, one_bool, one_string, one_slice, one_pointer, List.setIfInBounds_toArray, List.set_cons_zero, List.set_cons_succ, ↓xDet_s, ↓xDet_ld, ↓xDet_ld2, ↓xDet_ld3, ↓xDet_ld4, World.size_drew, 
      Nat.zero_add, cell_drew, frozen_drew, cell_set_eq, cell_set_o, cell_set_b, Option.map_some, World.frozen?_setCell, decide_true, decide_false, List.not_mem_nil, not_false_eq_true, ↓xGuard_tt, Bool.not_true, Bool.not_false, 
      ←decide_not, ↓ld_3, ↓ld_25, ↓fa_25_0, ↓fa_25_1, ↓fa_25_2, g1, g2, g3, g4, g5, g6, g7, e1_0, g8, hv]
    exact ⟨by trivial, by (repeat (first | exact Ext.refl _ _ | refine Ext.alloc' ?_ _ | refine Ext.drew' ?_ | refine Ext.set' ?_ (.inr (by first | omega | (simp only [World.size_alloc, World.size_drew, World.size_setCell] <;> omega))) | assumption | refine Ext.trans ?_ (by assumption)))⟩
  have hv : checkV s l n = 0 := checkV_0 (by unfold badGeom; omega)
  simp (disch := (first | omega | (simp only [World.size_alloc, World.size_setCell, World.size_drew, List.mem_cons, List.not_mem_nil, or_false, not_false_eq_true] <;> omega) | fail)) only [↓xBox_r, ↓loadK_some, ↓loadsK_s, ↓loadsK_n, ↓loadsR_s, ↓loadsR_n, ↓storesK_s, ↓storesK_n, setCells_c, setCells_n, World.setCell_alloc_at, World.setCell_alloc_past, World.cell?_alloc_at, World.cell?_alloc_past, 
      World.frozen?_alloc_at, World.frozen?_alloc_past, World.size_alloc, ↓xPick_t, ↓xPick_f, ↓xGuard_tt, ↓xGuard_ff, ↓xGuard_tf, ↓xGuard_ft, ↓xIf_t, tick_eq, tickV_eq, ne_eq, not_true_eq_false, Int.reduceEq, Int.reduceLT, Int.reduceLE, 
      Bool.false_and, Bool.true_and, Bool.and_true, Bool.and_false, ↓xBin_add', ↓xBin_sub', ↓xBin_mul', ↓xBin_quo', ↓xBin_rem', wrap_in, ↓xIf_f, ↓xIf_tt, ↓xEx0, ↓xEx1, ↓xEx2, ↓xEx3, ↓xBin_eqs, ↓xBin_nes, ↓xUn_not, ↓u8_rem, 
      ↓u8_neq, ↓u8_lss, ↓u8_gtr, ↓u16_rem, ↓u16_neq, ↓u16_lss, ↓u16_gtr, ↓u32_rem, ↓u32_neq, ↓u32_lss, ↓u32_gtr, ↓u64_rem, ↓u64_neq, ↓u64_lss, ↓u64_gtr, ↓i64_lss, ↓i64_gtr, ↓i64_neq, ↓i64_neg, Int.toNat_natCast, Int.reduceToNat, 
      Nat.reduceMul, Nat.reduceAdd, Nat.reduceSub, Nat.mul_one, List.nil_append, List.cons_append, List.getElem?_toArray, List.getElem?_cons_zero, List.getElem?_cons_succ, cells_int, cells_bool, cells_string, cells_slice, 
      cells_pointer, cells_agg, one_int, one_bool, one_string, one_slice, one_pointer, List.setIfInBounds_toArray, List.set_cons_zero, List.set_cons_succ, ↓xDet_s, ↓xDet_ld, ↓xDet_ld2, ↓xDet_ld3, ↓xDet_ld4, World.size_drew, 
      Nat.zero_add, cell_drew, frozen_drew, cell_set_eq, cell_set_o, cell_set_b, Option.map_some, World.frozen?_setCell, decide_true, decide_false, List.not_mem_nil, not_false_eq_true, ↓xGuard_tt, Bool.not_true, Bool.not_false, 
      ←decide_not, ↓ld_3, ↓ld_25, ↓fa_25_0, ↓fa_25_1, ↓fa_25_2, g1, g2, g3, g4, g5, g6, g7, e1_0, g8, hv]
  exact ⟨by trivial, by (repeat (first | exact Ext.refl _ _ | refine Ext.alloc' ?_ _ | refine Ext.drew' ?_ | refine Ext.set' ?_ (.inr (by first | omega | (simp only [World.size_alloc, World.size_drew, World.size_setCell] <;> omega))) | assumption | refine Ext.trans ?_ (by assumption)))⟩

theorem Of4_spec (s l n : Int) (w : World) : Gives Try.prog n_loamlaw4_Of #[gm s l n] w (gm s l n) := by
  refine loamlaw4_Of_of ?_
  unfold loamlaw4_Of
  simp (disch := (first | omega | (simp only [World.size_alloc, World.size_setCell, World.size_drew, List.mem_cons, List.not_mem_nil, or_false, not_false_eq_true] <;> omega) | fail)) only [↓xBox_r, ↓loadK_some, ↓loadsK_s, ↓loadsK_n, ↓loadsR_s, ↓loadsR_n, ↓storesK_s, ↓storesK_n, setCells_c, setCells_n, World.setCell_alloc_at, World.setCell_alloc_past, World.cell?_alloc_at, World.cell?_alloc_past, 
      World.frozen?_alloc_at, World.frozen?_alloc_past, World.size_alloc, ↓xPick_t, ↓xPick_f, ↓xGuard_tt, ↓xGuard_ff, ↓xGuard_tf, ↓xGuard_ft, ↓xIf_t, tick_eq, tickV_eq, ne_eq, not_true_eq_false, Int.reduceEq, Int.reduceLT, Int.reduceLE, 
      Bool.false_and, Bool.true_and, Bool.and_true, Bool.and_false, ↓xBin_add', ↓xBin_sub', ↓xBin_mul', ↓xBin_quo', ↓xBin_rem', wrap_in, ↓xIf_f, ↓xIf_tt, ↓xEx0, ↓xEx1, ↓xEx2, ↓xEx3, ↓xBin_eqs, ↓xBin_nes, ↓xUn_not, Int.toNat_natCast, 
      Int.reduceToNat, Nat.reduceMul, Nat.reduceAdd, Nat.reduceSub, Nat.mul_one, List.nil_append, List.cons_append, List.getElem?_toArray, List.getElem?_cons_zero, List.getElem?_cons_succ, cells_int, cells_bool, cells_string, 
      cells_slice, cells_pointer, cells_agg, one_int, one_bool, one_string, one_slice, one_pointer, List.setIfInBounds_toArray, List.set_cons_zero, List.set_cons_succ, ↓xDet_s, ↓xDet_ld, ↓xDet_ld2, ↓xDet_ld3, ↓xDet_ld4, 
      World.size_drew, Nat.zero_add, cell_drew, frozen_drew, cell_set_eq, cell_set_o, cell_set_b, Option.map_some, World.frozen?_setCell, decide_true, decide_false, List.not_mem_nil, not_false_eq_true, ↓xGuard_tt, Bool.not_true, 
      Bool.not_false, ←decide_not, ↓ld_3, ↓lr_25, ↓fa_23_0, ↓fa_23_1, ↓fa_23_2, ↓al_25, ↓st_25, ↓bd_25_0_1_2, eq_self]
  exact ⟨by trivial, by (repeat (first | exact Ext.refl _ _ | refine Ext.alloc' ?_ _ | refine Ext.drew' ?_ | refine Ext.set' ?_ (.inr (by first | omega | (simp only [World.size_alloc, World.size_drew, World.size_setCell] <;> omega))) | assumption | refine Ext.trans ?_ (by assumption)))⟩
theorem rLog_spec (s l n : Int) (w : World) : Gives Try.prog n_loamref4_Log #[gm s l n] w (.agg #[i64 2, i64 l]) := by
  refine loamref4_Log_of ?_
  unfold loamref4_Log
  simp (disch := (first | omega | (simp only [World.size_alloc, World.size_setCell, World.size_drew, List.mem_cons, List.not_mem_nil, or_false, not_false_eq_true] <;> omega) | fail)) only [↓xBox_r, ↓loadK_some, ↓loadsK_s, ↓loadsK_n, ↓loadsR_s, ↓loadsR_n, ↓storesK_s, ↓storesK_n, setCells_c, setCells_n, World.setCell_alloc_at, World.setCell_alloc_past, World.cell?_alloc_at, World.cell?_alloc_past, 
      World.frozen?_alloc_at, World.frozen?_alloc_past, World.size_alloc, ↓xPick_t, ↓xPick_f, ↓xGuard_tt, ↓xGuard_ff, ↓xGuard_tf, ↓xGuard_ft, ↓xIf_t, tick_eq, tickV_eq, ne_eq, not_true_eq_false, Int.reduceEq, Int.reduceLT, Int.reduceLE, 
      Bool.false_and, Bool.true_and, Bool.and_true, Bool.and_false, ↓xBin_add', ↓xBin_sub', ↓xBin_mul', ↓xBin_quo', ↓xBin_rem', wrap_in, ↓xIf_f, ↓xIf_tt, ↓xEx0, ↓xEx1, ↓xEx2, ↓xEx3, ↓xBin_eqs, ↓xBin_nes, ↓xUn_not, Int.toNat_natCast, 
      Int.reduceToNat, Nat.reduceMul, Nat.reduceAdd, Nat.reduceSub, Nat.mul_one, List.nil_append, List.cons_append, List.getElem?_toArray, List.getElem?_cons_zero, List.getElem?_cons_succ, cells_int, cells_bool, cells_string, 
      cells_slice, cells_pointer, cells_agg, one_int, one_bool, one_string, one_slice, one_pointer, List.setIfInBounds_toArray, List.set_cons_zero, List.set_cons_succ, ↓xDet_s, ↓xDet_ld, ↓xDet_ld2, ↓xDet_ld3, ↓xDet_ld4, 
      World.size_drew, Nat.zero_add, cell_drew, frozen_drew, cell_set_eq, cell_set_o, cell_set_b, Option.map_some, World.frozen?_setCell, decide_true, decide_false, List.not_mem_nil, not_false_eq_true, ↓xGuard_tt, Bool.not_true, 
      Bool.not_false, ←decide_not, ↓ld_3, ↓lr_40, ↓fa_25_1, ↓al_40, ↓st_40, ↓bd_40_0_1, ↓bd_40, eq_self]
  exact ⟨by trivial, by (repeat (first | exact Ext.refl _ _ | refine Ext.alloc' ?_ _ | refine Ext.drew' ?_ | refine Ext.set' ?_ (.inr (by first | omega | (simp only [World.size_alloc, World.size_drew, World.size_setCell] <;> omega))) | assumption | refine Ext.trans ?_ (by assumption)))⟩
theorem same4_spec (a n : Int) (w : World) : Gives Try.prog n_loamlaw4_same #[.agg #[i64 a, i64 n], .agg #[i64 a, i64 n]] w (.bool true) := by
  refine loamlaw4_same_of ?_
  unfold loamlaw4_same
  simp (disch := (first | omega | (simp only [World.size_alloc, World.size_setCell, World.size_drew, List.mem_cons, List.not_mem_nil, or_false, not_false_eq_true] <;> omega) | fail)) only [↓xBox_r, ↓loadK_some, ↓loadsK_s, ↓loadsK_n, ↓loadsR_s, ↓loadsR_n, ↓storesK_s, ↓storesK_n, setCells_c, setCells_n, World.setCell_alloc_at, World.setCell_alloc_past, World.cell?_alloc_at, World.cell?_alloc_past, 
      World.frozen?_alloc_at, World.frozen?_alloc_past, World.size_alloc, ↓xPick_t, ↓xPick_f, ↓xGuard_tt, ↓xGuard_ff, ↓xGuard_tf, ↓xGuard_ft, ↓xIf_t, tick_eq, tickV_eq, ne_eq, not_true_eq_false, Int.reduceEq, Int.reduceLT, Int.reduceLE, 
      Bool.false_and, Bool.true_and, Bool.and_true, Bool.and_false, ↓xBin_add', ↓xBin_sub', ↓xBin_mul', ↓xBin_quo', ↓xBin_rem', wrap_in, ↓xIf_f, ↓xIf_tt, ↓xEx0, ↓xEx1, ↓xEx2, ↓xEx3, ↓xBin_eqs, ↓xBin_nes, ↓xUn_not, ↓u8_eql, 
      ↓u16_eql, ↓u32_eql, ↓u64_eql, ↓i64_eql, Int.toNat_natCast, Int.reduceToNat, Nat.reduceMul, Nat.reduceAdd, Nat.reduceSub, Nat.mul_one, List.nil_append, List.cons_append, List.getElem?_toArray, List.getElem?_cons_zero, 
      List.getElem?_cons_succ, cells_int, cells_bool, cells_string, cells_slice, cells_pointer, cells_agg, one_int, one_bool, one_string, one_slice, one_pointer, List.setIfInBounds_toArray, List.set_cons_zero, List.set_cons_succ, ↓xDet_s, 
      ↓xDet_ld, ↓xDet_ld2, ↓xDet_ld3, ↓xDet_ld4, World.size_drew, Nat.zero_add, cell_drew, frozen_drew, cell_set_eq, cell_set_o, cell_set_b, Option.map_some, World.frozen?_setCell, decide_true, decide_false, List.not_mem_nil, 
      not_false_eq_true, ↓xGuard_tt, Bool.not_true, Bool.not_false, ←decide_not, ↓ld_3, ↓fa_34_0, ↓fa_34_1, ↓fa_40_0, ↓fa_40_1, eq_self]
  exact ⟨by trivial, by (repeat (first | exact Ext.refl _ _ | refine Ext.alloc' ?_ _ | refine Ext.drew' ?_ | refine Ext.set' ?_ (.inr (by first | omega | (simp only [World.size_alloc, World.size_drew, World.size_setCell] <;> omega))) | assumption | refine Ext.trans ?_ (by assumption)))⟩

theorem rSpace_spec (s l n i : Int) (w : World) (hf : Fit s l n) (h8 : s % 8 = 0) :
    Gives Try.prog n_loamref4_Space #[gm s l n, i64 i] w (.agg #[i64 (spaceAt s l n i), i64 (spaceN s n i)]) := by
  obtain ⟨s0, s1, l0, l1, n0, n1⟩ := hf
  have ho := one_le s n (by omega) n0
  refine loamref4_Space_of ?_
  unfold loamref4_Space
  simp (disch := (first | omega | (simp only [World.size_alloc, World.size_setCell, World.size_drew, List.mem_cons, List.not_mem_nil, or_false, not_false_eq_true] <;> omega) | fail)) only [↓xBox_r, ↓loadK_some, ↓loadsK_s, ↓loadsK_n, ↓loadsR_s, ↓loadsR_n, ↓storesK_s, ↓storesK_n, setCells_c, setCells_n, World.setCell_alloc_at, World.setCell_alloc_past, World.cell?_alloc_at, World.cell?_alloc_past, 
      World.frozen?_alloc_at, World.frozen?_alloc_past, World.size_alloc, ↓xPick_t, ↓xPick_f, ↓xGuard_tt, ↓xGuard_ff, ↓xGuard_tf, ↓xGuard_ft, ↓xIf_t, tick_eq, tickV_eq, ne_eq, not_true_eq_false, Int.reduceEq, Int.reduceLT, Int.reduceLE, 
      Bool.false_and, Bool.true_and, Bool.and_true, Bool.and_false, ↓xBin_add', ↓xBin_sub', ↓xBin_mul', ↓xBin_quo', ↓xBin_rem', wrap_in, ↓xIf_f, ↓xIf_tt, ↓xEx0, ↓xEx1, ↓xEx2, ↓xEx3, ↓xBin_eqs, ↓xBin_nes, ↓xUn_not, ↓u8_add, 
      ↓u8_mul, ↓u8_neq, ↓u16_add, ↓u16_mul, ↓u16_neq, ↓u32_add, ↓u32_mul, ↓u32_neq, ↓u64_add, ↓u64_mul, ↓u64_neq, ↓i64_neq, ↓i64_neg, Int.toNat_natCast, Int.reduceToNat, Nat.reduceMul, Nat.reduceAdd, Nat.reduceSub, Nat.mul_one, 
      List.nil_append, List.cons_append, List.getElem?_toArray, List.getElem?_cons_zero, List.getElem?_cons_succ, cells_int, cells_bool, cells_string, cells_slice, cells_pointer, cells_agg, one_int, one_bool, one_string, one_slice, 
      one_pointer, List.setIfInBounds_toArray, List.set_cons_zero, List.set_cons_succ, ↓xDet_s, ↓xDet_ld, ↓xDet_ld2, ↓xDet_ld3, ↓xDet_ld4, World.size_drew, Nat.zero_add, cell_drew, frozen_drew, cell_set_eq, cell_set_o, cell_set_b, 
      Option.map_some, World.frozen?_setCell, decide_true, decide_false, List.not_mem_nil, not_false_eq_true, ↓xGuard_tt, Bool.not_true, Bool.not_false, ←decide_not, ↓ld_3, ↓ld_25, ↓lr_40, ↓fa_25_1, ↓al_40, ↓st_40, ↓bd_40_0_1, ↓bd_40, eq_self]
  by_cases h : i = 0 ∨ i = 1
  · have hx : spaceAt s l n i = 2 + l + i * one s n ∧ spaceN s n i = one s n := by simp [spaceAt, spaceN, h]
    rw [hx.1, hx.2]
    clear hx
    rcases h with rfl | rfl
    · simp (disch := (first | omega | (simp only [World.size_alloc, World.size_setCell, World.size_drew, List.mem_cons, List.not_mem_nil, or_false, not_false_eq_true] <;> omega) | fail)) only [↓xBox_r, ↓loadK_some, ↓loadsK_s, ↓loadsK_n, ↓loadsR_s, ↓loadsR_n, ↓storesK_s, ↓storesK_n, setCells_c, setCells_n, World.setCell_alloc_at, World.setCell_alloc_past, World.cell?_alloc_at, World.cell?_alloc_past, 
      World.frozen?_alloc_at, World.frozen?_alloc_past, World.size_alloc, ↓xPick_t, ↓xPick_f, ↓xGuard_tt, ↓xGuard_ff, ↓xGuard_tf, ↓xGuard_ft, ↓xIf_t, tick_eq, tickV_eq, ne_eq, not_true_eq_false, Int.reduceEq, Int.reduceLT, Int.reduceLE, 
      Bool.false_and, Bool.true_and, Bool.and_true, Bool.and_false, ↓xBin_add', ↓xBin_sub', ↓xBin_mul', ↓xBin_quo', ↓xBin_rem', wrap_in, ↓xIf_f, ↓xIf_tt, ↓xEx0, ↓xEx1, ↓xEx2, ↓xEx3, ↓xBin_eqs, ↓xBin_nes, ↓xUn_not, ↓u8_add, 
      ↓u8_mul, ↓u8_neq, ↓u16_add, ↓u16_mul, ↓u16_neq, ↓u32_add, ↓u32_mul, ↓u32_neq, ↓u64_add, ↓u64_mul, ↓u64_neq, ↓i64_neq, ↓i64_neg, Int.toNat_natCast, Int.reduceToNat, Nat.reduceMul, Nat.reduceAdd, Nat.reduceSub, Nat.mul_one, 
      List.nil_append, List.cons_append, List.getElem?_toArray, List.getElem?_cons_zero, List.getElem?_cons_succ, cells_int, cells_bool, cells_string, cells_slice, cells_pointer, cells_agg, one_int, one_bool, one_string, one_slice, 
      one_pointer, List.setIfInBounds_toArray, List.set_cons_zero, List.set_cons_succ, ↓xDet_s, ↓xDet_ld, ↓xDet_ld2, ↓xDet_ld3, ↓xDet_ld4, World.size_drew, Nat.zero_add, cell_drew, frozen_drew, cell_set_eq, cell_set_o, cell_set_b, 
      Option.map_some, World.frozen?_setCell, decide_true, decide_false, List.not_mem_nil, not_false_eq_true, ↓xGuard_tt, Bool.not_true, Bool.not_false, ←decide_not, ↓ld_3, ↓ld_25, ↓lr_40, ↓fa_25_1, ↓al_40, ↓st_40, ↓bd_40_0_1, ↓bd_40, eq_self]
      refine xDraw_ext [w.heap.size + 1] (heldL (w.heap.size + 1) 0 [i64 (2 + l + 0 * one s n), i64 (one s n)]) ?_
      simp (disch := (first | omega | (simp only [World.size_alloc, World.size_setCell, World.size_drew, List.mem_cons, List.not_mem_nil, or_false, not_false_eq_true] <;> omega) | fail)) only [↓xBox_r, ↓loadK_some, ↓loadsK_s, ↓loadsK_n, ↓loadsR_s, ↓loadsR_n, ↓storesK_s, ↓storesK_n, setCells_c, setCells_n, World.setCell_alloc_at, World.setCell_alloc_past, World.cell?_alloc_at, World.cell?_alloc_past, 
      World.frozen?_alloc_at, World.frozen?_alloc_past, World.size_alloc, ↓xPick_t, ↓xPick_f, ↓xGuard_tt, ↓xGuard_ff, ↓xGuard_tf, ↓xGuard_ft, ↓xIf_t, tick_eq, tickV_eq, ne_eq, not_true_eq_false, Int.reduceEq, Int.reduceLT, Int.reduceLE, 
      Bool.false_and, Bool.true_and, Bool.and_true, Bool.and_false, ↓xBin_add', ↓xBin_sub', ↓xBin_mul', ↓xBin_quo', ↓xBin_rem', wrap_in, ↓xIf_f, ↓xIf_tt, ↓xEx0, ↓xEx1, ↓xEx2, ↓xEx3, ↓xBin_eqs, ↓xBin_nes, ↓xUn_not, ↓u8_add, 
      ↓u8_mul, ↓u8_neq, ↓u16_add, ↓u16_mul, ↓u16_neq, ↓u32_add, ↓u32_mul, ↓u32_neq, ↓u64_add, ↓u64_mul, ↓u64_neq, ↓i64_neq, ↓i64_neg, Int.toNat_natCast, Int.reduceToNat, Nat.reduceMul, Nat.reduceAdd, Nat.reduceSub, Nat.mul_one, 
      List.nil_append, List.cons_append, List.getElem?_toArray, List.getElem?_cons_zero, List.getElem?_cons_succ, cells_int, cells_bool, cells_string, cells_slice, cells_pointer, cells_agg, one_int, one_bool, one_string, one_slice, 
      one_pointer, List.setIfInBounds_toArray, List.set_cons_zero, List.set_cons_succ, ↓xDet_s, ↓xDet_ld, ↓xDet_ld2, ↓xDet_ld3, ↓xDet_ld4, World.size_drew, Nat.zero_add, cell_drew, frozen_drew, cell_set_eq, cell_set_o, cell_set_b, 
      Option.map_some, World.frozen?_setCell, decide_true, decide_false, List.not_mem_nil, not_false_eq_true, ↓xGuard_tt, Bool.not_true, Bool.not_false, ←decide_not, ↓ld_3, ↓ld_25, ↓lr_40, ↓fa_25_1, ↓al_40, ↓st_40, ↓bd_40_0_1, ↓bd_40, eq_self]
      apply xDet_x
      · exact fun w hw => loamref4_one_call (Gives.lq (rone_spec _ _ _ _ (by omega) (by omega) h8 (by omega) (by omega)))
      simp (disch := (first | omega | (simp only [World.size_alloc, World.size_setCell, World.size_drew, List.mem_cons, List.not_mem_nil, or_false, not_false_eq_true] <;> omega) | fail)) only [↓xBox_r, ↓loadK_some, ↓loadsK_s, ↓loadsK_n, ↓loadsR_s, ↓loadsR_n, ↓storesK_s, ↓storesK_n, setCells_c, setCells_n, World.setCell_alloc_at, World.setCell_alloc_past, World.cell?_alloc_at, World.cell?_alloc_past, 
      World.frozen?_alloc_at, World.frozen?_alloc_past, World.size_alloc, ↓xPick_t, ↓xPick_f, ↓xGuard_tt, ↓xGuard_ff, ↓xGuard_tf, ↓xGuard_ft, ↓xIf_t, tick_eq, tickV_eq, ne_eq, not_true_eq_false, Int.reduceEq, Int.reduceLT, Int.reduceLE, 
      Bool.false_and, Bool.true_and, Bool.and_true, Bool.and_false, ↓xBin_add', ↓xBin_sub', ↓xBin_mul', ↓xBin_quo', ↓xBin_rem', wrap_in, ↓xIf_f, ↓xIf_tt, ↓xEx0, ↓xEx1, ↓xEx2, ↓xEx3, ↓xBin_eqs, ↓xBin_nes, ↓xUn_not, ↓u8_add, 
      ↓u8_mul, ↓u8_neq, ↓u16_add, ↓u16_mul, ↓u16_neq, ↓u32_add, ↓u32_mul, ↓u32_neq, ↓u64_add, ↓u64_mul, ↓u64_neq, ↓i64_neq, ↓i64_neg, Int.toNat_natCast, Int.reduceToNat, Nat.reduceMul, Nat.reduceAdd, Nat.reduceSub, Nat.mul_one, 
      List.nil_append, List.cons_append, List.getElem?_toArray, List.getElem?_cons_zero, List.getElem?_cons_succ, cells_int, cells_bool, cells_string, cells_slice, cells_pointer, cells_agg, one_int, one_bool, one_string, one_slice, 
      one_pointer, List.setIfInBounds_toArray, List.set_cons_zero, List.set_cons_succ, ↓xDet_s, ↓xDet_ld, ↓xDet_ld2, ↓xDet_ld3, ↓xDet_ld4, World.size_drew, Nat.zero_add, cell_drew, frozen_drew, cell_set_eq, cell_set_o, cell_set_b, 
      Option.map_some, World.frozen?_setCell, decide_true, decide_false, List.not_mem_nil, not_false_eq_true, ↓xGuard_tt, Bool.not_true, Bool.not_false, ←decide_not, ↓ld_3, ↓ld_25, ↓lr_40, ↓fa_25_1, ↓al_40, ↓st_40, ↓bd_40_0_1, ↓bd_40, eq_self]
      apply xDet_x
      · exact fun w hw => loamref4_one_call (Gives.lq (rone_spec _ _ _ _ (by omega) (by omega) h8 (by omega) (by omega)))
      simp (disch := (first | omega | (simp only [World.size_alloc, World.size_setCell, World.size_drew, List.mem_cons, List.not_mem_nil, or_false, not_false_eq_true] <;> omega) | fail)) only [↓xBox_r, ↓loadK_some, ↓loadsK_s, ↓loadsK_n, ↓loadsR_s, ↓loadsR_n, ↓storesK_s, ↓storesK_n, setCells_c, setCells_n, World.setCell_alloc_at, World.setCell_alloc_past, World.cell?_alloc_at, World.cell?_alloc_past, 
      World.frozen?_alloc_at, World.frozen?_alloc_past, World.size_alloc, ↓xPick_t, ↓xPick_f, ↓xGuard_tt, ↓xGuard_ff, ↓xGuard_tf, ↓xGuard_ft, ↓xIf_t, tick_eq, tickV_eq, ne_eq, not_true_eq_false, Int.reduceEq, Int.reduceLT, Int.reduceLE, 
      Bool.false_and, Bool.true_and, Bool.and_true, Bool.and_false, ↓xBin_add', ↓xBin_sub', ↓xBin_mul', ↓xBin_quo', ↓xBin_rem', wrap_in, ↓xIf_f, ↓xIf_tt, ↓xEx0, ↓xEx1, ↓xEx2, ↓xEx3, ↓xBin_eqs, ↓xBin_nes, ↓xUn_not, ↓u8_add, 
      ↓u8_mul, ↓u8_neq, ↓u16_add, ↓u16_mul, ↓u16_neq, ↓u32_add, ↓u32_mul, ↓u32_neq, ↓u64_add, ↓u64_mul, ↓u64_neq, ↓i64_neq, ↓i64_neg, Int.toNat_natCast, Int.reduceToNat, Nat.reduceMul, Nat.reduceAdd, Nat.reduceSub, Nat.mul_one, 
      List.nil_append, List.cons_append, List.getElem?_toArray, List.getElem?_cons_zero, List.getElem?_cons_succ, cells_int, cells_bool, cells_string, cells_slice, cells_pointer, cells_agg, one_int, one_bool, one_string, one_slice, 
      one_pointer, List.setIfInBounds_toArray, List.set_cons_zero, List.set_cons_succ, ↓xDet_s, ↓xDet_ld, ↓xDet_ld2, ↓xDet_ld3, ↓xDet_ld4, World.size_drew, Nat.zero_add, cell_drew, frozen_drew, cell_set_eq, cell_set_o, cell_set_b, 
      Option.map_some, World.frozen?_setCell, decide_true, decide_false, List.not_mem_nil, not_false_eq_true, ↓xGuard_tt, Bool.not_true, Bool.not_false, ←decide_not, ↓ld_3, ↓ld_25, ↓lr_40, ↓fa_25_1, ↓al_40, ↓st_40, ↓bd_40_0_1, ↓bd_40, eq_self]
      refine xNon_st1 (b := w.heap.size + 1) (cs := [i64 (2 + l + 0 * one s n), i64 (one s n)]) (by simp only [World.size_alloc]) ?_ ?_ ?_ ?_ ?_
      · kernel_rfl
      · rfl
      · simp
      · simp (disch := (first | omega | (simp only [World.size_alloc, World.size_setCell, World.size_drew, List.mem_cons, List.not_mem_nil, or_false, not_false_eq_true] <;> omega) | fail)) [roomy, Value.oneCell', cell_drew, frozen_drew]
      intro u
      refine ⟨fun w9 hw9 => ?_⟩
      obtain ⟨hq, hh⟩ := hw9
      have c0 : w9.cell? ⟨w.heap.size + 1, 0, none⟩ = _ := hh 0 _ rfl
      have c1 : w9.cell? ⟨w.heap.size + 1, 1, none⟩ = _ := hh 1 _ rfl
      simp (disch := (first | omega | (simp only [World.size_alloc, World.size_setCell, World.size_drew, List.mem_cons, List.not_mem_nil, or_false, not_false_eq_true] <;> omega) | fail)) only [↓xBox_r, ↓loadK_some, ↓loadsK_s, ↓loadsK_n, ↓loadsR_s, ↓loadsR_n, ↓storesK_s, ↓storesK_n, setCells_c, setCells_n, World.setCell_alloc_at, World.setCell_alloc_past, World.cell?_alloc_at, World.cell?_alloc_past, 
      World.frozen?_alloc_at, World.frozen?_alloc_past, World.size_alloc, ↓xPick_t, ↓xPick_f, ↓xGuard_tt, ↓xGuard_ff, ↓xGuard_tf, ↓xGuard_ft, ↓xIf_t, tick_eq, tickV_eq, ne_eq, not_true_eq_false, Int.reduceEq, Int.reduceLT, Int.reduceLE, 
      Bool.false_and, Bool.true_and, Bool.and_true, Bool.and_false, ↓xBin_add', ↓xBin_sub', ↓xBin_mul', ↓xBin_quo', ↓xBin_rem', wrap_in, ↓xIf_f, ↓xIf_tt, ↓xEx0, ↓xEx1, ↓xEx2, ↓xEx3, ↓xBin_eqs, ↓xBin_nes, ↓xUn_not, ↓u8_add, 
      ↓u8_mul, ↓u8_neq, ↓u16_add, ↓u16_mul, ↓u16_neq, ↓u32_add, ↓u32_mul, ↓u32_neq, ↓u64_add, ↓u64_mul, ↓u64_neq, ↓i64_neq, ↓i64_neg, Int.toNat_natCast, Int.reduceToNat, Nat.reduceMul, Nat.reduceAdd, Nat.reduceSub, Nat.mul_one, 
      List.nil_append, List.cons_append, List.getElem?_toArray, List.getElem?_cons_zero, List.getElem?_cons_succ, cells_int, cells_bool, cells_string, cells_slice, cells_pointer, cells_agg, one_int, one_bool, one_string, one_slice, 
      one_pointer, List.setIfInBounds_toArray, List.set_cons_zero, List.set_cons_succ, ↓xDet_s, ↓xDet_ld, ↓xDet_ld2, ↓xDet_ld3, ↓xDet_ld4, World.size_drew, Nat.zero_add, cell_drew, frozen_drew, cell_set_eq, cell_set_o, cell_set_b, 
      Option.map_some, World.frozen?_setCell, decide_true, decide_false, List.not_mem_nil, not_false_eq_true, ↓xGuard_tt, Bool.not_true, Bool.not_false, ←decide_not, ↓ld_3, ↓ld_25, ↓lr_40, ↓fa_25_1, ↓al_40, ↓st_40, ↓bd_40_0_1, ↓bd_40, eq_self, c0, c1]
      refine ⟨by trivial, Ext.new (a := w) (w := ((w.alloc (.cells (gm s l n).cells 25)).alloc (.cells #[i64 0, i64 0] 40)).drew) ?_ hq.ext ?_⟩
      · (repeat (first | exact Ext.refl _ _ | refine Ext.alloc' ?_ _ | refine Ext.drew' ?_ | refine Ext.set' ?_ (.inr (by first | omega | (simp only [World.size_alloc, World.size_drew, World.size_setCell] <;> omega))) | assumption | refine Ext.trans ?_ (by assumption)))
      · simp
    · simp (disch := (first | omega | (simp only [World.size_alloc, World.size_setCell, World.size_drew, List.mem_cons, List.not_mem_nil, or_false, not_false_eq_true] <;> omega) | fail)) only [↓xBox_r, ↓loadK_some, ↓loadsK_s, ↓loadsK_n, ↓loadsR_s, ↓loadsR_n, ↓storesK_s, ↓storesK_n, setCells_c, setCells_n, World.setCell_alloc_at, World.setCell_alloc_past, World.cell?_alloc_at, World.cell?_alloc_past, 
      World.frozen?_alloc_at, World.frozen?_alloc_past, World.size_alloc, ↓xPick_t, ↓xPick_f, ↓xGuard_tt, ↓xGuard_ff, ↓xGuard_tf, ↓xGuard_ft, ↓xIf_t, tick_eq, tickV_eq, ne_eq, not_true_eq_false, Int.reduceEq, Int.reduceLT, Int.reduceLE, 
      Bool.false_and, Bool.true_and, Bool.and_true, Bool.and_false, ↓xBin_add', ↓xBin_sub', ↓xBin_mul', ↓xBin_quo', ↓xBin_rem', wrap_in, ↓xIf_f, ↓xIf_tt, ↓xEx0, ↓xEx1, ↓xEx2, ↓xEx3, ↓xBin_eqs, ↓xBin_nes, ↓xUn_not, ↓u8_add, 
      ↓u8_mul, ↓u8_neq, ↓u16_add, ↓u16_mul, ↓u16_neq, ↓u32_add, ↓u32_mul, ↓u32_neq, ↓u64_add, ↓u64_mul, ↓u64_neq, ↓i64_neq, ↓i64_neg, Int.toNat_natCast, Int.reduceToNat, Nat.reduceMul, Nat.reduceAdd, Nat.reduceSub, Nat.mul_one, 
      List.nil_append, List.cons_append, List.getElem?_toArray, List.getElem?_cons_zero, List.getElem?_cons_succ, cells_int, cells_bool, cells_string, cells_slice, cells_pointer, cells_agg, one_int, one_bool, one_string, one_slice, 
      one_pointer, List.setIfInBounds_toArray, List.set_cons_zero, List.set_cons_succ, ↓xDet_s, ↓xDet_ld, ↓xDet_ld2, ↓xDet_ld3, ↓xDet_ld4, World.size_drew, Nat.zero_add, cell_drew, frozen_drew, cell_set_eq, cell_set_o, cell_set_b, 
      Option.map_some, World.frozen?_setCell, decide_true, decide_false, List.not_mem_nil, not_false_eq_true, ↓xGuard_tt, Bool.not_true, Bool.not_false, ←decide_not, ↓ld_3, ↓ld_25, ↓lr_40, ↓fa_25_1, ↓al_40, ↓st_40, ↓bd_40_0_1, ↓bd_40, eq_self]
      refine xDraw_ext [w.heap.size + 1] (heldL (w.heap.size + 1) 0 [i64 (2 + l + 1 * one s n), i64 (one s n)]) ?_
      simp (disch := (first | omega | (simp only [World.size_alloc, World.size_setCell, World.size_drew, List.mem_cons, List.not_mem_nil, or_false, not_false_eq_true] <;> omega) | fail)) only [↓xBox_r, ↓loadK_some, ↓loadsK_s, ↓loadsK_n, ↓loadsR_s, ↓loadsR_n, ↓storesK_s, ↓storesK_n, setCells_c, setCells_n, World.setCell_alloc_at, World.setCell_alloc_past, World.cell?_alloc_at, World.cell?_alloc_past, 
      World.frozen?_alloc_at, World.frozen?_alloc_past, World.size_alloc, ↓xPick_t, ↓xPick_f, ↓xGuard_tt, ↓xGuard_ff, ↓xGuard_tf, ↓xGuard_ft, ↓xIf_t, tick_eq, tickV_eq, ne_eq, not_true_eq_false, Int.reduceEq, Int.reduceLT, Int.reduceLE, 
      Bool.false_and, Bool.true_and, Bool.and_true, Bool.and_false, ↓xBin_add', ↓xBin_sub', ↓xBin_mul', ↓xBin_quo', ↓xBin_rem', wrap_in, ↓xIf_f, ↓xIf_tt, ↓xEx0, ↓xEx1, ↓xEx2, ↓xEx3, ↓xBin_eqs, ↓xBin_nes, ↓xUn_not, ↓u8_add, 
      ↓u8_mul, ↓u8_neq, ↓u16_add, ↓u16_mul, ↓u16_neq, ↓u32_add, ↓u32_mul, ↓u32_neq, ↓u64_add, ↓u64_mul, ↓u64_neq, ↓i64_neq, ↓i64_neg, Int.toNat_natCast, Int.reduceToNat, Nat.reduceMul, Nat.reduceAdd, Nat.reduceSub, Nat.mul_one, 
      List.nil_append, List.cons_append, List.getElem?_toArray, List.getElem?_cons_zero, List.getElem?_cons_succ, cells_int, cells_bool, cells_string, cells_slice, cells_pointer, cells_agg, one_int, one_bool, one_string, one_slice, 
      one_pointer, List.setIfInBounds_toArray, List.set_cons_zero, List.set_cons_succ, ↓xDet_s, ↓xDet_ld, ↓xDet_ld2, ↓xDet_ld3, ↓xDet_ld4, World.size_drew, Nat.zero_add, cell_drew, frozen_drew, cell_set_eq, cell_set_o, cell_set_b, 
      Option.map_some, World.frozen?_setCell, decide_true, decide_false, List.not_mem_nil, not_false_eq_true, ↓xGuard_tt, Bool.not_true, Bool.not_false, ←decide_not, ↓ld_3, ↓ld_25, ↓lr_40, ↓fa_25_1, ↓al_40, ↓st_40, ↓bd_40_0_1, ↓bd_40, eq_self]
      apply xDet_x
      · exact fun w hw => loamref4_one_call (Gives.lq (rone_spec _ _ _ _ (by omega) (by omega) h8 (by omega) (by omega)))
      simp (disch := (first | omega | (simp only [World.size_alloc, World.size_setCell, World.size_drew, List.mem_cons, List.not_mem_nil, or_false, not_false_eq_true] <;> omega) | fail)) only [↓xBox_r, ↓loadK_some, ↓loadsK_s, ↓loadsK_n, ↓loadsR_s, ↓loadsR_n, ↓storesK_s, ↓storesK_n, setCells_c, setCells_n, World.setCell_alloc_at, World.setCell_alloc_past, World.cell?_alloc_at, World.cell?_alloc_past, 
      World.frozen?_alloc_at, World.frozen?_alloc_past, World.size_alloc, ↓xPick_t, ↓xPick_f, ↓xGuard_tt, ↓xGuard_ff, ↓xGuard_tf, ↓xGuard_ft, ↓xIf_t, tick_eq, tickV_eq, ne_eq, not_true_eq_false, Int.reduceEq, Int.reduceLT, Int.reduceLE, 
      Bool.false_and, Bool.true_and, Bool.and_true, Bool.and_false, ↓xBin_add', ↓xBin_sub', ↓xBin_mul', ↓xBin_quo', ↓xBin_rem', wrap_in, ↓xIf_f, ↓xIf_tt, ↓xEx0, ↓xEx1, ↓xEx2, ↓xEx3, ↓xBin_eqs, ↓xBin_nes, ↓xUn_not, ↓u8_add, 
      ↓u8_mul, ↓u8_neq, ↓u16_add, ↓u16_mul, ↓u16_neq, ↓u32_add, ↓u32_mul, ↓u32_neq, ↓u64_add, ↓u64_mul, ↓u64_neq, ↓i64_neq, ↓i64_neg, Int.toNat_natCast, Int.reduceToNat, Nat.reduceMul, Nat.reduceAdd, Nat.reduceSub, Nat.mul_one, 
      List.nil_append, List.cons_append, List.getElem?_toArray, List.getElem?_cons_zero, List.getElem?_cons_succ, cells_int, cells_bool, cells_string, cells_slice, cells_pointer, cells_agg, one_int, one_bool, one_string, one_slice, 
      one_pointer, List.setIfInBounds_toArray, List.set_cons_zero, List.set_cons_succ, ↓xDet_s, ↓xDet_ld, ↓xDet_ld2, ↓xDet_ld3, ↓xDet_ld4, World.size_drew, Nat.zero_add, cell_drew, frozen_drew, cell_set_eq, cell_set_o, cell_set_b, 
      Option.map_some, World.frozen?_setCell, decide_true, decide_false, List.not_mem_nil, not_false_eq_true, ↓xGuard_tt, Bool.not_true, Bool.not_false, ←decide_not, ↓ld_3, ↓ld_25, ↓lr_40, ↓fa_25_1, ↓al_40, ↓st_40, ↓bd_40_0_1, ↓bd_40, eq_self]
      apply xDet_x
      · exact fun w hw => loamref4_one_call (Gives.lq (rone_spec _ _ _ _ (by omega) (by omega) h8 (by omega) (by omega)))
      simp (disch := (first | omega | (simp only [World.size_alloc, World.size_setCell, World.size_drew, List.mem_cons, List.not_mem_nil, or_false, not_false_eq_true] <;> omega) | fail)) only [↓xBox_r, ↓loadK_some, ↓loadsK_s, ↓loadsK_n, ↓loadsR_s, ↓loadsR_n, ↓storesK_s, ↓storesK_n, setCells_c, setCells_n, World.setCell_alloc_at, World.setCell_alloc_past, World.cell?_alloc_at, World.cell?_alloc_past, 
      World.frozen?_alloc_at, World.frozen?_alloc_past, World.size_alloc, ↓xPick_t, ↓xPick_f, ↓xGuard_tt, ↓xGuard_ff, ↓xGuard_tf, ↓xGuard_ft, ↓xIf_t, tick_eq, tickV_eq, ne_eq, not_true_eq_false, Int.reduceEq, Int.reduceLT, Int.reduceLE, 
      Bool.false_and, Bool.true_and, Bool.and_true, Bool.and_false, ↓xBin_add', ↓xBin_sub', ↓xBin_mul', ↓xBin_quo', ↓xBin_rem', wrap_in, ↓xIf_f, ↓xIf_tt, ↓xEx0, ↓xEx1, ↓xEx2, ↓xEx3, ↓xBin_eqs, ↓xBin_nes, ↓xUn_not, ↓u8_add, 
      ↓u8_mul, ↓u8_neq, ↓u16_add, ↓u16_mul, ↓u16_neq, ↓u32_add, ↓u32_mul, ↓u32_neq, ↓u64_add, ↓u64_mul, ↓u64_neq, ↓i64_neq, ↓i64_neg, Int.toNat_natCast, Int.reduceToNat, Nat.reduceMul, Nat.reduceAdd, Nat.reduceSub, Nat.mul_one, 
      List.nil_append, List.cons_append, List.getElem?_toArray, List.getElem?_cons_zero, List.getElem?_cons_succ, cells_int, cells_bool, cells_string, cells_slice, cells_pointer, cells_agg, one_int, one_bool, one_string, one_slice, 
      one_pointer, List.setIfInBounds_toArray, List.set_cons_zero, List.set_cons_succ, ↓xDet_s, ↓xDet_ld, ↓xDet_ld2, ↓xDet_ld3, ↓xDet_ld4, World.size_drew, Nat.zero_add, cell_drew, frozen_drew, cell_set_eq, cell_set_o, cell_set_b, 
      Option.map_some, World.frozen?_setCell, decide_true, decide_false, List.not_mem_nil, not_false_eq_true, ↓xGuard_tt, Bool.not_true, Bool.not_false, ←decide_not, ↓ld_3, ↓ld_25, ↓lr_40, ↓fa_25_1, ↓al_40, ↓st_40, ↓bd_40_0_1, ↓bd_40, eq_self]
      refine xNon_st1 (b := w.heap.size + 1) (cs := [i64 (2 + l + 1 * one s n), i64 (one s n)]) (by simp only [World.size_alloc]) ?_ ?_ ?_ ?_ ?_
      · kernel_rfl
      · rfl
      · simp
      · simp (disch := (first | omega | (simp only [World.size_alloc, World.size_setCell, World.size_drew, List.mem_cons, List.not_mem_nil, or_false, not_false_eq_true] <;> omega) | fail)) [roomy, Value.oneCell', cell_drew, frozen_drew]
      intro u
      refine ⟨fun w9 hw9 => ?_⟩
      obtain ⟨hq, hh⟩ := hw9
      have c0 : w9.cell? ⟨w.heap.size + 1, 0, none⟩ = _ := hh 0 _ rfl
      have c1 : w9.cell? ⟨w.heap.size + 1, 1, none⟩ = _ := hh 1 _ rfl
      simp (disch := (first | omega | (simp only [World.size_alloc, World.size_setCell, World.size_drew, List.mem_cons, List.not_mem_nil, or_false, not_false_eq_true] <;> omega) | fail)) only [↓xBox_r, ↓loadK_some, ↓loadsK_s, ↓loadsK_n, ↓loadsR_s, ↓loadsR_n, ↓storesK_s, ↓storesK_n, setCells_c, setCells_n, World.setCell_alloc_at, World.setCell_alloc_past, World.cell?_alloc_at, World.cell?_alloc_past, 
      World.frozen?_alloc_at, World.frozen?_alloc_past, World.size_alloc, ↓xPick_t, ↓xPick_f, ↓xGuard_tt, ↓xGuard_ff, ↓xGuard_tf, ↓xGuard_ft, ↓xIf_t, tick_eq, tickV_eq, ne_eq, not_true_eq_false, Int.reduceEq, Int.reduceLT, Int.reduceLE, 
      Bool.false_and, Bool.true_and, Bool.and_true, Bool.and_false, ↓xBin_add', ↓xBin_sub', ↓xBin_mul', ↓xBin_quo', ↓xBin_rem', wrap_in, ↓xIf_f, ↓xIf_tt, ↓xEx0, ↓xEx1, ↓xEx2, ↓xEx3, ↓xBin_eqs, ↓xBin_nes, ↓xUn_not, ↓u8_add, 
      ↓u8_mul, ↓u8_neq, ↓u16_add, ↓u16_mul, ↓u16_neq, ↓u32_add, ↓u32_mul, ↓u32_neq, ↓u64_add, ↓u64_mul, ↓u64_neq, ↓i64_neq, ↓i64_neg, Int.toNat_natCast, Int.reduceToNat, Nat.reduceMul, Nat.reduceAdd, Nat.reduceSub, Nat.mul_one, 
      List.nil_append, List.cons_append, List.getElem?_toArray, List.getElem?_cons_zero, List.getElem?_cons_succ, cells_int, cells_bool, cells_string, cells_slice, cells_pointer, cells_agg, one_int, one_bool, one_string, one_slice, 
      one_pointer, List.setIfInBounds_toArray, List.set_cons_zero, List.set_cons_succ, ↓xDet_s, ↓xDet_ld, ↓xDet_ld2, ↓xDet_ld3, ↓xDet_ld4, World.size_drew, Nat.zero_add, cell_drew, frozen_drew, cell_set_eq, cell_set_o, cell_set_b, 
      Option.map_some, World.frozen?_setCell, decide_true, decide_false, List.not_mem_nil, not_false_eq_true, ↓xGuard_tt, Bool.not_true, Bool.not_false, ←decide_not, ↓ld_3, ↓ld_25, ↓lr_40, ↓fa_25_1, ↓al_40, ↓st_40, ↓bd_40_0_1, ↓bd_40, eq_self, c0, c1]
      refine ⟨by trivial, Ext.new (a := w) (w := ((w.alloc (.cells (gm s l n).cells 25)).alloc (.cells #[i64 0, i64 0] 40)).drew) ?_ hq.ext ?_⟩
      · (repeat (first | exact Ext.refl _ _ | refine Ext.alloc' ?_ _ | refine Ext.drew' ?_ | refine Ext.set' ?_ (.inr (by first | omega | (simp only [World.size_alloc, World.size_drew, World.size_setCell] <;> omega))) | assumption | refine Ext.trans ?_ (by assumption)))
      · simp
  · have h1 : i ≠ 0 := by omega
    have h2 : i ≠ 1 := by omega
    simp (disch := (first | omega | (simp only [World.size_alloc, World.size_setCell, World.size_drew, List.mem_cons, List.not_mem_nil, or_false, not_false_eq_true] <;> omega) | fail)) only [↓xBox_r, ↓loadK_some, ↓loadsK_s, ↓loadsK_n, ↓loadsR_s, ↓loadsR_n, ↓storesK_s, ↓storesK_n, setCells_c, setCells_n, World.setCell_alloc_at, World.setCell_alloc_past, World.cell?_alloc_at, World.cell?_alloc_past, 
      World.frozen?_alloc_at, World.frozen?_alloc_past, World.size_alloc, ↓xPick_t, ↓xPick_f, ↓xGuard_tt, ↓xGuard_ff, ↓xGuard_tf, ↓xGuard_ft, ↓xIf_t, tick_eq, tickV_eq, ne_eq, not_true_eq_false, Int.reduceEq, Int.reduceLT, Int.reduceLE, 
      Bool.false_and, Bool.true_and, Bool.and_true, Bool.and_false, ↓xBin_add', ↓xBin_sub', ↓xBin_mul', ↓xBin_quo', ↓xBin_rem', wrap_in, ↓xIf_f, ↓xIf_tt, ↓xEx0, ↓xEx1, ↓xEx2, ↓xEx3, ↓xBin_eqs, ↓xBin_nes, ↓xUn_not, ↓u8_add, 
      ↓u8_mul, ↓u8_neq, ↓u16_add, ↓u16_mul, ↓u16_neq, ↓u32_add, ↓u32_mul, ↓u32_neq, ↓u64_add, ↓u64_mul, ↓u64_neq, ↓i64_neq, ↓i64_neg, Int.toNat_natCast, Int.reduceToNat, Nat.reduceMul, Nat.reduceAdd, Nat.reduceSub, Nat.mul_one, 
      List.nil_append, List.cons_append, List.getElem?_toArray, List.getElem?_cons_zero, List.getElem?_cons_succ, cells_int, cells_bool, cells_string, cells_slice, cells_pointer, cells_agg, one_int, one_bool, one_string, one_slice, 
      one_pointer, List.setIfInBounds_toArray, List.set_cons_zero, List.set_cons_succ, ↓xDet_s, ↓xDet_ld, ↓xDet_ld2, ↓xDet_ld3, ↓xDet_ld4, World.size_drew, Nat.zero_add, cell_drew, frozen_drew, cell_set_eq, cell_set_o, cell_set_b, 
      Option.map_some, World.frozen?_setCell, decide_true, decide_false, List.not_mem_nil, not_false_eq_true, ↓xGuard_tt, Bool.not_true, Bool.not_false, ←decide_not, ↓ld_3, ↓ld_25, ↓lr_40, ↓fa_25_1, ↓al_40, ↓st_40, ↓bd_40_0_1, ↓bd_40, eq_self, h1, h2]
    refine ⟨by simp [spaceAt, spaceN, h1, h2], ?_⟩
    (repeat (first | exact Ext.refl _ _ | refine Ext.alloc' ?_ _ | refine Ext.drew' ?_ | refine Ext.set' ?_ (.inr (by first | omega | (simp only [World.size_alloc, World.size_drew, World.size_setCell] <;> omega))) | assumption | refine Ext.trans ?_ (by assumption)))

theorem rWord_spec (s l n i x : Int) (w : World) (hf : Fit s l n) (h8 : s % 8 = 0) :
    Gives Try.prog n_loamref4_Word #[gm s l n, i64 i, i64 x] w (.tuple #[i64 (wordAt s l n i x), i64 (wordOff s n i x)]) := by
  have hf' := hf
  obtain ⟨s0, s1, l0, l1, n0, n1⟩ := hf
  refine loamref4_Word_of ?_
  unfold loamref4_Word
  simp (disch := (first | omega | (simp only [World.size_alloc, World.size_setCell, World.size_drew, List.mem_cons, List.not_mem_nil, or_false, not_false_eq_true] <;> omega) | fail)) only [↓xBox_r, ↓loadK_some, ↓loadsK_s, ↓loadsK_n, ↓loadsR_s, ↓loadsR_n, ↓storesK_s, ↓storesK_n, setCells_c, setCells_n, World.setCell_alloc_at, World.setCell_alloc_past, World.cell?_alloc_at, World.cell?_alloc_past, 
      World.frozen?_alloc_at, World.frozen?_alloc_past, World.size_alloc, ↓xPick_t, ↓xPick_f, ↓xGuard_tt, ↓xGuard_ff, ↓xGuard_tf, ↓xGuard_ft, ↓xIf_t, tick_eq, tickV_eq, ne_eq, not_true_eq_false, Int.reduceEq, Int.reduceLT, Int.reduceLE, 
      Bool.false_and, Bool.true_and, Bool.and_true, Bool.and_false, ↓xBin_add', ↓xBin_sub', ↓xBin_mul', ↓xBin_quo', ↓xBin_rem', wrap_in, ↓xIf_f, ↓xIf_tt, ↓xEx0, ↓xEx1, ↓xEx2, ↓xEx3, ↓xBin_eqs, ↓xBin_nes, ↓xUn_not, ↓u8_add, 
      ↓u8_mul, ↓u8_rem, ↓u8_quo, ↓u8_neq, ↓u8_lss, ↓u8_geq, ↓u16_add, ↓u16_mul, ↓u16_rem, ↓u16_quo, ↓u16_neq, ↓u16_lss, ↓u16_geq, ↓u32_add, ↓u32_mul, ↓u32_rem, ↓u32_quo, ↓u32_neq, ↓u32_lss, ↓u32_geq, ↓u64_add, ↓u64_mul, 
      ↓u64_rem, ↓u64_quo, ↓u64_neq, ↓u64_lss, ↓u64_geq, ↓i64_lss, ↓i64_geq, ↓i64_neq, ↓i64_neg, Int.toNat_natCast, Int.reduceToNat, Nat.reduceMul, Nat.reduceAdd, Nat.reduceSub, Nat.mul_one, List.nil_append, List.cons_append, 
      List.getElem?_toArray, List.getElem?_cons_zero, List.getElem?_cons_succ, cells_int, cells_bool, cells_string, cells_slice, cells_pointer, cells_agg, one_int, one_bool, one_string, one_slice, one_pointer, List.setIfInBounds_toArray, 
      List.set_cons_zero, List.set_cons_succ, ↓xDet_s, ↓xDet_ld, ↓xDet_ld2, ↓xDet_ld3, ↓xDet_ld4, World.size_drew, Nat.zero_add, cell_drew, frozen_drew, cell_set_eq, cell_set_o, cell_set_b, Option.map_some, World.frozen?_setCell, 
      decide_true, decide_false, List.not_mem_nil, not_false_eq_true, ↓xGuard_tt, Bool.not_true, Bool.not_false, ←decide_not, ↓ld_3, ↓ld_25, ↓fa_25_0, ↓fa_25_2, ↓fd_40_0, eq_self]
  by_cases h : i = 0 ∨ i = 1
  rotate_left
  · have hv : wordAt s l n i x = 0 ∧ wordOff s n i x = 0 := by simp [wordAt, wordOff, h]
    have h1 : ¬ i = 0 := by omega
    have h2 : ¬ i = 1 := by omega
    simp (disch := (first | omega | (simp only [World.size_alloc, World.size_setCell, World.size_drew, List.mem_cons, List.not_mem_nil, or_false, not_false_eq_true] <;> omega) | fail)) only [↓xBox_r, ↓loadK_some, ↓loadsK_s, ↓loadsK_n, ↓loadsR_s, ↓loadsR_n, ↓storesK_s, ↓storesK_n, setCells_c, setCells_n, World.setCell_alloc_at, World.setCell_alloc_past, World.cell?_alloc_at, World.cell?_alloc_past, 
      World.frozen?_alloc_at, World.frozen?_alloc_past, World.size_alloc, ↓xPick_t, ↓xPick_f, ↓xGuard_tt, ↓xGuard_ff, ↓xGuard_tf, ↓xGuard_ft, ↓xIf_t, tick_eq, tickV_eq, ne_eq, not_true_eq_false, Int.reduceEq, Int.reduceLT, Int.reduceLE, 
      Bool.false_and, Bool.true_and, Bool.and_true, Bool.and_false, ↓xBin_add', ↓xBin_sub', ↓xBin_mul', ↓xBin_quo', ↓xBin_rem', wrap_in, ↓xIf_f, ↓xIf_tt, ↓xEx0, ↓xEx1, ↓xEx2, ↓xEx3, ↓xBin_eqs, ↓xBin_nes, ↓xUn_not, ↓u8_add, 
      ↓u8_mul, ↓u8_rem, ↓u8_quo, ↓u8_neq, ↓u8_lss, ↓u8_geq, ↓u16_add, ↓u16_mul, ↓u16_rem, ↓u16_quo, ↓u16_neq, ↓u16_lss, ↓u16_geq, ↓u32_add, ↓u32_mul, ↓u32_rem, ↓u32_quo, ↓u32_neq, ↓u32_lss, ↓u32_geq, ↓u64_add, ↓u64_mul, 
      ↓u64_rem, ↓u64_quo, ↓u64_neq, ↓u64_lss, ↓u64_geq, ↓i64_lss, ↓i64_geq, ↓i64_neq, ↓i64_neg, Int.toNat_natCast, Int.reduceToNat, Nat.reduceMul, Nat.reduceAdd, Nat.reduceSub, Nat.mul_one, List.nil_append, List.cons_append, 
      List.getElem?_toArray, List.getElem?_cons_zero, List.getElem?_cons_succ, cells_int, cells_bool, cells_string, cells_slice, cells_pointer, cells_agg, one_int, one_bool, one_string, one_slice, one_pointer, List.setIfInBounds_toArray, 
      List.set_cons_zero, List.set_cons_succ, ↓xDet_s, ↓xDet_ld, ↓xDet_ld2, ↓xDet_ld3, ↓xDet_ld4, World.size_drew, Nat.zero_add, cell_drew, frozen_drew, cell_set_eq, cell_set_o, cell_set_b, Option.map_some, World.frozen?_setCell, 
      decide_true, decide_false, List.not_mem_nil, not_false_eq_true, ↓xGuard_tt, Bool.not_true, Bool.not_false, ←decide_not, ↓ld_3, ↓ld_25, ↓fa_25_0, ↓fa_25_2, ↓fd_40_0, eq_self, h1, h2, hv.1, hv.2]
    exact ⟨by trivial, by (repeat (first | exact Ext.refl _ _ | refine Ext.alloc' ?_ _ | refine Ext.drew' ?_ | refine Ext.set' ?_ (.inr (by first | omega | (simp only [World.size_alloc, World.size_drew, World.size_setCell] <;> omega))) | assumption | refine Ext.trans ?_ (by assumption)))⟩
  have hi : (¬ i = 0 → i = 1) := by omega
  have h3 : ∀ w K, xGuard (.bool (decide ¬i = 0)) true (fun w K => K (.int .i64 i) w) w K = xGuard (.bool (decide ¬i = 0)) true (fun w K => K (.int .i64 1) w) w K := fun w K => by
    by_cases h0 : i = 0
    · subst h0; simp [xGuard_ft]
    · rw [hi h0]
  have hs := spaceAt_le s l n i hf'
  by_cases hx : 0 ≤ x ∧ x < n
  rotate_left
  · have hv : wordAt s l n i x = 0 ∧ wordOff s n i x = 0 := by simp [wordAt, wordOff, hx]
    have hb : x < 0 ∨ (¬ x < 0 ∧ n ≤ x) := by omega
    rcases h with rfl | rfl <;> rcases hb with g | ⟨g, g'⟩
    · simp (disch := (first | omega | (simp only [World.size_alloc, World.size_setCell, World.size_drew, List.mem_cons, List.not_mem_nil, or_false, not_false_eq_true] <;> omega) | fail)) only [↓xBox_r, ↓loadK_some, ↓loadsK_s, ↓loadsK_n, ↓loadsR_s, ↓loadsR_n, ↓storesK_s, ↓storesK_n, setCells_c, setCells_n, World.setCell_alloc_at, World.setCell_alloc_past, World.cell?_alloc_at, World.cell?_alloc_past, 
      World.frozen?_alloc_at, World.frozen?_alloc_past, World.size_alloc, ↓xPick_t, ↓xPick_f, ↓xGuard_tt, ↓xGuard_ff, ↓xGuard_tf, ↓xGuard_ft, ↓xIf_t, tick_eq, tickV_eq, ne_eq, not_true_eq_false, Int.reduceEq, Int.reduceLT, Int.reduceLE, 
      Bool.false_and, Bool.true_and, Bool.and_true, Bool.and_false, ↓xBin_add', ↓xBin_sub', ↓xBin_mul', ↓xBin_quo', ↓xBin_rem', wrap_in, ↓xIf_f, ↓xIf_tt, ↓xEx0, ↓xEx1, ↓xEx2, ↓xEx3, ↓xBin_eqs, ↓xBin_nes, ↓xUn_not, ↓u8_add, 
      ↓u8_mul, ↓u8_rem, ↓u8_quo, ↓u8_neq, ↓u8_lss, ↓u8_geq, ↓u16_add, ↓u16_mul, ↓u16_rem, ↓u16_quo, ↓u16_neq, ↓u16_lss, ↓u16_geq, ↓u32_add, ↓u32_mul, ↓u32_rem, ↓u32_quo, ↓u32_neq, ↓u32_lss, ↓u32_geq, ↓u64_add, ↓u64_mul, 
      ↓u64_rem, ↓u64_quo, ↓u64_neq, ↓u64_lss, ↓u64_geq, ↓i64_lss, ↓i64_geq, ↓i64_neq, ↓i64_neg, Int.toNat_natCast, Int.reduceToNat, Nat.reduceMul, Nat.reduceAdd, Nat.reduceSub, Nat.mul_one, List.nil_append, List.cons_append, 
      List.getElem?_toArray, List.getElem?_cons_zero, List.getElem?_cons_succ, cells_int, cells_bool, cells_string, cells_slice, cells_pointer, cells_agg, one_int, one_bool, one_string, one_slice, one_pointer, List.setIfInBounds_toArray, 
      List.set_cons_zero, List.set_cons_succ, ↓xDet_s, ↓xDet_ld, ↓xDet_ld2, ↓xDet_ld3, ↓xDet_ld4, World.size_drew, Nat.zero_add, cell_drew, frozen_drew, cell_set_eq, cell_set_o, cell_set_b, Option.map_some, World.frozen?_setCell, 
      decide_true, decide_false, List.not_mem_nil, not_false_eq_true, ↓xGuard_tt, Bool.not_true, Bool.not_false, ←decide_not, ↓ld_3, ↓ld_25, ↓fa_25_0, ↓fa_25_2, ↓fd_40_0, eq_self, g, hv.1, hv.2]
      exact ⟨by trivial, by (repeat (first | exact Ext.refl _ _ | refine Ext.alloc' ?_ _ | refine Ext.drew' ?_ | refine Ext.set' ?_ (.inr (by first | omega | (simp only [World.size_alloc, World.size_drew, World.size_setCell] <;> omega))) | assumption | refine Ext.trans ?_ (by assumption)))⟩
    · simp (disch := (first | omega | (simp only [World.size_alloc, World.size_setCell, World.size_drew, List.mem_cons, List.not_mem_nil, or_false, not_false_eq_true] <;> omega) | fail)) only [↓xBox_r, ↓loadK_some, ↓loadsK_s, ↓loadsK_n, ↓loadsR_s, ↓loadsR_n, ↓storesK_s, ↓storesK_n, setCells_c, setCells_n, World.setCell_alloc_at, World.setCell_alloc_past, World.cell?_alloc_at, World.cell?_alloc_past, 
      World.frozen?_alloc_at, World.frozen?_alloc_past, World.size_alloc, ↓xPick_t, ↓xPick_f, ↓xGuard_tt, ↓xGuard_ff, ↓xGuard_tf, ↓xGuard_ft, ↓xIf_t, tick_eq, tickV_eq, ne_eq, not_true_eq_false, Int.reduceEq, Int.reduceLT, Int.reduceLE, 
      Bool.false_and, Bool.true_and, Bool.and_true, Bool.and_false, ↓xBin_add', ↓xBin_sub', ↓xBin_mul', ↓xBin_quo', ↓xBin_rem', wrap_in, ↓xIf_f, ↓xIf_tt, ↓xEx0, ↓xEx1, ↓xEx2, ↓xEx3, ↓xBin_eqs, ↓xBin_nes, ↓xUn_not, ↓u8_add, 
      ↓u8_mul, ↓u8_rem, ↓u8_quo, ↓u8_neq, ↓u8_lss, ↓u8_geq, ↓u16_add, ↓u16_mul, ↓u16_rem, ↓u16_quo, ↓u16_neq, ↓u16_lss, ↓u16_geq, ↓u32_add, ↓u32_mul, ↓u32_rem, ↓u32_quo, ↓u32_neq, ↓u32_lss, ↓u32_geq, ↓u64_add, ↓u64_mul, 
      ↓u64_rem, ↓u64_quo, ↓u64_neq, ↓u64_lss, ↓u64_geq, ↓i64_lss, ↓i64_geq, ↓i64_neq, ↓i64_neg, Int.toNat_natCast, Int.reduceToNat, Nat.reduceMul, Nat.reduceAdd, Nat.reduceSub, Nat.mul_one, List.nil_append, List.cons_append, 
      List.getElem?_toArray, List.getElem?_cons_zero, List.getElem?_cons_succ, cells_int, cells_bool, cells_string, cells_slice, cells_pointer, cells_agg, one_int, one_bool, one_string, one_slice, one_pointer, List.setIfInBounds_toArray, 
      List.set_cons_zero, List.set_cons_succ, ↓xDet_s, ↓xDet_ld, ↓xDet_ld2, ↓xDet_ld3, ↓xDet_ld4, World.size_drew, Nat.zero_add, cell_drew, frozen_drew, cell_set_eq, cell_set_o, cell_set_b, Option.map_some, World.frozen?_setCell, 
      decide_true, decide_false, List.not_mem_nil, not_false_eq_true, ↓xGuard_tt, Bool.not_true, Bool.not_false, ←decide_not, ↓ld_3, ↓ld_25, ↓fa_25_0, ↓fa_25_2, ↓fd_40_0, eq_self, g, g', hv.1, hv.2]
      exact ⟨by trivial, by (repeat (first | exact Ext.refl _ _ | refine Ext.alloc' ?_ _ | refine Ext.drew' ?_ | refine Ext.set' ?_ (.inr (by first | omega | (simp only [World.size_alloc, World.size_drew, World.size_setCell] <;> omega))) | assumption | refine Ext.trans ?_ (by assumption)))⟩
    · simp (disch := (first | omega | (simp only [World.size_alloc, World.size_setCell, World.size_drew, List.mem_cons, List.not_mem_nil, or_false, not_false_eq_true] <;> omega) | fail)) only [↓xBox_r, ↓loadK_some, ↓loadsK_s, ↓loadsK_n, ↓loadsR_s, ↓loadsR_n, ↓storesK_s, ↓storesK_n, setCells_c, setCells_n, World.setCell_alloc_at, World.setCell_alloc_past, World.cell?_alloc_at, World.cell?_alloc_past, 
      World.frozen?_alloc_at, World.frozen?_alloc_past, World.size_alloc, ↓xPick_t, ↓xPick_f, ↓xGuard_tt, ↓xGuard_ff, ↓xGuard_tf, ↓xGuard_ft, ↓xIf_t, tick_eq, tickV_eq, ne_eq, not_true_eq_false, Int.reduceEq, Int.reduceLT, Int.reduceLE, 
      Bool.false_and, Bool.true_and, Bool.and_true, Bool.and_false, ↓xBin_add', ↓xBin_sub', ↓xBin_mul', ↓xBin_quo', ↓xBin_rem', wrap_in, ↓xIf_f, ↓xIf_tt, ↓xEx0, ↓xEx1, ↓xEx2, ↓xEx3, ↓xBin_eqs, ↓xBin_nes, ↓xUn_not, ↓u8_add, 
      ↓u8_mul, ↓u8_rem, ↓u8_quo, ↓u8_neq, ↓u8_lss, ↓u8_geq, ↓u16_add, ↓u16_mul, ↓u16_rem, ↓u16_quo, ↓u16_neq, ↓u16_lss, ↓u16_geq, ↓u32_add, ↓u32_mul, ↓u32_rem, ↓u32_quo, ↓u32_neq, ↓u32_lss, ↓u32_geq, ↓u64_add, ↓u64_mul, 
      ↓u64_rem, ↓u64_quo, ↓u64_neq, ↓u64_lss, ↓u64_geq, ↓i64_lss, ↓i64_geq, ↓i64_neq, ↓i64_neg, Int.toNat_natCast, Int.reduceToNat, Nat.reduceMul, Nat.reduceAdd, Nat.reduceSub, Nat.mul_one, List.nil_append, List.cons_append, 
      List.getElem?_toArray, List.getElem?_cons_zero, List.getElem?_cons_succ, cells_int, cells_bool, cells_string, cells_slice, cells_pointer, cells_agg, one_int, one_bool, one_string, one_slice, one_pointer, List.setIfInBounds_toArray, 
      List.set_cons_zero, List.set_cons_succ, ↓xDet_s, ↓xDet_ld, ↓xDet_ld2, ↓xDet_ld3, ↓xDet_ld4, World.size_drew, Nat.zero_add, cell_drew, frozen_drew, cell_set_eq, cell_set_o, cell_set_b, Option.map_some, World.frozen?_setCell, 
      decide_true, decide_false, List.not_mem_nil, not_false_eq_true, ↓xGuard_tt, Bool.not_true, Bool.not_false, ←decide_not, ↓ld_3, ↓ld_25, ↓fa_25_0, ↓fa_25_2, ↓fd_40_0, eq_self, g, hv.1, hv.2]
      exact ⟨by trivial, by (repeat (first | exact Ext.refl _ _ | refine Ext.alloc' ?_ _ | refine Ext.drew' ?_ | refine Ext.set' ?_ (.inr (by first | omega | (simp only [World.size_alloc, World.size_drew, World.size_setCell] <;> omega))) | assumption | refine Ext.trans ?_ (by assumption)))⟩
    · simp (disch := (first | omega | (simp only [World.size_alloc, World.size_setCell, World.size_drew, List.mem_cons, List.not_mem_nil, or_false, not_false_eq_true] <;> omega) | fail)) only [↓xBox_r, ↓loadK_some, ↓loadsK_s, ↓loadsK_n, ↓loadsR_s, ↓loadsR_n, ↓storesK_s, ↓storesK_n, setCells_c, setCells_n, World.setCell_alloc_at, World.setCell_alloc_past, World.cell?_alloc_at, World.cell?_alloc_past, 
      World.frozen?_alloc_at, World.frozen?_alloc_past, World.size_alloc, ↓xPick_t, ↓xPick_f, ↓xGuard_tt, ↓xGuard_ff, ↓xGuard_tf, ↓xGuard_ft, ↓xIf_t, tick_eq, tickV_eq, ne_eq, not_true_eq_false, Int.reduceEq, Int.reduceLT, Int.reduceLE, 
      Bool.false_and, Bool.true_and, Bool.and_true, Bool.and_false, ↓xBin_add', ↓xBin_sub', ↓xBin_mul', ↓xBin_quo', ↓xBin_rem', wrap_in, ↓xIf_f, ↓xIf_tt, ↓xEx0, ↓xEx1, ↓xEx2, ↓xEx3, ↓xBin_eqs, ↓xBin_nes, ↓xUn_not, ↓u8_add, 
      ↓u8_mul, ↓u8_rem, ↓u8_quo, ↓u8_neq, ↓u8_lss, ↓u8_geq, ↓u16_add, ↓u16_mul, ↓u16_rem, ↓u16_quo, ↓u16_neq, ↓u16_lss, ↓u16_geq, ↓u32_add, ↓u32_mul, ↓u32_rem, ↓u32_quo, ↓u32_neq, ↓u32_lss, ↓u32_geq, ↓u64_add, ↓u64_mul, 
      ↓u64_rem, ↓u64_quo, ↓u64_neq, ↓u64_lss, ↓u64_geq, ↓i64_lss, ↓i64_geq, ↓i64_neq, ↓i64_neg, Int.toNat_natCast, Int.reduceToNat, Nat.reduceMul, Nat.reduceAdd, Nat.reduceSub, Nat.mul_one, List.nil_append, List.cons_append, 
      List.getElem?_toArray, List.getElem?_cons_zero, List.getElem?_cons_succ, cells_int, cells_bool, cells_string, cells_slice, cells_pointer, cells_agg, one_int, one_bool, one_string, one_slice, one_pointer, List.setIfInBounds_toArray, 
      List.set_cons_zero, List.set_cons_succ, ↓xDet_s, ↓xDet_ld, ↓xDet_ld2, ↓xDet_ld3, ↓xDet_ld4, World.size_drew, Nat.zero_add, cell_drew, frozen_drew, cell_set_eq, cell_set_o, cell_set_b, Option.map_some, World.frozen?_setCell, 
      decide_true, decide_false, List.not_mem_nil, not_false_eq_true, ↓xGuard_tt, Bool.not_true, Bool.not_false, ←decide_not, ↓ld_3, ↓ld_25, ↓fa_25_0, ↓fa_25_2, ↓fd_40_0, eq_self, g, g', hv.1, hv.2]
      exact ⟨by trivial, by (repeat (first | exact Ext.refl _ _ | refine Ext.alloc' ?_ _ | refine Ext.drew' ?_ | refine Ext.set' ?_ (.inr (by first | omega | (simp only [World.size_alloc, World.size_drew, World.size_setCell] <;> omega))) | assumption | refine Ext.trans ?_ (by assumption)))⟩
  have hx1 : ¬ x < 0 := by omega
  have hx2 : ¬ n ≤ x := by omega
  have hq : 0 ≤ x / (s / 8) := Int.ediv_nonneg (by omega) (by omega)
  have hq1 : x / (s / 8) ≤ x := Int.ediv_le_self _ (by omega)
  have hr : 0 ≤ x % (s / 8) := Int.emod_nonneg _ (by omega)
  have hr1 : x % (s / 8) < s / 8 := Int.emod_lt_of_pos _ (by omega)
  have hv : wordAt s l n i x = spaceAt s l n i + x / (s / 8) ∧ wordOff s n i x = 8 * (x % (s / 8)) := by
    rw [per_q s0 h8, per_r s0 h8]; simp [wordAt, wordOff, h, hx]
  rw [hv.1, hv.2]
  rcases h with rfl | rfl
  · simp (disch := (first | omega | (simp only [World.size_alloc, World.size_setCell, World.size_drew, List.mem_cons, List.not_mem_nil, or_false, not_false_eq_true] <;> omega) | fail)) only [↓xBox_r, ↓loadK_some, ↓loadsK_s, ↓loadsK_n, ↓loadsR_s, ↓loadsR_n, ↓storesK_s, ↓storesK_n, setCells_c, setCells_n, World.setCell_alloc_at, World.setCell_alloc_past, World.cell?_alloc_at, World.cell?_alloc_past, 
      World.frozen?_alloc_at, World.frozen?_alloc_past, World.size_alloc, ↓xPick_t, ↓xPick_f, ↓xGuard_tt, ↓xGuard_ff, ↓xGuard_tf, ↓xGuard_ft, ↓xIf_t, tick_eq, tickV_eq, ne_eq, not_true_eq_false, Int.reduceEq, Int.reduceLT, Int.reduceLE, 
      Bool.false_and, Bool.true_and, Bool.and_true, Bool.and_false, ↓xBin_add', ↓xBin_sub', ↓xBin_mul', ↓xBin_quo', ↓xBin_rem', wrap_in, ↓xIf_f, ↓xIf_tt, ↓xEx0, ↓xEx1, ↓xEx2, ↓xEx3, ↓xBin_eqs, ↓xBin_nes, ↓xUn_not, ↓u8_add, 
      ↓u8_mul, ↓u8_rem, ↓u8_quo, ↓u8_neq, ↓u8_lss, ↓u8_geq, ↓u16_add, ↓u16_mul, ↓u16_rem, ↓u16_quo, ↓u16_neq, ↓u16_lss, ↓u16_geq, ↓u32_add, ↓u32_mul, ↓u32_rem, ↓u32_quo, ↓u32_neq, ↓u32_lss, ↓u32_geq, ↓u64_add, ↓u64_mul, 
      ↓u64_rem, ↓u64_quo, ↓u64_neq, ↓u64_lss, ↓u64_geq, ↓i64_lss, ↓i64_geq, ↓i64_neq, ↓i64_neg, Int.toNat_natCast, Int.reduceToNat, Nat.reduceMul, Nat.reduceAdd, Nat.reduceSub, Nat.mul_one, List.nil_append, List.cons_append, 
      List.getElem?_toArray, List.getElem?_cons_zero, List.getElem?_cons_succ, cells_int, cells_bool, cells_string, cells_slice, cells_pointer, cells_agg, one_int, one_bool, one_string, one_slice, one_pointer, List.setIfInBounds_toArray, 
      List.set_cons_zero, List.set_cons_succ, ↓xDet_s, ↓xDet_ld, ↓xDet_ld2, ↓xDet_ld3, ↓xDet_ld4, World.size_drew, Nat.zero_add, cell_drew, frozen_drew, cell_set_eq, cell_set_o, cell_set_b, Option.map_some, World.frozen?_setCell, 
      decide_true, decide_false, List.not_mem_nil, not_false_eq_true, ↓xGuard_tt, Bool.not_true, Bool.not_false, ←decide_not, ↓ld_3, ↓ld_25, ↓fa_25_0, ↓fa_25_2, ↓fd_40_0, eq_self, hx1, hx2]
    refine xDraw_ext [] [] ?_
    simp (disch := (first | omega | (simp only [World.size_alloc, World.size_setCell, World.size_drew, List.mem_cons, List.not_mem_nil, or_false, not_false_eq_true] <;> omega) | fail)) only [↓xBox_r, ↓loadK_some, ↓loadsK_s, ↓loadsK_n, ↓loadsR_s, ↓loadsR_n, ↓storesK_s, ↓storesK_n, setCells_c, setCells_n, World.setCell_alloc_at, World.setCell_alloc_past, World.cell?_alloc_at, World.cell?_alloc_past, 
      World.frozen?_alloc_at, World.frozen?_alloc_past, World.size_alloc, ↓xPick_t, ↓xPick_f, ↓xGuard_tt, ↓xGuard_ff, ↓xGuard_tf, ↓xGuard_ft, ↓xIf_t, tick_eq, tickV_eq, ne_eq, not_true_eq_false, Int.reduceEq, Int.reduceLT, Int.reduceLE, 
      Bool.false_and, Bool.true_and, Bool.and_true, Bool.and_false, ↓xBin_add', ↓xBin_sub', ↓xBin_mul', ↓xBin_quo', ↓xBin_rem', wrap_in, ↓xIf_f, ↓xIf_tt, ↓xEx0, ↓xEx1, ↓xEx2, ↓xEx3, ↓xBin_eqs, ↓xBin_nes, ↓xUn_not, ↓u8_add, 
      ↓u8_mul, ↓u8_rem, ↓u8_quo, ↓u8_neq, ↓u8_lss, ↓u8_geq, ↓u16_add, ↓u16_mul, ↓u16_rem, ↓u16_quo, ↓u16_neq, ↓u16_lss, ↓u16_geq, ↓u32_add, ↓u32_mul, ↓u32_rem, ↓u32_quo, ↓u32_neq, ↓u32_lss, ↓u32_geq, ↓u64_add, ↓u64_mul, 
      ↓u64_rem, ↓u64_quo, ↓u64_neq, ↓u64_lss, ↓u64_geq, ↓i64_lss, ↓i64_geq, ↓i64_neq, ↓i64_neg, Int.toNat_natCast, Int.reduceToNat, Nat.reduceMul, Nat.reduceAdd, Nat.reduceSub, Nat.mul_one, List.nil_append, List.cons_append, 
      List.getElem?_toArray, List.getElem?_cons_zero, List.getElem?_cons_succ, cells_int, cells_bool, cells_string, cells_slice, cells_pointer, cells_agg, one_int, one_bool, one_string, one_slice, one_pointer, List.setIfInBounds_toArray, 
      List.set_cons_zero, List.set_cons_succ, ↓xDet_s, ↓xDet_ld, ↓xDet_ld2, ↓xDet_ld3, ↓xDet_ld4, World.size_drew, Nat.zero_add, cell_drew, frozen_drew, cell_set_eq, cell_set_o, cell_set_b, Option.map_some, World.frozen?_setCell, 
      decide_true, decide_false, List.not_mem_nil, not_false_eq_true, ↓xGuard_tt, Bool.not_true, Bool.not_false, ←decide_not, ↓ld_3, ↓ld_25, ↓fa_25_0, ↓fa_25_2, ↓fd_40_0, eq_self]
    apply xDet_x
    · exact fun w hw => loamref4_Space_call (Gives.lq (rSpace_spec _ _ _ _ _ hf' h8))
    simp (disch := (first | omega | (simp only [World.size_alloc, World.size_setCell, World.size_drew, List.mem_cons, List.not_mem_nil, or_false, not_false_eq_true] <;> omega) | fail)) only [↓xBox_r, ↓loadK_some, ↓loadsK_s, ↓loadsK_n, ↓loadsR_s, ↓loadsR_n, ↓storesK_s, ↓storesK_n, setCells_c, setCells_n, World.setCell_alloc_at, World.setCell_alloc_past, World.cell?_alloc_at, World.cell?_alloc_past, 
      World.frozen?_alloc_at, World.frozen?_alloc_past, World.size_alloc, ↓xPick_t, ↓xPick_f, ↓xGuard_tt, ↓xGuard_ff, ↓xGuard_tf, ↓xGuard_ft, ↓xIf_t, tick_eq, tickV_eq, ne_eq, not_true_eq_false, Int.reduceEq, Int.reduceLT, Int.reduceLE, 
      Bool.false_and, Bool.true_and, Bool.and_true, Bool.and_false, ↓xBin_add', ↓xBin_sub', ↓xBin_mul', ↓xBin_quo', ↓xBin_rem', wrap_in, ↓xIf_f, ↓xIf_tt, ↓xEx0, ↓xEx1, ↓xEx2, ↓xEx3, ↓xBin_eqs, ↓xBin_nes, ↓xUn_not, ↓u8_add, 
      ↓u8_mul, ↓u8_rem, ↓u8_quo, ↓u8_neq, ↓u8_lss, ↓u8_geq, ↓u16_add, ↓u16_mul, ↓u16_rem, ↓u16_quo, ↓u16_neq, ↓u16_lss, ↓u16_geq, ↓u32_add, ↓u32_mul, ↓u32_rem, ↓u32_quo, ↓u32_neq, ↓u32_lss, ↓u32_geq, ↓u64_add, ↓u64_mul, 
      ↓u64_rem, ↓u64_quo, ↓u64_neq, ↓u64_lss, ↓u64_geq, ↓i64_lss, ↓i64_geq, ↓i64_neq, ↓i64_neg, Int.toNat_natCast, Int.reduceToNat, Nat.reduceMul, Nat.reduceAdd, Nat.reduceSub, Nat.mul_one, List.nil_append, List.cons_append, 
      List.getElem?_toArray, List.getElem?_cons_zero, List.getElem?_cons_succ, cells_int, cells_bool, cells_string, cells_slice, cells_pointer, cells_agg, one_int, one_bool, one_string, one_slice, one_pointer, List.setIfInBounds_toArray, 
      List.set_cons_zero, List.set_cons_succ, ↓xDet_s, ↓xDet_ld, ↓xDet_ld2, ↓xDet_ld3, ↓xDet_ld4, World.size_drew, Nat.zero_add, cell_drew, frozen_drew, cell_set_eq, cell_set_o, cell_set_b, Option.map_some, World.frozen?_setCell, 
      decide_true, decide_false, List.not_mem_nil, not_false_eq_true, ↓xGuard_tt, Bool.not_true, Bool.not_false, ←decide_not, ↓ld_3, ↓ld_25, ↓fa_25_0, ↓fa_25_2, ↓fd_40_0, eq_self]
    refine xEnd_i fun w2 hw => ⟨by trivial, Ext.trans ?_ hw.ext⟩
    (repeat (first | exact Ext.refl _ _ | refine Ext.alloc' ?_ _ | refine Ext.drew' ?_ | refine Ext.set' ?_ (.inr (by first | omega | (simp only [World.size_alloc, World.size_drew, World.size_setCell] <;> omega))) | assumption | refine Ext.trans ?_ (by assumption)))
  · simp (disch := (first | omega | (simp only [World.size_alloc, World.size_setCell, World.size_drew, List.mem_cons, List.not_mem_nil, or_false, not_false_eq_true] <;> omega) | fail)) only [↓xBox_r, ↓loadK_some, ↓loadsK_s, ↓loadsK_n, ↓loadsR_s, ↓loadsR_n, ↓storesK_s, ↓storesK_n, setCells_c, setCells_n, World.setCell_alloc_at, World.setCell_alloc_past, World.cell?_alloc_at, World.cell?_alloc_past, 
      World.frozen?_alloc_at, World.frozen?_alloc_past, World.size_alloc, ↓xPick_t, ↓xPick_f, ↓xGuard_tt, ↓xGuard_ff, ↓xGuard_tf, ↓xGuard_ft, ↓xIf_t, tick_eq, tickV_eq, ne_eq, not_true_eq_false, Int.reduceEq, Int.reduceLT, Int.reduceLE, 
      Bool.false_and, Bool.true_and, Bool.and_true, Bool.and_false, ↓xBin_add', ↓xBin_sub', ↓xBin_mul', ↓xBin_quo', ↓xBin_rem', wrap_in, ↓xIf_f, ↓xIf_tt, ↓xEx0, ↓xEx1, ↓xEx2, ↓xEx3, ↓xBin_eqs, ↓xBin_nes, ↓xUn_not, ↓u8_add, 
      ↓u8_mul, ↓u8_rem, ↓u8_quo, ↓u8_neq, ↓u8_lss, ↓u8_geq, ↓u16_add, ↓u16_mul, ↓u16_rem, ↓u16_quo, ↓u16_neq, ↓u16_lss, ↓u16_geq, ↓u32_add, ↓u32_mul, ↓u32_rem, ↓u32_quo, ↓u32_neq, ↓u32_lss, ↓u32_geq, ↓u64_add, ↓u64_mul, 
      ↓u64_rem, ↓u64_quo, ↓u64_neq, ↓u64_lss, ↓u64_geq, ↓i64_lss, ↓i64_geq, ↓i64_neq, ↓i64_neg, Int.toNat_natCast, Int.reduceToNat, Nat.reduceMul, Nat.reduceAdd, Nat.reduceSub, Nat.mul_one, List.nil_append, List.cons_append, 
      List.getElem?_toArray, List.getElem?_cons_zero, List.getElem?_cons_succ, cells_int, cells_bool, cells_string, cells_slice, cells_pointer, cells_agg, one_int, one_bool, one_string, one_slice, one_pointer, List.setIfInBounds_toArray, 
      List.set_cons_zero, List.set_cons_succ, ↓xDet_s, ↓xDet_ld, ↓xDet_ld2, ↓xDet_ld3, ↓xDet_ld4, World.size_drew, Nat.zero_add, cell_drew, frozen_drew, cell_set_eq, cell_set_o, cell_set_b, Option.map_some, World.frozen?_setCell, 
      decide_true, decide_false, List.not_mem_nil, not_false_eq_true, ↓xGuard_tt, Bool.not_true, Bool.not_false, ←decide_not, ↓ld_3, ↓ld_25, ↓fa_25_0, ↓fa_25_2, ↓fd_40_0, eq_self, hx1, hx2]
    refine xDraw_ext [] [] ?_
    simp (disch := (first | omega | (simp only [World.size_alloc, World.size_setCell, World.size_drew, List.mem_cons, List.not_mem_nil, or_false, not_false_eq_true] <;> omega) | fail)) only [↓xBox_r, ↓loadK_some, ↓loadsK_s, ↓loadsK_n, ↓loadsR_s, ↓loadsR_n, ↓storesK_s, ↓storesK_n, setCells_c, setCells_n, World.setCell_alloc_at, World.setCell_alloc_past, World.cell?_alloc_at, World.cell?_alloc_past, 
      World.frozen?_alloc_at, World.frozen?_alloc_past, World.size_alloc, ↓xPick_t, ↓xPick_f, ↓xGuard_tt, ↓xGuard_ff, ↓xGuard_tf, ↓xGuard_ft, ↓xIf_t, tick_eq, tickV_eq, ne_eq, not_true_eq_false, Int.reduceEq, Int.reduceLT, Int.reduceLE, 
      Bool.false_and, Bool.true_and, Bool.and_true, Bool.and_false, ↓xBin_add', ↓xBin_sub', ↓xBin_mul', ↓xBin_quo', ↓xBin_rem', wrap_in, ↓xIf_f, ↓xIf_tt, ↓xEx0, ↓xEx1, ↓xEx2, ↓xEx3, ↓xBin_eqs, ↓xBin_nes, ↓xUn_not, ↓u8_add, 
      ↓u8_mul, ↓u8_rem, ↓u8_quo, ↓u8_neq, ↓u8_lss, ↓u8_geq, ↓u16_add, ↓u16_mul, ↓u16_rem, ↓u16_quo, ↓u16_neq, ↓u16_lss, ↓u16_geq, ↓u32_add, ↓u32_mul, ↓u32_rem, ↓u32_quo, ↓u32_neq, ↓u32_lss, ↓u32_geq, ↓u64_add, ↓u64_mul, 
      ↓u64_rem, ↓u64_quo, ↓u64_neq, ↓u64_lss, ↓u64_geq, ↓i64_lss, ↓i64_geq, ↓i64_neq, ↓i64_neg, Int.toNat_natCast, Int.reduceToNat, Nat.reduceMul, Nat.reduceAdd, Nat.reduceSub, Nat.mul_one, List.nil_append, List.cons_append, 
      List.getElem?_toArray, List.getElem?_cons_zero, List.getElem?_cons_succ, cells_int, cells_bool, cells_string, cells_slice, cells_pointer, cells_agg, one_int, one_bool, one_string, one_slice, one_pointer, List.setIfInBounds_toArray, 
      List.set_cons_zero, List.set_cons_succ, ↓xDet_s, ↓xDet_ld, ↓xDet_ld2, ↓xDet_ld3, ↓xDet_ld4, World.size_drew, Nat.zero_add, cell_drew, frozen_drew, cell_set_eq, cell_set_o, cell_set_b, Option.map_some, World.frozen?_setCell, 
      decide_true, decide_false, List.not_mem_nil, not_false_eq_true, ↓xGuard_tt, Bool.not_true, Bool.not_false, ←decide_not, ↓ld_3, ↓ld_25, ↓fa_25_0, ↓fa_25_2, ↓fd_40_0, eq_self]
    apply xDet_x
    · exact fun w hw => loamref4_Space_call (Gives.lq (rSpace_spec _ _ _ _ _ hf' h8))
    simp (disch := (first | omega | (simp only [World.size_alloc, World.size_setCell, World.size_drew, List.mem_cons, List.not_mem_nil, or_false, not_false_eq_true] <;> omega) | fail)) only [↓xBox_r, ↓loadK_some, ↓loadsK_s, ↓loadsK_n, ↓loadsR_s, ↓loadsR_n, ↓storesK_s, ↓storesK_n, setCells_c, setCells_n, World.setCell_alloc_at, World.setCell_alloc_past, World.cell?_alloc_at, World.cell?_alloc_past, 
      World.frozen?_alloc_at, World.frozen?_alloc_past, World.size_alloc, ↓xPick_t, ↓xPick_f, ↓xGuard_tt, ↓xGuard_ff, ↓xGuard_tf, ↓xGuard_ft, ↓xIf_t, tick_eq, tickV_eq, ne_eq, not_true_eq_false, Int.reduceEq, Int.reduceLT, Int.reduceLE, 
      Bool.false_and, Bool.true_and, Bool.and_true, Bool.and_false, ↓xBin_add', ↓xBin_sub', ↓xBin_mul', ↓xBin_quo', ↓xBin_rem', wrap_in, ↓xIf_f, ↓xIf_tt, ↓xEx0, ↓xEx1, ↓xEx2, ↓xEx3, ↓xBin_eqs, ↓xBin_nes, ↓xUn_not, ↓u8_add, 
      ↓u8_mul, ↓u8_rem, ↓u8_quo, ↓u8_neq, ↓u8_lss, ↓u8_geq, ↓u16_add, ↓u16_mul, ↓u16_rem, ↓u16_quo, ↓u16_neq, ↓u16_lss, ↓u16_geq, ↓u32_add, ↓u32_mul, ↓u32_rem, ↓u32_quo, ↓u32_neq, ↓u32_lss, ↓u32_geq, ↓u64_add, ↓u64_mul, 
      ↓u64_rem, ↓u64_quo, ↓u64_neq, ↓u64_lss, ↓u64_geq, ↓i64_lss, ↓i64_geq, ↓i64_neq, ↓i64_neg, Int.toNat_natCast, Int.reduceToNat, Nat.reduceMul, Nat.reduceAdd, Nat.reduceSub, Nat.mul_one, List.nil_append, List.cons_append, 
      List.getElem?_toArray, List.getElem?_cons_zero, List.getElem?_cons_succ, cells_int, cells_bool, cells_string, cells_slice, cells_pointer, cells_agg, one_int, one_bool, one_string, one_slice, one_pointer, List.setIfInBounds_toArray, 
      List.set_cons_zero, List.set_cons_succ, ↓xDet_s, ↓xDet_ld, ↓xDet_ld2, ↓xDet_ld3, ↓xDet_ld4, World.size_drew, Nat.zero_add, cell_drew, frozen_drew, cell_set_eq, cell_set_o, cell_set_b, Option.map_some, World.frozen?_setCell, 
      decide_true, decide_false, List.not_mem_nil, not_false_eq_true, ↓xGuard_tt, Bool.not_true, Bool.not_false, ←decide_not, ↓ld_3, ↓ld_25, ↓fa_25_0, ↓fa_25_2, ↓fd_40_0, eq_self]
    refine xEnd_i fun w2 hw => ⟨by trivial, Ext.trans ?_ hw.ext⟩
    (repeat (first | exact Ext.refl _ _ | refine Ext.alloc' ?_ _ | refine Ext.drew' ?_ | refine Ext.set' ?_ (.inr (by first | omega | (simp only [World.size_alloc, World.size_drew, World.size_setCell] <;> omega))) | assumption | refine Ext.trans ?_ (by assumption)))

theorem rOwner_spec (s l n x : Int) (w : World) (hf : Fit s l n) (h8 : s % 8 = 0) : Gives Try.prog n_loamref4_Owner #[gm s l n, i64 x] w (.string (ownerV s l n x)) := by
  have hf' := hf
  obtain ⟨s0, s1, l0, l1, n0, n1⟩ := hf
  have ho := one_le s n (by omega) n0
  refine loamref4_Owner_of ?_
  unfold loamref4_Owner
  simp (disch := (first | omega | (simp only [World.size_alloc, World.size_setCell, World.size_drew, List.mem_cons, List.not_mem_nil, or_false, not_false_eq_true] <;> omega) | fail)) only [↓xBox_r, ↓loadK_some, ↓loadsK_s, ↓loadsK_n, ↓loadsR_s, ↓loadsR_n, ↓storesK_s, ↓storesK_n, setCells_c, setCells_n, World.setCell_alloc_at, World.setCell_alloc_past, World.cell?_alloc_at, World.cell?_alloc_past, 
      World.frozen?_alloc_at, World.frozen?_alloc_past, World.size_alloc, ↓xPick_t, ↓xPick_f, ↓xGuard_tt, ↓xGuard_ff, ↓xGuard_tf, ↓xGuard_ft, ↓xIf_t, tick_eq, tickV_eq, ne_eq, not_true_eq_false, Int.reduceEq, Int.reduceLT, Int.reduceLE, 
      Bool.false_and, Bool.true_and, Bool.and_true, Bool.and_false, ↓xBin_add', ↓xBin_sub', ↓xBin_mul', ↓xBin_quo', ↓xBin_rem', wrap_in, ↓xIf_f, ↓xIf_tt, ↓xEx0, ↓xEx1, ↓xEx2, ↓xEx3, ↓xBin_eqs, ↓xBin_nes, ↓xUn_not, ↓u8_add, 
      ↓u8_lss, ↓u8_geq, ↓u16_add, ↓u16_lss, ↓u16_geq, ↓u32_add, ↓u32_lss, ↓u32_geq, ↓u64_add, ↓u64_lss, ↓u64_geq, ↓i64_lss, ↓i64_geq, Int.toNat_natCast, Int.reduceToNat, Nat.reduceMul, Nat.reduceAdd, Nat.reduceSub, Nat.mul_one, 
      List.nil_append, List.cons_append, List.getElem?_toArray, List.getElem?_cons_zero, List.getElem?_cons_succ, cells_int, cells_bool, cells_string, cells_slice, cells_pointer, cells_agg, one_int, one_bool, one_string, one_slice, 
      one_pointer, List.setIfInBounds_toArray, List.set_cons_zero, List.set_cons_succ, ↓xDet_s, ↓xDet_ld, ↓xDet_ld2, ↓xDet_ld3, ↓xDet_ld4, World.size_drew, Nat.zero_add, cell_drew, frozen_drew, cell_set_eq, cell_set_o, cell_set_b, 
      Option.map_some, World.frozen?_setCell, decide_true, decide_false, List.not_mem_nil, not_false_eq_true, ↓xGuard_tt, Bool.not_true, Bool.not_false, ←decide_not, ↓ld_3, ↓ld_25, ↓fa_25_1, eq_self]
  by_cases g1 : x < 0
  · have hv : ownerV s l n x = ⟨#[]⟩ := by simp only [ownerV, if_pos g1]
    simp (disch := (first | omega | (simp only [World.size_alloc, World.size_setCell, World.size_drew, List.mem_cons, List.not_mem_nil, or_false, not_false_eq_true] <;> omega) | fail)) only [↓xBox_r, ↓loadK_some, ↓loadsK_s, ↓loadsK_n, ↓loadsR_s, ↓loadsR_n, ↓storesK_s, ↓storesK_n, setCells_c, setCells_n, World.setCell_alloc_at, World.setCell_alloc_past, World.cell?_alloc_at, World.cell?_alloc_past, 
      World.frozen?_alloc_at, World.frozen?_alloc_past, World.size_alloc, ↓xPick_t, ↓xPick_f, ↓xGuard_tt, ↓xGuard_ff, ↓xGuard_tf, ↓xGuard_ft, ↓xIf_t, tick_eq, tickV_eq, ne_eq, not_true_eq_false, Int.reduceEq, Int.reduceLT, Int.reduceLE, 
      Bool.false_and, Bool.true_and, Bool.and_true, Bool.and_false, ↓xBin_add', ↓xBin_sub', ↓xBin_mul', ↓xBin_quo', ↓xBin_rem', wrap_in, ↓xIf_f, ↓xIf_tt, ↓xEx0, ↓xEx1, ↓xEx2, ↓xEx3, ↓xBin_eqs, ↓xBin_nes, ↓xUn_not, ↓u8_add, 
      ↓u8_lss, ↓u8_geq, ↓u16_add, ↓u16_lss, ↓u16_geq, ↓u32_add, ↓u32_lss, ↓u32_geq, ↓u64_add, ↓u64_lss, ↓u64_geq, ↓i64_lss, ↓i64_geq, Int.toNat_natCast, Int.reduceToNat, Nat.reduceMul, Nat.reduceAdd, Nat.reduceSub, Nat.mul_one, 
      List.nil_append, List.cons_append, List.getElem?_toArray, List.getElem?_cons_zero, List.getElem?_cons_succ, cells_int, cells_bool, cells_string, cells_slice, cells_pointer, cells_agg, one_int, one_bool, one_string, one_slice, 
      one_pointer, List.setIfInBounds_toArray, List.set_cons_zero, List.set_cons_succ, ↓xDet_s, ↓xDet_ld, ↓xDet_ld2, ↓xDet_ld3, ↓xDet_ld4, World.size_drew, Nat.zero_add, cell_drew, frozen_drew, cell_set_eq, cell_set_o, cell_set_b, 
      Option.map_some, World.frozen?_setCell, decide_true, decide_false, List.not_mem_nil, not_false_eq_true, ↓xGuard_tt, Bool.not_true, Bool.not_false, ←decide_not, ↓ld_3, ↓ld_25, ↓fa_25_1, eq_self, g1, hv]
    exact ⟨by trivial, by (repeat (first | exact Ext.refl _ _ | refine Ext.alloc' ?_ _ | refine Ext.drew' ?_ | refine Ext.set' ?_ (.inr (by first | omega | (simp only [World.size_alloc, World.size_drew, World.size_setCell] <;> omega))) | assumption | refine Ext.trans ?_ (by assumption)))⟩
  simp (disch := (first | omega | (simp only [World.size_alloc, World.size_setCell, World.size_drew, List.mem_cons, List.not_mem_nil, or_false, not_false_eq_true] <;> omega) | fail)) only [↓xBox_r, ↓loadK_some, ↓loadsK_s, ↓loadsK_n, ↓loadsR_s, ↓loadsR_n, ↓storesK_s, ↓storesK_n, setCells_c, setCells_n, World.setCell_alloc_at, World.setCell_alloc_past, World.cell?_alloc_at, World.cell?_alloc_past, 
      World.frozen?_alloc_at, World.frozen?_alloc_past, World.size_alloc, ↓xPick_t, ↓xPick_f, ↓xGuard_tt, ↓xGuard_ff, ↓xGuard_tf, ↓xGuard_ft, ↓xIf_t, tick_eq, tickV_eq, ne_eq, not_true_eq_false, Int.reduceEq, Int.reduceLT, Int.reduceLE, 
      Bool.false_and, Bool.true_and, Bool.and_true, Bool.and_false, ↓xBin_add', ↓xBin_sub', ↓xBin_mul', ↓xBin_quo', ↓xBin_rem', wrap_in, ↓xIf_f, ↓xIf_tt, ↓xEx0, ↓xEx1, ↓xEx2, ↓xEx3, ↓xBin_eqs, ↓xBin_nes, ↓xUn_not, ↓u8_add, 
      ↓u8_lss, ↓u8_geq, ↓u16_add, ↓u16_lss, ↓u16_geq, ↓u32_add, ↓u32_lss, ↓u32_geq, ↓u64_add, ↓u64_lss, ↓u64_geq, ↓i64_lss, ↓i64_geq, Int.toNat_natCast, Int.reduceToNat, Nat.reduceMul, Nat.reduceAdd, Nat.reduceSub, Nat.mul_one, 
      List.nil_append, List.cons_append, List.getElem?_toArray, List.getElem?_cons_zero, List.getElem?_cons_succ, cells_int, cells_bool, cells_string, cells_slice, cells_pointer, cells_agg, one_int, one_bool, one_string, one_slice, 
      one_pointer, List.setIfInBounds_toArray, List.set_cons_zero, List.set_cons_succ, ↓xDet_s, ↓xDet_ld, ↓xDet_ld2, ↓xDet_ld3, ↓xDet_ld4, World.size_drew, Nat.zero_add, cell_drew, frozen_drew, cell_set_eq, cell_set_o, cell_set_b, 
      Option.map_some, World.frozen?_setCell, decide_true, decide_false, List.not_mem_nil, not_false_eq_true, ↓xGuard_tt, Bool.not_true, Bool.not_false, ←decide_not, ↓ld_3, ↓ld_25, ↓fa_25_1, g1]
  refine loamref4_Sectors_call (Gives.to (rSectors_spec s l n _ s0 s1 h8 n0 n1 l0 l1) fun w1 E1 => ?_)
  have z1 := E1.size
  try simp only [World.size_alloc, World.size_setCell, World.size_drew] at z1
  have e1_0 : ∀ o, w1.cell? ⟨w.heap.size, o, none⟩ = _ := fun o => E1.cell_o (by first | omega | (simp only [World.size_alloc, World.size_setCell, World.size_drew] <;> omega))
  by_cases g2 : 2 + l + 2 * one s n ≤ x
  · have hv : ownerV s l n x = ⟨#[]⟩ := by simp only [ownerV, if_neg g1, if_neg (show ¬ x < 2 by omega), if_neg (show ¬ x < 2 + l by omega), if_neg (show ¬ x < 2 + l + 2 * one s n by omega)]
    simp (disch := (first | omega | (simp only [World.size_alloc, World.size_setCell, World.size_drew, List.mem_cons, List.not_mem_nil, or_false, not_false_eq_true] <;> omega) | fail)) only [↓xBox_r, ↓loadK_some, ↓loadsK_s, ↓loadsK_n, ↓loadsR_s, ↓loadsR_n, ↓storesK_s, ↓storesK_n, setCells_c, setCells_n, World.setCell_alloc_at, World.setCell_alloc_past, World.cell?_alloc_at, World.cell?_alloc_past, 
      World.frozen?_alloc_at, World.frozen?_alloc_past, World.size_alloc, ↓xPick_t, ↓xPick_f, ↓xGuard_tt, ↓xGuard_ff, ↓xGuard_tf, ↓xGuard_ft, ↓xIf_t, tick_eq, tickV_eq, ne_eq, not_true_eq_false, Int.reduceEq, Int.reduceLT, Int.reduceLE, 
      Bool.false_and, Bool.true_and, Bool.and_true, Bool.and_false, ↓xBin_add', ↓xBin_sub', ↓xBin_mul', ↓xBin_quo', ↓xBin_rem', wrap_in, ↓xIf_f, ↓xIf_tt, ↓xEx0, ↓xEx1, ↓xEx2, ↓xEx3, ↓xBin_eqs, ↓xBin_nes, ↓xUn_not, ↓u8_add, 
      ↓u8_lss, ↓u8_geq, ↓u16_add, ↓u16_lss, ↓u16_geq, ↓u32_add, ↓u32_lss, ↓u32_geq, ↓u64_add, ↓u64_lss, ↓u64_geq, ↓i64_lss, ↓i64_geq, Int.toNat_natCast, Int.reduceToNat, Nat.reduceMul, Nat.reduceAdd, Nat.reduceSub, Nat.mul_one, 
      List.nil_append, List.cons_append, List.getElem?_toArray, List.getElem?_cons_zero, List.getElem?_cons_succ, cells_int, cells_bool, cells_string, cells_slice, cells_pointer, cells_agg, one_int, one_bool, one_string, one_slice, 
      one_pointer, List.setIfInBounds_toArray, List.set_cons_zero, List.set_cons_succ, ↓xDet_s, ↓xDet_ld, ↓xDet_ld2, ↓xDet_ld3, ↓xDet_ld4, World.size_drew, Nat.zero_add, cell_drew, frozen_drew, cell_set_eq, cell_set_o, cell_set_b, 
      Option.map_some, World.frozen?_setCell, decide_true, decide_false, List.not_mem_nil, not_false_eq_true, ↓xGuard_tt, Bool.not_true, Bool.not_false, ←decide_not, ↓ld_3, ↓ld_25, ↓fa_25_1, g1, e1_0, g2, hv]
    exact ⟨by trivial, by (repeat (first | exact Ext.refl _ _ | refine Ext.alloc' ?_ _ | refine Ext.drew' ?_ | refine Ext.set' ?_ (.inr (by first | omega | (simp only [World.size_alloc, World.size_drew, World.size_setCell] <;> omega))) | assumption | refine Ext.trans ?_ (by assumption)))⟩
  by_cases g3 : x < 2
  · have hv : ownerV s l n x = ⟨#[115, 108, 111, 116]⟩ := by simp only [ownerV, if_neg g1, if_pos g3]
    simp (disch := (first | omega | (simp only [World.size_alloc, World.size_setCell, World.size_drew, List.mem_cons, List.not_mem_nil, or_false, not_false_eq_true] <;> omega) | fail)) only [↓xBox_r, ↓loadK_some, ↓loadsK_s, ↓loadsK_n, ↓loadsR_s, ↓loadsR_n, ↓storesK_s, ↓storesK_n, setCells_c, setCells_n, World.setCell_alloc_at, World.setCell_alloc_past, World.cell?_alloc_at, World.cell?_alloc_past, 
      World.frozen?_alloc_at, World.frozen?_alloc_past, World.size_alloc, ↓xPick_t, ↓xPick_f, ↓xGuard_tt, ↓xGuard_ff, ↓xGuard_tf, ↓xGuard_ft, ↓xIf_t, tick_eq, tickV_eq, ne_eq, not_true_eq_false, Int.reduceEq, Int.reduceLT, Int.reduceLE, 
      Bool.false_and, Bool.true_and, Bool.and_true, Bool.and_false, ↓xBin_add', ↓xBin_sub', ↓xBin_mul', ↓xBin_quo', ↓xBin_rem', wrap_in, ↓xIf_f, ↓xIf_tt, ↓xEx0, ↓xEx1, ↓xEx2, ↓xEx3, ↓xBin_eqs, ↓xBin_nes, ↓xUn_not, ↓u8_add, 
      ↓u8_lss, ↓u8_geq, ↓u16_add, ↓u16_lss, ↓u16_geq, ↓u32_add, ↓u32_lss, ↓u32_geq, ↓u64_add, ↓u64_lss, ↓u64_geq, ↓i64_lss, ↓i64_geq, Int.toNat_natCast, Int.reduceToNat, Nat.reduceMul, Nat.reduceAdd, Nat.reduceSub, Nat.mul_one, 
      List.nil_append, List.cons_append, List.getElem?_toArray, List.getElem?_cons_zero, List.getElem?_cons_succ, cells_int, cells_bool, cells_string, cells_slice, cells_pointer, cells_agg, one_int, one_bool, one_string, one_slice, 
      one_pointer, List.setIfInBounds_toArray, List.set_cons_zero, List.set_cons_succ, ↓xDet_s, ↓xDet_ld, ↓xDet_ld2, ↓xDet_ld3, ↓xDet_ld4, World.size_drew, Nat.zero_add, cell_drew, frozen_drew, cell_set_eq, cell_set_o, cell_set_b, 
      Option.map_some, World.frozen?_setCell, decide_true, decide_false, List.not_mem_nil, not_false_eq_true, ↓xGuard_tt, Bool.not_true, Bool.not_false, ←decide_not, ↓ld_3, ↓ld_25, ↓fa_25_1, g1, e1_0, g2, g3, hv]
    exact ⟨by trivial, by (repeat (first | exact Ext.refl _ _ | refine Ext.alloc' ?_ _ | refine Ext.drew' ?_ | refine Ext.set' ?_ (.inr (by first | omega | (simp only [World.size_alloc, World.size_drew, World.size_setCell] <;> omega))) | assumption | refine Ext.trans ?_ (by assumption)))⟩
  by_cases g4 : x < 2 + l
  · have hv : ownerV s l n x = ⟨#[108, 111, 103]⟩ := by simp only [ownerV, if_neg g1, if_neg g3, if_pos g4]
    simp (disch := (first | omega | (simp only [World.size_alloc, World.size_setCell, World.size_drew, List.mem_cons, List.not_mem_nil, or_false, not_false_eq_true] <;> omega) | fail)) only [↓xBox_r, ↓loadK_some, ↓loadsK_s, ↓loadsK_n, ↓loadsR_s, ↓loadsR_n, ↓storesK_s, ↓storesK_n, setCells_c, setCells_n, World.setCell_alloc_at, World.setCell_alloc_past, World.cell?_alloc_at, World.cell?_alloc_past, 
      World.frozen?_alloc_at, World.frozen?_alloc_past, World.size_alloc, ↓xPick_t, ↓xPick_f, ↓xGuard_tt, ↓xGuard_ff, ↓xGuard_tf, ↓xGuard_ft, ↓xIf_t, tick_eq, tickV_eq, ne_eq, not_true_eq_false, Int.reduceEq, Int.reduceLT, Int.reduceLE, 
      Bool.false_and, Bool.true_and, Bool.and_true, Bool.and_false, ↓xBin_add', ↓xBin_sub', ↓xBin_mul', ↓xBin_quo', ↓xBin_rem', wrap_in, ↓xIf_f, ↓xIf_tt, ↓xEx0, ↓xEx1, ↓xEx2, ↓xEx3, ↓xBin_eqs, ↓xBin_nes, ↓xUn_not, ↓u8_add, 
      ↓u8_lss, ↓u8_geq, ↓u16_add, ↓u16_lss, ↓u16_geq, ↓u32_add, ↓u32_lss, ↓u32_geq, ↓u64_add, ↓u64_lss, ↓u64_geq, ↓i64_lss, ↓i64_geq, Int.toNat_natCast, Int.reduceToNat, Nat.reduceMul, Nat.reduceAdd, Nat.reduceSub, Nat.mul_one, 
      List.nil_append, List.cons_append, List.getElem?_toArray, List.getElem?_cons_zero, List.getElem?_cons_succ, cells_int, cells_bool, cells_string, cells_slice, cells_pointer, cells_agg, one_int, one_bool, one_string, one_slice, 
      one_pointer, List.setIfInBounds_toArray, List.set_cons_zero, List.set_cons_succ, ↓xDet_s, ↓xDet_ld, ↓xDet_ld2, ↓xDet_ld3, ↓xDet_ld4, World.size_drew, Nat.zero_add, cell_drew, frozen_drew, cell_set_eq, cell_set_o, cell_set_b, 
      Option.map_some, World.frozen?_setCell, decide_true, decide_false, List.not_mem_nil, not_false_eq_true, ↓xGuard_tt, Bool.not_true, Bool.not_false, ←decide_not, ↓ld_3, ↓ld_25, ↓fa_25_1, g1, e1_0, g2, g3, g4, hv]
    exact ⟨by trivial, by (repeat (first | exact Ext.refl _ _ | refine Ext.alloc' ?_ _ | refine Ext.drew' ?_ | refine Ext.set' ?_ (.inr (by first | omega | (simp only [World.size_alloc, World.size_drew, World.size_setCell] <;> omega))) | assumption | refine Ext.trans ?_ (by assumption)))⟩
  have hv : ownerV s l n x = ⟨#[115, 112, 97, 99, 101]⟩ := by simp only [ownerV, if_neg g1, if_neg g3, if_neg g4, if_pos (show x < 2 + l + 2 * one s n by omega)]
  simp (disch := (first | omega | (simp only [World.size_alloc, World.size_setCell, World.size_drew, List.mem_cons, List.not_mem_nil, or_false, not_false_eq_true] <;> omega) | fail)) only [↓xBox_r, ↓loadK_some, ↓loadsK_s, ↓loadsK_n, ↓loadsR_s, ↓loadsR_n, ↓storesK_s, ↓storesK_n, setCells_c, setCells_n, World.setCell_alloc_at, World.setCell_alloc_past, World.cell?_alloc_at, World.cell?_alloc_past, 
      World.frozen?_alloc_at, World.frozen?_alloc_past, World.size_alloc, ↓xPick_t, ↓xPick_f, ↓xGuard_tt, ↓xGuard_ff, ↓xGuard_tf, ↓xGuard_ft, ↓xIf_t, tick_eq, tickV_eq, ne_eq, not_true_eq_false, Int.reduceEq, Int.reduceLT, Int.reduceLE, 
      Bool.false_and, Bool.true_and, Bool.and_true, Bool.and_false, ↓xBin_add', ↓xBin_sub', ↓xBin_mul', ↓xBin_quo', ↓xBin_rem', wrap_in, ↓xIf_f, ↓xIf_tt, ↓xEx0, ↓xEx1, ↓xEx2, ↓xEx3, ↓xBin_eqs, ↓xBin_nes, ↓xUn_not, ↓u8_add, 
      ↓u8_lss, ↓u8_geq, ↓u16_add, ↓u16_lss, ↓u16_geq, ↓u32_add, ↓u32_lss, ↓u32_geq, ↓u64_add, ↓u64_lss, ↓u64_geq, ↓i64_lss, ↓i64_geq, Int.toNat_natCast, Int.reduceToNat, Nat.reduceMul, Nat.reduceAdd, Nat.reduceSub, Nat.mul_one, 
      List.nil_append, List.cons_append, List.getElem?_toArray, List.getElem?_cons_zero, List.getElem?_cons_succ, cells_int, cells_bool, cells_string, cells_slice, cells_pointer, cells_agg, one_int, one_bool, one_string, one_slice, 
      one_pointer, List.setIfInBounds_toArray, List.set_cons_zero, List.set_cons_succ, ↓xDet_s, ↓xDet_ld, ↓xDet_ld2, ↓xDet_ld3, ↓xDet_ld4, World.size_drew, Nat.zero_add, cell_drew, frozen_drew, cell_set_eq, cell_set_o, cell_set_b, 
      Option.map_some, World.frozen?_setCell, decide_true, decide_false, List.not_mem_nil, not_false_eq_true, ↓xGuard_tt, Bool.not_true, Bool.not_false, ←decide_not, ↓ld_3, ↓ld_25, ↓fa_25_1, g1, e1_0, g2, g3, g4, hv]
  exact ⟨by trivial, by (repeat (first | exact Ext.refl _ _ | refine Ext.alloc' ?_ _ | refine Ext.drew' ?_ | refine Ext.set' ?_ (.inr (by first | omega | (simp only [World.size_alloc, World.size_drew, World.size_setCell] <;> omega))) | assumption | refine Ext.trans ?_ (by assumption)))⟩

theorem GeomAny_spec (s l n i x sec : Int) (w : World) : Gives Try.prog n_loamlaw4_GeomAny #[gm s l n, i64 i, i64 x, i64 sec] w (.bool true) := by
  refine loamlaw4_GeomAny_of ?_
  unfold loamlaw4_GeomAny
  simp (disch := (first | omega | (simp only [World.size_alloc, World.size_setCell, World.size_drew, List.mem_cons, List.not_mem_nil, or_false, not_false_eq_true] <;> omega) | fail)) only [↓xBox_r, ↓loadK_some, ↓loadsK_s, ↓loadsK_n, ↓loadsR_s, ↓loadsR_n, ↓storesK_s, ↓storesK_n, setCells_c, setCells_n, World.setCell_alloc_at, World.setCell_alloc_past, World.cell?_alloc_at, World.cell?_alloc_past, 
      World.frozen?_alloc_at, World.frozen?_alloc_past, World.size_alloc, ↓xPick_t, ↓xPick_f, ↓xGuard_tt, ↓xGuard_ff, ↓xGuard_tf, ↓xGuard_ft, ↓xIf_t, tick_eq, tickV_eq, ne_eq, not_true_eq_false, Int.reduceEq, Int.reduceLT, Int.reduceLE, 
      Bool.false_and, Bool.true_and, Bool.and_true, Bool.and_false, ↓xBin_add', ↓xBin_sub', ↓xBin_mul', ↓xBin_quo', ↓xBin_rem', wrap_in, ↓xIf_f, ↓xIf_tt, ↓xEx0, ↓xEx1, ↓xEx2, ↓xEx3, ↓xBin_eqs, ↓xBin_nes, ↓xUn_not, ↓u8_com, 
      ↓u8_eql, ↓u8_neq, ↓u8_lss, ↓u8_gtr, ↓u16_com, ↓u16_eql, ↓u16_neq, ↓u16_lss, ↓u16_gtr, ↓u32_com, ↓u32_eql, ↓u32_neq, ↓u32_lss, ↓u32_gtr, ↓u64_com, ↓u64_eql, ↓u64_neq, ↓u64_lss, ↓u64_gtr, ↓i64_lss, ↓i64_gtr, ↓i64_eql, 
      ↓i64_neq, ↓i64_neg, Int.toNat_natCast, Int.reduceToNat, Nat.reduceMul, Nat.reduceAdd, Nat.reduceSub, Nat.mul_one, List.nil_append, List.cons_append, List.getElem?_toArray, List.getElem?_cons_zero, List.getElem?_cons_succ, 
      cells_int, cells_bool, cells_string, cells_slice, cells_pointer, cells_agg, one_int, one_bool, one_string, one_slice, one_pointer, List.setIfInBounds_toArray, List.set_cons_zero, List.set_cons_succ, ↓xDet_s, ↓xDet_ld, 
      ↓xDet_ld2, ↓xDet_ld3, ↓xDet_ld4, World.size_drew, Nat.zero_add, cell_drew, frozen_drew, cell_set_eq, cell_set_o, cell_set_b, Option.map_some, World.frozen?_setCell, decide_true, decide_false, List.not_mem_nil, not_false_eq_true, 
      ↓xGuard_tt, Bool.not_true, Bool.not_false, ←decide_not, ↓ld_3, ↓ld_23, ↓ld_25, ↓fa_23_0, ↓fa_23_1, ↓fa_23_2, ↓fa_34_0, ↓fa_34_1, ↓al_25, ↓al_35, ↓st_25, ↓st_35, ↓ia_35, eq_self]
  refine loamlaw4_known_call (Gives.to (known4_spec _) fun w1 E1 => ?_)
  have z1 := E1.size
  try simp only [World.size_alloc, World.size_setCell, World.size_drew] at z1
  have e1_0 : ∀ o, w1.cell? ⟨w.heap.size, o, none⟩ = _ := fun o => E1.cell_o (by first | omega | (simp only [World.size_alloc, World.size_setCell, World.size_drew] <;> omega))
  simp (disch := (first | omega | (simp only [World.size_alloc, World.size_setCell, World.size_drew, List.mem_cons, List.not_mem_nil, or_false, not_false_eq_true] <;> omega) | fail)) only [↓xBox_r, ↓loadK_some, ↓loadsK_s, ↓loadsK_n, ↓loadsR_s, ↓loadsR_n, ↓storesK_s, ↓storesK_n, setCells_c, setCells_n, World.setCell_alloc_at, World.setCell_alloc_past, World.cell?_alloc_at, World.cell?_alloc_past, 
      World.frozen?_alloc_at, World.frozen?_alloc_past, World.size_alloc, ↓xPick_t, ↓xPick_f, ↓xGuard_tt, ↓xGuard_ff, ↓xGuard_tf, ↓xGuard_ft, ↓xIf_t, tick_eq, tickV_eq, ne_eq, not_true_eq_false, Int.reduceEq, Int.reduceLT, Int.reduceLE, 
      Bool.false_and, Bool.true_and, Bool.and_true, Bool.and_false, ↓xBin_add', ↓xBin_sub', ↓xBin_mul', ↓xBin_quo', ↓xBin_rem', wrap_in, ↓xIf_f, ↓xIf_tt, ↓xEx0, ↓xEx1, ↓xEx2, ↓xEx3, ↓xBin_eqs, ↓xBin_nes, ↓xUn_not, ↓u8_com, 
      ↓u8_eql, ↓u8_neq, ↓u8_lss, ↓u8_gtr, ↓u16_com, ↓u16_eql, ↓u16_neq, ↓u16_lss, ↓u16_gtr, ↓u32_com, ↓u32_eql, ↓u32_neq, ↓u32_lss, ↓u32_gtr, ↓u64_com, ↓u64_eql, ↓u64_neq, ↓u64_lss, ↓u64_gtr, ↓i64_lss, ↓i64_gtr, ↓i64_eql, 
      ↓i64_neq, ↓i64_neg, Int.toNat_natCast, Int.reduceToNat, Nat.reduceMul, Nat.reduceAdd, Nat.reduceSub, Nat.mul_one, List.nil_append, List.cons_append, List.getElem?_toArray, List.getElem?_cons_zero, List.getElem?_cons_succ, 
      cells_int, cells_bool, cells_string, cells_slice, cells_pointer, cells_agg, one_int, one_bool, one_string, one_slice, one_pointer, List.setIfInBounds_toArray, List.set_cons_zero, List.set_cons_succ, ↓xDet_s, ↓xDet_ld, 
      ↓xDet_ld2, ↓xDet_ld3, ↓xDet_ld4, World.size_drew, Nat.zero_add, cell_drew, frozen_drew, cell_set_eq, cell_set_o, cell_set_b, Option.map_some, World.frozen?_setCell, decide_true, decide_false, List.not_mem_nil, not_false_eq_true, 
      ↓xGuard_tt, Bool.not_true, Bool.not_false, ←decide_not, ↓ld_3, ↓ld_23, ↓ld_25, ↓fa_23_0, ↓fa_23_1, ↓fa_23_2, ↓fa_34_0, ↓fa_34_1, ↓al_25, ↓al_35, ↓st_25, ↓st_35, ↓ia_35, e1_0]
  refine loamlaw4_Of_call (Gives.to (Of4_spec _ _ _ _) fun w2 E2 => ?_)
  have z2 := E2.size
  try simp only [World.size_alloc, World.size_setCell, World.size_drew] at z2
  have e2_0 : ∀ o, w2.cell? ⟨w.heap.size, o, none⟩ = _ := fun o => E2.cell_o (by first | omega | (simp only [World.size_alloc, World.size_setCell, World.size_drew] <;> omega))
  simp (disch := (first | omega | (simp only [World.size_alloc, World.size_setCell, World.size_drew, List.mem_cons, List.not_mem_nil, or_false, not_false_eq_true] <;> omega) | fail)) only [↓xBox_r, ↓loadK_some, ↓loadsK_s, ↓loadsK_n, ↓loadsR_s, ↓loadsR_n, ↓storesK_s, ↓storesK_n, setCells_c, setCells_n, World.setCell_alloc_at, World.setCell_alloc_past, World.cell?_alloc_at, World.cell?_alloc_past, 
      World.frozen?_alloc_at, World.frozen?_alloc_past, World.size_alloc, ↓xPick_t, ↓xPick_f, ↓xGuard_tt, ↓xGuard_ff, ↓xGuard_tf, ↓xGuard_ft, ↓xIf_t, tick_eq, tickV_eq, ne_eq, not_true_eq_false, Int.reduceEq, Int.reduceLT, Int.reduceLE, 
      Bool.false_and, Bool.true_and, Bool.and_true, Bool.and_false, ↓xBin_add', ↓xBin_sub', ↓xBin_mul', ↓xBin_quo', ↓xBin_rem', wrap_in, ↓xIf_f, ↓xIf_tt, ↓xEx0, ↓xEx1, ↓xEx2, ↓xEx3, ↓xBin_eqs, ↓xBin_nes, ↓xUn_not, ↓u8_com, 
      ↓u8_eql, ↓u8_neq, ↓u8_lss, ↓u8_gtr, ↓u16_com, ↓u16_eql, ↓u16_neq, ↓u16_lss, ↓u16_gtr, ↓u32_com, ↓u32_eql, ↓u32_neq, ↓u32_lss, ↓u32_gtr, ↓u64_com, ↓u64_eql, ↓u64_neq, ↓u64_lss, ↓u64_gtr, ↓i64_lss, ↓i64_gtr, ↓i64_eql, 
      ↓i64_neq, ↓i64_neg, Int.toNat_natCast, Int.reduceToNat, Nat.reduceMul, Nat.reduceAdd, Nat.reduceSub, Nat.mul_one, List.nil_append, List.cons_append, List.getElem?_toArray, List.getElem?_cons_zero, List.getElem?_cons_succ, 
      cells_int, cells_bool, cells_string, cells_slice, cells_pointer, cells_agg, one_int, one_bool, one_string, one_slice, one_pointer, List.setIfInBounds_toArray, List.set_cons_zero, List.set_cons_succ, ↓xDet_s, ↓xDet_ld, 
      ↓xDet_ld2, ↓xDet_ld3, ↓xDet_ld4, World.size_drew, Nat.zero_add, cell_drew, frozen_drew, cell_set_eq, cell_set_o, cell_set_b, Option.map_some, World.frozen?_setCell, decide_true, decide_false, List.not_mem_nil, not_false_eq_true, 
      ↓xGuard_tt, Bool.not_true, Bool.not_false, ←decide_not, ↓ld_3, ↓ld_23, ↓ld_25, ↓fa_23_0, ↓fa_23_1, ↓fa_23_2, ↓fa_34_0, ↓fa_34_1, ↓al_25, ↓al_35, ↓st_25, ↓st_35, ↓ia_35, e1_0, e2_0]
  by_cases b1 : 1048576 < n ∨ n < -1048576 ∨ 1048576 < l ∨ l < -1048576
  · have hv : checkV s l n = 1 := checkV_1 (by unfold badGeom; omega)
    have hc : (1048576 < n) ∨ (¬ 1048576 < n ∧ n < -1048576) ∨ (¬ 1048576 < n ∧ ¬ n < -1048576 ∧ 1048576 < l) ∨ (¬ 1048576 < n ∧ ¬ n < -1048576 ∧ ¬ 1048576 < l ∧ l < -1048576) := by omega
    rcases hc with g1 | ⟨g1, g2⟩ | ⟨g1, g2, g3⟩ | ⟨g1, g2, g3, g4⟩
    · simp (disch := (first | omega | (simp only [World.size_alloc, World.size_setCell, World.size_drew, List.mem_cons, List.not_mem_nil, or_false, not_false_eq_true] <;> omega) | fail)) only [↓xBox_r, ↓loadK_some, ↓loadsK_s, ↓loadsK_n, ↓loadsR_s, ↓loadsR_n, ↓storesK_s, ↓storesK_n, setCells_c, setCells_n, World.setCell_alloc_at, World.setCell_alloc_past, World.cell?_alloc_at, World.cell?_alloc_past, 
      World.frozen?_alloc_at, World.frozen?_alloc_past, World.size_alloc, ↓xPick_t, ↓xPick_f, ↓xGuard_tt, ↓xGuard_ff, ↓xGuard_tf, ↓xGuard_ft, ↓xIf_t, tick_eq, tickV_eq, ne_eq, not_true_eq_false, Int.reduceEq, Int.reduceLT, Int.reduceLE, 
      Bool.false_and, Bool.true_and, Bool.and_true, Bool.and_false, ↓xBin_add', ↓xBin_sub', ↓xBin_mul', ↓xBin_quo', ↓xBin_rem', wrap_in, ↓xIf_f, ↓xIf_tt, ↓xEx0, ↓xEx1, ↓xEx2, ↓xEx3, ↓xBin_eqs, ↓xBin_nes, ↓xUn_not, ↓u8_com, 
      ↓u8_eql, ↓u8_neq, ↓u8_lss, ↓u8_gtr, ↓u16_com, ↓u16_eql, ↓u16_neq, ↓u16_lss, ↓u16_gtr, ↓u32_com, ↓u32_eql, ↓u32_neq, ↓u32_lss, ↓u32_gtr, ↓u64_com, ↓u64_eql, ↓u64_neq, ↓u64_lss, ↓u64_gtr, ↓i64_lss, ↓i64_gtr, ↓i64_eql, 
      ↓i64_neq, ↓i64_neg, Int.toNat_natCast, Int.reduceToNat, Nat.reduceMul, Nat.reduceAdd, Nat.reduceSub, Nat.mul_one, List.nil_append, List.cons_append, List.getElem?_toArray, List.getElem?_cons_zero, List.getElem?_cons_succ, 
      cells_int, cells_bool, cells_string, cells_slice, cells_pointer, cells_agg, one_int, one_bool, one_string, one_slice, one_pointer, List.setIfInBounds_toArray, List.set_cons_zero, List.set_cons_succ, ↓xDet_s, ↓xDet_ld, 
      ↓xDet_ld2, ↓xDet_ld3, ↓xDet_ld4, World.size_drew, Nat.zero_add, cell_drew, frozen_drew, cell_set_eq, cell_set_o, cell_set_b, Option.map_some, World.frozen?_setCell, decide_true, decide_false, List.not_mem_nil, not_false_eq_true, 
      ↓xGuard_tt, Bool.not_true, Bool.not_false, ←decide_not, ↓ld_3, ↓ld_23, ↓ld_25, ↓fa_23_0, ↓fa_23_1, ↓fa_23_2, ↓fa_34_0, ↓fa_34_1, ↓al_25, ↓al_35, ↓st_25, ↓st_35, ↓ia_35, e1_0, e2_0, g1]
      refine geom_Check_call (Gives.to (Check_spec _ _ _ _) fun w3 E3 => ?_)
      have z3 := E3.size
      try simp only [World.size_alloc, World.size_setCell, World.size_drew] at z3
      have e3_0 : ∀ o, w3.cell? ⟨w.heap.size, o, none⟩ = _ := fun o => E3.cell_o (by first | omega | (simp only [World.size_alloc, World.size_setCell, World.size_drew] <;> omega))
      simp (disch := (first | omega | (simp only [World.size_alloc, World.size_setCell, World.size_drew, List.mem_cons, List.not_mem_nil, or_false, not_false_eq_true] <;> omega) | fail)) only [↓xBox_r, ↓loadK_some, ↓loadsK_s, ↓loadsK_n, ↓loadsR_s, ↓loadsR_n, ↓storesK_s, ↓storesK_n, setCells_c, setCells_n, World.setCell_alloc_at, World.setCell_alloc_past, World.cell?_alloc_at, World.cell?_alloc_past, 
      World.frozen?_alloc_at, World.frozen?_alloc_past, World.size_alloc, ↓xPick_t, ↓xPick_f, ↓xGuard_tt, ↓xGuard_ff, ↓xGuard_tf, ↓xGuard_ft, ↓xIf_t, tick_eq, tickV_eq, ne_eq, not_true_eq_false, Int.reduceEq, Int.reduceLT, Int.reduceLE, 
      Bool.false_and, Bool.true_and, Bool.and_true, Bool.and_false, ↓xBin_add', ↓xBin_sub', ↓xBin_mul', ↓xBin_quo', ↓xBin_rem', wrap_in, ↓xIf_f, ↓xIf_tt, ↓xEx0, ↓xEx1, ↓xEx2, ↓xEx3, ↓xBin_eqs, ↓xBin_nes, ↓xUn_not, ↓u8_com, 
      ↓u8_eql, ↓u8_neq, ↓u8_lss, ↓u8_gtr, ↓u16_com, ↓u16_eql, ↓u16_neq, ↓u16_lss, ↓u16_gtr, ↓u32_com, ↓u32_eql, ↓u32_neq, ↓u32_lss, ↓u32_gtr, ↓u64_com, ↓u64_eql, ↓u64_neq, ↓u64_lss, ↓u64_gtr, ↓i64_lss, ↓i64_gtr, ↓i64_eql, 
      ↓i64_neq, ↓i64_neg, Int.toNat_natCast, Int.reduceToNat, Nat.reduceMul, Nat.reduceAdd, Nat.reduceSub, Nat.mul_one, List.nil_append, List.cons_append, List.getElem?_toArray, List.getElem?_cons_zero, List.getElem?_cons_succ, 
      cells_int, cells_bool, cells_string, cells_slice, cells_pointer, cells_agg, one_int, one_bool, one_string, one_slice, one_pointer, List.setIfInBounds_toArray, List.set_cons_zero, List.set_cons_succ, ↓xDet_s, ↓xDet_ld, 
      ↓xDet_ld2, ↓xDet_ld3, ↓xDet_ld4, World.size_drew, Nat.zero_add, cell_drew, frozen_drew, cell_set_eq, cell_set_o, cell_set_b, Option.map_some, World.frozen?_setCell, decide_true, decide_false, List.not_mem_nil, not_false_eq_true, 
      ↓xGuard_tt, Bool.not_true, Bool.not_false, ←decide_not, ↓ld_3, ↓ld_23, ↓ld_25, ↓fa_23_0, ↓fa_23_1, ↓fa_23_2, ↓fa_34_0, ↓fa_34_1, ↓al_25, ↓al_35, ↓st_25, ↓st_35, ↓ia_35, e1_0, e2_0, e3_0, hv]
      exact ⟨by trivial, by (repeat (first | exact Ext.refl _ _ | refine Ext.alloc' ?_ _ | refine Ext.drew' ?_ | refine Ext.set' ?_ (.inr (by first | omega | (simp only [World.size_alloc, World.size_drew, World.size_setCell] <;> omega))) | assumption | refine Ext.trans ?_ (by assumption)))⟩
    · simp (disch := (first | omega | (simp only [World.size_alloc, World.size_setCell, World.size_drew, List.mem_cons, List.not_mem_nil, or_false, not_false_eq_true] <;> omega) | fail)) only [↓xBox_r, ↓loadK_some, ↓loadsK_s, ↓loadsK_n, ↓loadsR_s, ↓loadsR_n, ↓storesK_s, ↓storesK_n, setCells_c, setCells_n, World.setCell_alloc_at, World.setCell_alloc_past, World.cell?_alloc_at, World.cell?_alloc_past, 
      World.frozen?_alloc_at, World.frozen?_alloc_past, World.size_alloc, ↓xPick_t, ↓xPick_f, ↓xGuard_tt, ↓xGuard_ff, ↓xGuard_tf, ↓xGuard_ft, ↓xIf_t, tick_eq, tickV_eq, ne_eq, not_true_eq_false, Int.reduceEq, Int.reduceLT, Int.reduceLE, 
      Bool.false_and, Bool.true_and, Bool.and_true, Bool.and_false, ↓xBin_add', ↓xBin_sub', ↓xBin_mul', ↓xBin_quo', ↓xBin_rem', wrap_in, ↓xIf_f, ↓xIf_tt, ↓xEx0, ↓xEx1, ↓xEx2, ↓xEx3, ↓xBin_eqs, ↓xBin_nes, ↓xUn_not, ↓u8_com, 
      ↓u8_eql, ↓u8_neq, ↓u8_lss, ↓u8_gtr, ↓u16_com, ↓u16_eql, ↓u16_neq, ↓u16_lss, ↓u16_gtr, ↓u32_com, ↓u32_eql, ↓u32_neq, ↓u32_lss, ↓u32_gtr, ↓u64_com, ↓u64_eql, ↓u64_neq, ↓u64_lss, ↓u64_gtr, ↓i64_lss, ↓i64_gtr, ↓i64_eql, 
      ↓i64_neq, ↓i64_neg, Int.toNat_natCast, Int.reduceToNat, Nat.reduceMul, Nat.reduceAdd, Nat.reduceSub, Nat.mul_one, List.nil_append, List.cons_append, List.getElem?_toArray, List.getElem?_cons_zero, List.getElem?_cons_succ, 
      cells_int, cells_bool, cells_string, cells_slice, cells_pointer, cells_agg, one_int, one_bool, one_string, one_slice, one_pointer, List.setIfInBounds_toArray, List.set_cons_zero, List.set_cons_succ, ↓xDet_s, ↓xDet_ld, 
      ↓xDet_ld2, ↓xDet_ld3, ↓xDet_ld4, World.size_drew, Nat.zero_add, cell_drew, frozen_drew, cell_set_eq, cell_set_o, cell_set_b, Option.map_some, World.frozen?_setCell, decide_true, decide_false, List.not_mem_nil, not_false_eq_true, 
      ↓xGuard_tt, Bool.not_true, Bool.not_false, ←decide_not, ↓ld_3, ↓ld_23, ↓ld_25, ↓fa_23_0, ↓fa_23_1, ↓fa_23_2, ↓fa_34_0, ↓fa_34_1, ↓al_25, ↓al_35, ↓st_25, ↓st_35, ↓ia_35, e1_0, e2_0, g1, g2]
      refine geom_Check_call (Gives.to (Check_spec _ _ _ _) fun w4 E4 => ?_)
      have z4 := E4.size
      try simp only [World.size_alloc, World.size_setCell, World.size_drew] at z4
      have e4_0 : ∀ o, w4.cell? ⟨w.heap.size, o, none⟩ = _ := fun o => E4.cell_o (by first | omega | (simp only [World.size_alloc, World.size_setCell, World.size_drew] <;> omega))
      simp (disch := (first | omega | (simp only [World.size_alloc, World.size_setCell, World.size_drew, List.mem_cons, List.not_mem_nil, or_false, not_false_eq_true] <;> omega) | fail)) only [↓xBox_r, ↓loadK_some, ↓loadsK_s, ↓loadsK_n, ↓loadsR_s, ↓loadsR_n, ↓storesK_s, ↓storesK_n, setCells_c, setCells_n, World.setCell_alloc_at, World.setCell_alloc_past, World.cell?_alloc_at, World.cell?_alloc_past, 
      World.frozen?_alloc_at, World.frozen?_alloc_past, World.size_alloc, ↓xPick_t, ↓xPick_f, ↓xGuard_tt, ↓xGuard_ff, ↓xGuard_tf, ↓xGuard_ft, ↓xIf_t, tick_eq, tickV_eq, ne_eq, not_true_eq_false, Int.reduceEq, Int.reduceLT, Int.reduceLE, 
      Bool.false_and, Bool.true_and, Bool.and_true, Bool.and_false, ↓xBin_add', ↓xBin_sub', ↓xBin_mul', ↓xBin_quo', ↓xBin_rem', wrap_in, ↓xIf_f, ↓xIf_tt, ↓xEx0, ↓xEx1, ↓xEx2, ↓xEx3, ↓xBin_eqs, ↓xBin_nes, ↓xUn_not, ↓u8_com, 
      ↓u8_eql, ↓u8_neq, ↓u8_lss, ↓u8_gtr, ↓u16_com, ↓u16_eql, ↓u16_neq, ↓u16_lss, ↓u16_gtr, ↓u32_com, ↓u32_eql, ↓u32_neq, ↓u32_lss, ↓u32_gtr, ↓u64_com, ↓u64_eql, ↓u64_neq, ↓u64_lss, ↓u64_gtr, ↓i64_lss, ↓i64_gtr, ↓i64_eql, 
      ↓i64_neq, ↓i64_neg, Int.toNat_natCast, Int.reduceToNat, Nat.reduceMul, Nat.reduceAdd, Nat.reduceSub, Nat.mul_one, List.nil_append, List.cons_append, List.getElem?_toArray, List.getElem?_cons_zero, List.getElem?_cons_succ, 
      cells_int, cells_bool, cells_string, cells_slice, cells_pointer, cells_agg, one_int, one_bool, one_string, one_slice, one_pointer, List.setIfInBounds_toArray, List.set_cons_zero, List.set_cons_succ, ↓xDet_s, ↓xDet_ld, 
      ↓xDet_ld2, ↓xDet_ld3, ↓xDet_ld4, World.size_drew, Nat.zero_add, cell_drew, frozen_drew, cell_set_eq, cell_set_o, cell_set_b, Option.map_some, World.frozen?_setCell, decide_true, decide_false, List.not_mem_nil, not_false_eq_true, 
      ↓xGuard_tt, Bool.not_true, Bool.not_false, ←decide_not, ↓ld_3, ↓ld_23, ↓ld_25, ↓fa_23_0, ↓fa_23_1, ↓fa_23_2, ↓fa_34_0, ↓fa_34_1, ↓al_25, ↓al_35, ↓st_25, ↓st_35, ↓ia_35, e1_0, e2_0, e4_0, hv]
      exact ⟨by trivial, by (repeat (first | exact Ext.refl _ _ | refine Ext.alloc' ?_ _ | refine Ext.drew' ?_ | refine Ext.set' ?_ (.inr (by first | omega | (simp only [World.size_alloc, World.size_drew, World.size_setCell] <;> omega))) | assumption | refine Ext.trans ?_ (by assumption)))⟩
    · simp (disch := (first | omega | (simp only [World.size_alloc, World.size_setCell, World.size_drew, List.mem_cons, List.not_mem_nil, or_false, not_false_eq_true] <;> omega) | fail)) only [↓xBox_r, ↓loadK_some, ↓loadsK_s, ↓loadsK_n, ↓loadsR_s, ↓loadsR_n, ↓storesK_s, ↓storesK_n, setCells_c, setCells_n, World.setCell_alloc_at, World.setCell_alloc_past, World.cell?_alloc_at, World.cell?_alloc_past, 
      World.frozen?_alloc_at, World.frozen?_alloc_past, World.size_alloc, ↓xPick_t, ↓xPick_f, ↓xGuard_tt, ↓xGuard_ff, ↓xGuard_tf, ↓xGuard_ft, ↓xIf_t, tick_eq, tickV_eq, ne_eq, not_true_eq_false, Int.reduceEq, Int.reduceLT, Int.reduceLE, 
      Bool.false_and, Bool.true_and, Bool.and_true, Bool.and_false, ↓xBin_add', ↓xBin_sub', ↓xBin_mul', ↓xBin_quo', ↓xBin_rem', wrap_in, ↓xIf_f, ↓xIf_tt, ↓xEx0, ↓xEx1, ↓xEx2, ↓xEx3, ↓xBin_eqs, ↓xBin_nes, ↓xUn_not, ↓u8_com, 
      ↓u8_eql, ↓u8_neq, ↓u8_lss, ↓u8_gtr, ↓u16_com, ↓u16_eql, ↓u16_neq, ↓u16_lss, ↓u16_gtr, ↓u32_com, ↓u32_eql, ↓u32_neq, ↓u32_lss, ↓u32_gtr, ↓u64_com, ↓u64_eql, ↓u64_neq, ↓u64_lss, ↓u64_gtr, ↓i64_lss, ↓i64_gtr, ↓i64_eql, 
      ↓i64_neq, ↓i64_neg, Int.toNat_natCast, Int.reduceToNat, Nat.reduceMul, Nat.reduceAdd, Nat.reduceSub, Nat.mul_one, List.nil_append, List.cons_append, List.getElem?_toArray, List.getElem?_cons_zero, List.getElem?_cons_succ, 
      cells_int, cells_bool, cells_string, cells_slice, cells_pointer, cells_agg, one_int, one_bool, one_string, one_slice, one_pointer, List.setIfInBounds_toArray, List.set_cons_zero, List.set_cons_succ, ↓xDet_s, ↓xDet_ld, 
      ↓xDet_ld2, ↓xDet_ld3, ↓xDet_ld4, World.size_drew, Nat.zero_add, cell_drew, frozen_drew, cell_set_eq, cell_set_o, cell_set_b, Option.map_some, World.frozen?_setCell, decide_true, decide_false, List.not_mem_nil, not_false_eq_true, 
      ↓xGuard_tt, Bool.not_true, Bool.not_false, ←decide_not, ↓ld_3, ↓ld_23, ↓ld_25, ↓fa_23_0, ↓fa_23_1, ↓fa_23_2, ↓fa_34_0, ↓fa_34_1, ↓al_25, ↓al_35, ↓st_25, ↓st_35, ↓ia_35, e1_0, e2_0, g1, g2, g3]
      refine geom_Check_call (Gives.to (Check_spec _ _ _ _) fun w5 E5 => ?_)
      have z5 := E5.size
      try simp only [World.size_alloc, World.size_setCell, World.size_drew] at z5
      have e5_0 : ∀ o, w5.cell? ⟨w.heap.size, o, none⟩ = _ := fun o => E5.cell_o (by first | omega | (simp only [World.size_alloc, World.size_setCell, World.size_drew] <;> omega))
      simp (disch := (first | omega | (simp only [World.size_alloc, World.size_setCell, World.size_drew, List.mem_cons, List.not_mem_nil, or_false, not_false_eq_true] <;> omega) | fail)) only [↓xBox_r, ↓loadK_some, ↓loadsK_s, ↓loadsK_n, ↓loadsR_s, ↓loadsR_n, ↓storesK_s, ↓storesK_n, setCells_c, setCells_n, World.setCell_alloc_at, World.setCell_alloc_past, World.cell?_alloc_at, World.cell?_alloc_past, 
      World.frozen?_alloc_at, World.frozen?_alloc_past, World.size_alloc, ↓xPick_t, ↓xPick_f, ↓xGuard_tt, ↓xGuard_ff, ↓xGuard_tf, ↓xGuard_ft, ↓xIf_t, tick_eq, tickV_eq, ne_eq, not_true_eq_false, Int.reduceEq, Int.reduceLT, Int.reduceLE, 
      Bool.false_and, Bool.true_and, Bool.and_true, Bool.and_false, ↓xBin_add', ↓xBin_sub', ↓xBin_mul', ↓xBin_quo', ↓xBin_rem', wrap_in, ↓xIf_f, ↓xIf_tt, ↓xEx0, ↓xEx1, ↓xEx2, ↓xEx3, ↓xBin_eqs, ↓xBin_nes, ↓xUn_not, ↓u8_com, 
      ↓u8_eql, ↓u8_neq, ↓u8_lss, ↓u8_gtr, ↓u16_com, ↓u16_eql, ↓u16_neq, ↓u16_lss, ↓u16_gtr, ↓u32_com, ↓u32_eql, ↓u32_neq, ↓u32_lss, ↓u32_gtr, ↓u64_com, ↓u64_eql, ↓u64_neq, ↓u64_lss, ↓u64_gtr, ↓i64_lss, ↓i64_gtr, ↓i64_eql, 
      ↓i64_neq, ↓i64_neg, Int.toNat_natCast, Int.reduceToNat, Nat.reduceMul, Nat.reduceAdd, Nat.reduceSub, Nat.mul_one, List.nil_append, List.cons_append, List.getElem?_toArray, List.getElem?_cons_zero, List.getElem?_cons_succ, 
      cells_int, cells_bool, cells_string, cells_slice, cells_pointer, cells_agg, one_int, one_bool, one_string, one_slice, one_pointer, List.setIfInBounds_toArray, List.set_cons_zero, List.set_cons_succ, ↓xDet_s, ↓xDet_ld, 
      ↓xDet_ld2, ↓xDet_ld3, ↓xDet_ld4, World.size_drew, Nat.zero_add, cell_drew, frozen_drew, cell_set_eq, cell_set_o, cell_set_b, Option.map_some, World.frozen?_setCell, decide_true, decide_false, List.not_mem_nil, not_false_eq_true, 
      ↓xGuard_tt, Bool.not_true, Bool.not_false, ←decide_not, ↓ld_3, ↓ld_23, ↓ld_25, ↓fa_23_0, ↓fa_23_1, ↓fa_23_2, ↓fa_34_0, ↓fa_34_1, ↓al_25, ↓al_35, ↓st_25, ↓st_35, ↓ia_35, e1_0, e2_0, e5_0, hv]
      exact ⟨by trivial, by (repeat (first | exact Ext.refl _ _ | refine Ext.alloc' ?_ _ | refine Ext.drew' ?_ | refine Ext.set' ?_ (.inr (by first | omega | (simp only [World.size_alloc, World.size_drew, World.size_setCell] <;> omega))) | assumption | refine Ext.trans ?_ (by assumption)))⟩
    · simp (disch := (first | omega | (simp only [World.size_alloc, World.size_setCell, World.size_drew, List.mem_cons, List.not_mem_nil, or_false, not_false_eq_true] <;> omega) | fail)) only [↓xBox_r, ↓loadK_some, ↓loadsK_s, ↓loadsK_n, ↓loadsR_s, ↓loadsR_n, ↓storesK_s, ↓storesK_n, setCells_c, setCells_n, World.setCell_alloc_at, World.setCell_alloc_past, World.cell?_alloc_at, World.cell?_alloc_past, 
      World.frozen?_alloc_at, World.frozen?_alloc_past, World.size_alloc, ↓xPick_t, ↓xPick_f, ↓xGuard_tt, ↓xGuard_ff, ↓xGuard_tf, ↓xGuard_ft, ↓xIf_t, tick_eq, tickV_eq, ne_eq, not_true_eq_false, Int.reduceEq, Int.reduceLT, Int.reduceLE, 
      Bool.false_and, Bool.true_and, Bool.and_true, Bool.and_false, ↓xBin_add', ↓xBin_sub', ↓xBin_mul', ↓xBin_quo', ↓xBin_rem', wrap_in, ↓xIf_f, ↓xIf_tt, ↓xEx0, ↓xEx1, ↓xEx2, ↓xEx3, ↓xBin_eqs, ↓xBin_nes, ↓xUn_not, ↓u8_com, 
      ↓u8_eql, ↓u8_neq, ↓u8_lss, ↓u8_gtr, ↓u16_com, ↓u16_eql, ↓u16_neq, ↓u16_lss, ↓u16_gtr, ↓u32_com, ↓u32_eql, ↓u32_neq, ↓u32_lss, ↓u32_gtr, ↓u64_com, ↓u64_eql, ↓u64_neq, ↓u64_lss, ↓u64_gtr, ↓i64_lss, ↓i64_gtr, ↓i64_eql, 
      ↓i64_neq, ↓i64_neg, Int.toNat_natCast, Int.reduceToNat, Nat.reduceMul, Nat.reduceAdd, Nat.reduceSub, Nat.mul_one, List.nil_append, List.cons_append, List.getElem?_toArray, List.getElem?_cons_zero, List.getElem?_cons_succ, 
      cells_int, cells_bool, cells_string, cells_slice, cells_pointer, cells_agg, one_int, one_bool, one_string, one_slice, one_pointer, List.setIfInBounds_toArray, List.set_cons_zero, List.set_cons_succ, ↓xDet_s, ↓xDet_ld, 
      ↓xDet_ld2, ↓xDet_ld3, ↓xDet_ld4, World.size_drew, Nat.zero_add, cell_drew, frozen_drew, cell_set_eq, cell_set_o, cell_set_b, Option.map_some, World.frozen?_setCell, decide_true, decide_false, List.not_mem_nil, not_false_eq_true, 
      ↓xGuard_tt, Bool.not_true, Bool.not_false, ←decide_not, ↓ld_3, ↓ld_23, ↓ld_25, ↓fa_23_0, ↓fa_23_1, ↓fa_23_2, ↓fa_34_0, ↓fa_34_1, ↓al_25, ↓al_35, ↓st_25, ↓st_35, ↓ia_35, e1_0, e2_0, g1, g2, g3, g4]
      refine geom_Check_call (Gives.to (Check_spec _ _ _ _) fun w6 E6 => ?_)
      have z6 := E6.size
      try simp only [World.size_alloc, World.size_setCell, World.size_drew] at z6
      have e6_0 : ∀ o, w6.cell? ⟨w.heap.size, o, none⟩ = _ := fun o => E6.cell_o (by first | omega | (simp only [World.size_alloc, World.size_setCell, World.size_drew] <;> omega))
      simp (disch := (first | omega | (simp only [World.size_alloc, World.size_setCell, World.size_drew, List.mem_cons, List.not_mem_nil, or_false, not_false_eq_true] <;> omega) | fail)) only [↓xBox_r, ↓loadK_some, ↓loadsK_s, ↓loadsK_n, ↓loadsR_s, ↓loadsR_n, ↓storesK_s, ↓storesK_n, setCells_c, setCells_n, World.setCell_alloc_at, World.setCell_alloc_past, World.cell?_alloc_at, World.cell?_alloc_past, 
      World.frozen?_alloc_at, World.frozen?_alloc_past, World.size_alloc, ↓xPick_t, ↓xPick_f, ↓xGuard_tt, ↓xGuard_ff, ↓xGuard_tf, ↓xGuard_ft, ↓xIf_t, tick_eq, tickV_eq, ne_eq, not_true_eq_false, Int.reduceEq, Int.reduceLT, Int.reduceLE, 
      Bool.false_and, Bool.true_and, Bool.and_true, Bool.and_false, ↓xBin_add', ↓xBin_sub', ↓xBin_mul', ↓xBin_quo', ↓xBin_rem', wrap_in, ↓xIf_f, ↓xIf_tt, ↓xEx0, ↓xEx1, ↓xEx2, ↓xEx3, ↓xBin_eqs, ↓xBin_nes, ↓xUn_not, ↓u8_com, 
      ↓u8_eql, ↓u8_neq, ↓u8_lss, ↓u8_gtr, ↓u16_com, ↓u16_eql, ↓u16_neq, ↓u16_lss, ↓u16_gtr, ↓u32_com, ↓u32_eql, ↓u32_neq, ↓u32_lss, ↓u32_gtr, ↓u64_com, ↓u64_eql, ↓u64_neq, ↓u64_lss, ↓u64_gtr, ↓i64_lss, ↓i64_gtr, ↓i64_eql, 
      ↓i64_neq, ↓i64_neg, Int.toNat_natCast, Int.reduceToNat, Nat.reduceMul, Nat.reduceAdd, Nat.reduceSub, Nat.mul_one, List.nil_append, List.cons_append, List.getElem?_toArray, List.getElem?_cons_zero, List.getElem?_cons_succ, 
      cells_int, cells_bool, cells_string, cells_slice, cells_pointer, cells_agg, one_int, one_bool, one_string, one_slice, one_pointer, List.setIfInBounds_toArray, List.set_cons_zero, List.set_cons_succ, ↓xDet_s, ↓xDet_ld, 
      ↓xDet_ld2, ↓xDet_ld3, ↓xDet_ld4, World.size_drew, Nat.zero_add, cell_drew, frozen_drew, cell_set_eq, cell_set_o, cell_set_b, Option.map_some, World.frozen?_setCell, decide_true, decide_false, List.not_mem_nil, not_false_eq_true, 
      ↓xGuard_tt, Bool.not_true, Bool.not_false, ←decide_not, ↓ld_3, ↓ld_23, ↓ld_25, ↓fa_23_0, ↓fa_23_1, ↓fa_23_2, ↓fa_34_0, ↓fa_34_1, ↓al_25, ↓al_35, ↓st_25, ↓st_35, ↓ia_35, e1_0, e2_0, e6_0, hv]
      exact ⟨by trivial, by (repeat (first | exact Ext.refl _ _ | refine Ext.alloc' ?_ _ | refine Ext.drew' ?_ | refine Ext.set' ?_ (.inr (by first | omega | (simp only [World.size_alloc, World.size_drew, World.size_setCell] <;> omega))) | assumption | refine Ext.trans ?_ (by assumption)))⟩
  have g1 : ¬ 1048576 < n := by omega
  have g2 : ¬ n < -1048576 := by omega
  have g3 : ¬ 1048576 < l := by omega
  have g4 : ¬ l < -1048576 := by omega
  by_cases g5 : s < 8
  · have hv : checkV s l n = 1 := checkV_1 (by unfold badGeom; omega)
    simp (disch := (first | omega | (simp only [World.size_alloc, World.size_setCell, World.size_drew, List.mem_cons, List.not_mem_nil, or_false, not_false_eq_true] <;> omega) | fail)) only [↓xBox_r, ↓loadK_some, ↓loadsK_s, ↓loadsK_n, ↓loadsR_s, ↓loadsR_n, ↓storesK_s, ↓storesK_n, setCells_c, setCells_n, World.setCell_alloc_at, World.setCell_alloc_past, World.cell?_alloc_at, World.cell?_alloc_past, 
      World.frozen?_alloc_at, World.frozen?_alloc_past, World.size_alloc, ↓xPick_t, ↓xPick_f, ↓xGuard_tt, ↓xGuard_ff, ↓xGuard_tf, ↓xGuard_ft, ↓xIf_t, tick_eq, tickV_eq, ne_eq, not_true_eq_false, Int.reduceEq, Int.reduceLT, Int.reduceLE, 
      Bool.false_and, Bool.true_and, Bool.and_true, Bool.and_false, ↓xBin_add', ↓xBin_sub', ↓xBin_mul', ↓xBin_quo', ↓xBin_rem', wrap_in, ↓xIf_f, ↓xIf_tt, ↓xEx0, ↓xEx1, ↓xEx2, ↓xEx3, ↓xBin_eqs, ↓xBin_nes, ↓xUn_not, ↓u8_com, 
      ↓u8_eql, ↓u8_neq, ↓u8_lss, ↓u8_gtr, ↓u16_com, ↓u16_eql, ↓u16_neq, ↓u16_lss, ↓u16_gtr, ↓u32_com, ↓u32_eql, ↓u32_neq, ↓u32_lss, ↓u32_gtr, ↓u64_com, ↓u64_eql, ↓u64_neq, ↓u64_lss, ↓u64_gtr, ↓i64_lss, ↓i64_gtr, ↓i64_eql, 
      ↓i64_neq, ↓i64_neg, Int.toNat_natCast, Int.reduceToNat, Nat.reduceMul, Nat.reduceAdd, Nat.reduceSub, Nat.mul_one, List.nil_append, List.cons_append, List.getElem?_toArray, List.getElem?_cons_zero, List.getElem?_cons_succ, 
      cells_int, cells_bool, cells_string, cells_slice, cells_pointer, cells_agg, one_int, one_bool, one_string, one_slice, one_pointer, List.setIfInBounds_toArray, List.set_cons_zero, List.set_cons_succ, ↓xDet_s, ↓xDet_ld, 
      ↓xDet_ld2, ↓xDet_ld3, ↓xDet_ld4, World.size_drew, Nat.zero_add, cell_drew, frozen_drew, cell_set_eq, cell_set_o, cell_set_b, Option.map_some, World.frozen?_setCell, decide_true, decide_false, List.not_mem_nil, not_false_eq_true, 
      ↓xGuard_tt, Bool.not_true, Bool.not_false, ←decide_not, ↓ld_3, ↓ld_23, ↓ld_25, ↓fa_23_0, ↓fa_23_1, ↓fa_23_2, ↓fa_34_0, ↓fa_34_1, ↓al_25, ↓al_35, ↓st_25, ↓st_35, ↓ia_35, e1_0, e2_0, g1, g2, g3, g4, g5]
    refine geom_Check_call (Gives.to (Check_spec _ _ _ _) fun w7 E7 => ?_)
    have z7 := E7.size
    try simp only [World.size_alloc, World.size_setCell, World.size_drew] at z7
    have e7_0 : ∀ o, w7.cell? ⟨w.heap.size, o, none⟩ = _ := fun o => E7.cell_o (by first | omega | (simp only [World.size_alloc, World.size_setCell, World.size_drew] <;> omega))
    simp (disch := (first | omega | (simp only [World.size_alloc, World.size_setCell, World.size_drew, List.mem_cons, List.not_mem_nil, or_false, not_false_eq_true] <;> omega) | fail)) only [↓xBox_r, ↓loadK_some, ↓loadsK_s, ↓loadsK_n, ↓loadsR_s, ↓loadsR_n, ↓storesK_s, ↓storesK_n, setCells_c, setCells_n, World.setCell_alloc_at, World.setCell_alloc_past, World.cell?_alloc_at, World.cell?_alloc_past, 
      World.frozen?_alloc_at, World.frozen?_alloc_past, World.size_alloc, ↓xPick_t, ↓xPick_f, ↓xGuard_tt, ↓xGuard_ff, ↓xGuard_tf, ↓xGuard_ft, ↓xIf_t, tick_eq, tickV_eq, ne_eq, not_true_eq_false, Int.reduceEq, Int.reduceLT, Int.reduceLE, 
      Bool.false_and, Bool.true_and, Bool.and_true, Bool.and_false, ↓xBin_add', ↓xBin_sub', ↓xBin_mul', ↓xBin_quo', ↓xBin_rem', wrap_in, ↓xIf_f, ↓xIf_tt, ↓xEx0, ↓xEx1, ↓xEx2, ↓xEx3, ↓xBin_eqs, ↓xBin_nes, ↓xUn_not, ↓u8_com, 
      ↓u8_eql, ↓u8_neq, ↓u8_lss, ↓u8_gtr, ↓u16_com, ↓u16_eql, ↓u16_neq, ↓u16_lss, ↓u16_gtr, ↓u32_com, ↓u32_eql, ↓u32_neq, ↓u32_lss, ↓u32_gtr, ↓u64_com, ↓u64_eql, ↓u64_neq, ↓u64_lss, ↓u64_gtr, ↓i64_lss, ↓i64_gtr, ↓i64_eql, 
      ↓i64_neq, ↓i64_neg, Int.toNat_natCast, Int.reduceToNat, Nat.reduceMul, Nat.reduceAdd, Nat.reduceSub, Nat.mul_one, List.nil_append, List.cons_append, List.getElem?_toArray, List.getElem?_cons_zero, List.getElem?_cons_succ, 
      cells_int, cells_bool, cells_string, cells_slice, cells_pointer, cells_agg, one_int, one_bool, one_string, one_slice, one_pointer, List.setIfInBounds_toArray, List.set_cons_zero, List.set_cons_succ, ↓xDet_s, ↓xDet_ld, 
      ↓xDet_ld2, ↓xDet_ld3, ↓xDet_ld4, World.size_drew, Nat.zero_add, cell_drew, frozen_drew, cell_set_eq, cell_set_o, cell_set_b, Option.map_some, World.frozen?_setCell, decide_true, decide_false, List.not_mem_nil, not_false_eq_true, 
      ↓xGuard_tt, Bool.not_true, Bool.not_false, ←decide_not, ↓ld_3, ↓ld_23, ↓ld_25, ↓fa_23_0, ↓fa_23_1, ↓fa_23_2, ↓fa_34_0, ↓fa_34_1, ↓al_25, ↓al_35, ↓st_25, ↓st_35, ↓ia_35, e1_0, e2_0, e7_0, hv]
    exact ⟨by trivial, by (repeat (first | exact Ext.refl _ _ | refine Ext.alloc' ?_ _ | refine Ext.drew' ?_ | refine Ext.set' ?_ (.inr (by first | omega | (simp only [World.size_alloc, World.size_drew, World.size_setCell] <;> omega))) | assumption | refine Ext.trans ?_ (by assumption)))⟩
  simp (disch := (first | omega | (simp only [World.size_alloc, World.size_setCell, World.size_drew, List.mem_cons, List.not_mem_nil, or_false, not_false_eq_true] <;> omega) | fail)) only [↓xBox_r, ↓loadK_some, ↓loadsK_s, ↓loadsK_n, ↓loadsR_s, ↓loadsR_n, ↓storesK_s, ↓storesK_n, setCells_c, setCells_n, World.setCell_alloc_at, World.setCell_alloc_past, World.cell?_alloc_at, World.cell?_alloc_past, 
      World.frozen?_alloc_at, World.frozen?_alloc_past, World.size_alloc, ↓xPick_t, ↓xPick_f, ↓xGuard_tt, ↓xGuard_ff, ↓xGuard_tf, ↓xGuard_ft, ↓xIf_t, tick_eq, tickV_eq, ne_eq, not_true_eq_false, Int.reduceEq, Int.reduceLT, Int.reduceLE, 
      Bool.false_and, Bool.true_and, Bool.and_true, Bool.and_false, ↓xBin_add', ↓xBin_sub', ↓xBin_mul', ↓xBin_quo', ↓xBin_rem', wrap_in, ↓xIf_f, ↓xIf_tt, ↓xEx0, ↓xEx1, ↓xEx2, ↓xEx3, ↓xBin_eqs, ↓xBin_nes, ↓xUn_not, ↓u8_com, 
      ↓u8_eql, ↓u8_neq, ↓u8_lss, ↓u8_gtr, ↓u16_com, ↓u16_eql, ↓u16_neq, ↓u16_lss, ↓u16_gtr, ↓u32_com, ↓u32_eql, ↓u32_neq, ↓u32_lss, ↓u32_gtr, ↓u64_com, ↓u64_eql, ↓u64_neq, ↓u64_lss, ↓u64_gtr, ↓i64_lss, ↓i64_gtr, ↓i64_eql, 
      ↓i64_neq, ↓i64_neg, Int.toNat_natCast, Int.reduceToNat, Nat.reduceMul, Nat.reduceAdd, Nat.reduceSub, Nat.mul_one, List.nil_append, List.cons_append, List.getElem?_toArray, List.getElem?_cons_zero, List.getElem?_cons_succ, 
      cells_int, cells_bool, cells_string, cells_slice, cells_pointer, cells_agg, one_int, one_bool, one_string, one_slice, one_pointer, List.setIfInBounds_toArray, List.set_cons_zero, List.set_cons_succ, ↓xDet_s, ↓xDet_ld, 
      ↓xDet_ld2, ↓xDet_ld3, ↓xDet_ld4, World.size_drew, Nat.zero_add, cell_drew, frozen_drew, cell_set_eq, cell_set_o, cell_set_b, Option.map_some, World.frozen?_setCell, decide_true, decide_false, List.not_mem_nil, not_false_eq_true, 
      ↓xGuard_tt, Bool.not_true, Bool.not_false, ←decide_not, ↓ld_3, ↓ld_23, ↓ld_25, ↓fa_23_0, ↓fa_23_1, ↓fa_23_2, ↓fa_34_0, ↓fa_34_1, ↓al_25, ↓al_35, ↓st_25, ↓st_35, ↓ia_35, e1_0, e2_0, g1, g2, g3, g4, g5]
  refine loamref4_Check_call (Gives.to (rCheck_spec _ _ _ _) fun w8 E8 => ?_)
  have z8 := E8.size
  try simp only [World.size_alloc, World.size_setCell, World.size_drew] at z8
  have e8_0 : ∀ o, w8.cell? ⟨w.heap.size, o, none⟩ = _ := fun o => E8.cell_o (by first | omega | (simp only [World.size_alloc, World.size_setCell, World.size_drew] <;> omega))
  have e8_1 : ∀ o, w8.cell? ⟨w2.heap.size, o, none⟩ = _ := fun o => E8.cell_o (by first | omega | (simp only [World.size_alloc, World.size_setCell, World.size_drew] <;> omega))
  simp (disch := (first | omega | (simp only [World.size_alloc, World.size_setCell, World.size_drew, List.mem_cons, List.not_mem_nil, or_false, not_false_eq_true] <;> omega) | fail)) only [↓xBox_r, ↓loadK_some, ↓loadsK_s, ↓loadsK_n, ↓loadsR_s, ↓loadsR_n, ↓storesK_s, ↓storesK_n, setCells_c, setCells_n, World.setCell_alloc_at, World.setCell_alloc_past, World.cell?_alloc_at, World.cell?_alloc_past, 
      World.frozen?_alloc_at, World.frozen?_alloc_past, World.size_alloc, ↓xPick_t, ↓xPick_f, ↓xGuard_tt, ↓xGuard_ff, ↓xGuard_tf, ↓xGuard_ft, ↓xIf_t, tick_eq, tickV_eq, ne_eq, not_true_eq_false, Int.reduceEq, Int.reduceLT, Int.reduceLE, 
      Bool.false_and, Bool.true_and, Bool.and_true, Bool.and_false, ↓xBin_add', ↓xBin_sub', ↓xBin_mul', ↓xBin_quo', ↓xBin_rem', wrap_in, ↓xIf_f, ↓xIf_tt, ↓xEx0, ↓xEx1, ↓xEx2, ↓xEx3, ↓xBin_eqs, ↓xBin_nes, ↓xUn_not, ↓u8_com, 
      ↓u8_eql, ↓u8_neq, ↓u8_lss, ↓u8_gtr, ↓u16_com, ↓u16_eql, ↓u16_neq, ↓u16_lss, ↓u16_gtr, ↓u32_com, ↓u32_eql, ↓u32_neq, ↓u32_lss, ↓u32_gtr, ↓u64_com, ↓u64_eql, ↓u64_neq, ↓u64_lss, ↓u64_gtr, ↓i64_lss, ↓i64_gtr, ↓i64_eql, 
      ↓i64_neq, ↓i64_neg, Int.toNat_natCast, Int.reduceToNat, Nat.reduceMul, Nat.reduceAdd, Nat.reduceSub, Nat.mul_one, List.nil_append, List.cons_append, List.getElem?_toArray, List.getElem?_cons_zero, List.getElem?_cons_succ, 
      cells_int, cells_bool, cells_string, cells_slice, cells_pointer, cells_agg, one_int, one_bool, one_string, one_slice, one_pointer, List.setIfInBounds_toArray, List.set_cons_zero, List.set_cons_succ, ↓xDet_s, ↓xDet_ld, 
      ↓xDet_ld2, ↓xDet_ld3, ↓xDet_ld4, World.size_drew, Nat.zero_add, cell_drew, frozen_drew, cell_set_eq, cell_set_o, cell_set_b, Option.map_some, World.frozen?_setCell, decide_true, decide_false, List.not_mem_nil, not_false_eq_true, 
      ↓xGuard_tt, Bool.not_true, Bool.not_false, ←decide_not, ↓ld_3, ↓ld_23, ↓ld_25, ↓fa_23_0, ↓fa_23_1, ↓fa_23_2, ↓fa_34_0, ↓fa_34_1, ↓al_25, ↓al_35, ↓st_25, ↓st_35, ↓ia_35, e1_0, e2_0, e8_0, e8_1, g4]
  refine geom_Check_call (Gives.to (Check_spec _ _ _ _) fun w9 E9 => ?_)
  have z9 := E9.size
  try simp only [World.size_alloc, World.size_setCell, World.size_drew] at z9
  have e9_0 : ∀ o, w9.cell? ⟨w.heap.size, o, none⟩ = _ := fun o => E9.cell_o (by first | omega | (simp only [World.size_alloc, World.size_setCell, World.size_drew] <;> omega))
  have e9_1 : ∀ o, w9.cell? ⟨w2.heap.size, o, none⟩ = _ := fun o => E9.cell_o (by first | omega | (simp only [World.size_alloc, World.size_setCell, World.size_drew] <;> omega))
  simp (disch := (first | omega | (simp only [World.size_alloc, World.size_setCell, World.size_drew, List.mem_cons, List.not_mem_nil, or_false, not_false_eq_true] <;> omega) | fail)) only [↓xBox_r, ↓loadK_some, ↓loadsK_s, ↓loadsK_n, ↓loadsR_s, ↓loadsR_n, ↓storesK_s, ↓storesK_n, setCells_c, setCells_n, World.setCell_alloc_at, World.setCell_alloc_past, World.cell?_alloc_at, World.cell?_alloc_past, 
      World.frozen?_alloc_at, World.frozen?_alloc_past, World.size_alloc, ↓xPick_t, ↓xPick_f, ↓xGuard_tt, ↓xGuard_ff, ↓xGuard_tf, ↓xGuard_ft, ↓xIf_t, tick_eq, tickV_eq, ne_eq, not_true_eq_false, Int.reduceEq, Int.reduceLT, Int.reduceLE, 
      Bool.false_and, Bool.true_and, Bool.and_true, Bool.and_false, ↓xBin_add', ↓xBin_sub', ↓xBin_mul', ↓xBin_quo', ↓xBin_rem', wrap_in, ↓xIf_f, ↓xIf_tt, ↓xEx0, ↓xEx1, ↓xEx2, ↓xEx3, ↓xBin_eqs, ↓xBin_nes, ↓xUn_not, ↓u8_com, 
      ↓u8_eql, ↓u8_neq, ↓u8_lss, ↓u8_gtr, ↓u16_com, ↓u16_eql, ↓u16_neq, ↓u16_lss, ↓u16_gtr, ↓u32_com, ↓u32_eql, ↓u32_neq, ↓u32_lss, ↓u32_gtr, ↓u64_com, ↓u64_eql, ↓u64_neq, ↓u64_lss, ↓u64_gtr, ↓i64_lss, ↓i64_gtr, ↓i64_eql, 
      ↓i64_neq, ↓i64_neg, Int.toNat_natCast, Int.reduceToNat, Nat.reduceMul, Nat.reduceAdd, Nat.reduceSub, Nat.mul_one, List.nil_append, List.cons_append, List.getElem?_toArray, List.getElem?_cons_zero, List.getElem?_cons_succ, 
      cells_int, cells_bool, cells_string, cells_slice, cells_pointer, cells_agg, one_int, one_bool, one_string, one_slice, one_pointer, List.setIfInBounds_toArray, List.set_cons_zero, List.set_cons_succ, ↓xDet_s, ↓xDet_ld, 
      ↓xDet_ld2, ↓xDet_ld3, ↓xDet_ld4, World.size_drew, Nat.zero_add, cell_drew, frozen_drew, cell_set_eq, cell_set_o, cell_set_b, Option.map_some, World.frozen?_setCell, decide_true, decide_false, List.not_mem_nil, not_false_eq_true, 
      ↓xGuard_tt, Bool.not_true, Bool.not_false, ←decide_not, ↓ld_3, ↓ld_23, ↓ld_25, ↓fa_23_0, ↓fa_23_1, ↓fa_23_2, ↓fa_34_0, ↓fa_34_1, ↓al_25, ↓al_35, ↓st_25, ↓st_35, ↓ia_35, e1_0, e2_0, e8_0, e8_1, e9_0, e9_1, g4]
  by_cases g6 : badGeom s l n
  · simp (disch := (first | omega | (simp only [World.size_alloc, World.size_setCell, World.size_drew, List.mem_cons, List.not_mem_nil, or_false, not_false_eq_true] <;> omega) | fail)) only [↓xBox_r, ↓loadK_some, ↓loadsK_s, ↓loadsK_n, ↓loadsR_s, ↓loadsR_n, ↓storesK_s, ↓storesK_n, setCells_c, setCells_n, World.setCell_alloc_at, World.setCell_alloc_past, World.cell?_alloc_at, World.cell?_alloc_past, 
      World.frozen?_alloc_at, World.frozen?_alloc_past, World.size_alloc, ↓xPick_t, ↓xPick_f, ↓xGuard_tt, ↓xGuard_ff, ↓xGuard_tf, ↓xGuard_ft, ↓xIf_t, tick_eq, tickV_eq, ne_eq, not_true_eq_false, Int.reduceEq, Int.reduceLT, Int.reduceLE, 
      Bool.false_and, Bool.true_and, Bool.and_true, Bool.and_false, ↓xBin_add', ↓xBin_sub', ↓xBin_mul', ↓xBin_quo', ↓xBin_rem', wrap_in, ↓xIf_f, ↓xIf_tt, ↓xEx0, ↓xEx1, ↓xEx2, ↓xEx3, ↓xBin_eqs, ↓xBin_nes, ↓xUn_not, ↓u8_com, 
      ↓u8_eql, ↓u8_neq, ↓u8_lss, ↓u8_gtr, ↓u16_com, ↓u16_eql, ↓u16_neq, ↓u16_lss, ↓u16_gtr, ↓u32_com, ↓u32_eql, ↓u32_neq, ↓u32_lss, ↓u32_gtr, ↓u64_com, ↓u64_eql, ↓u64_neq, ↓u64_lss, ↓u64_gtr, ↓i64_lss, ↓i64_gtr, ↓i64_eql, 
      ↓i64_neq, ↓i64_neg, Int.toNat_natCast, Int.reduceToNat, Nat.reduceMul, Nat.reduceAdd, Nat.reduceSub, Nat.mul_one, List.nil_append, List.cons_append, List.getElem?_toArray, List.getElem?_cons_zero, List.getElem?_cons_succ, 
      cells_int, cells_bool, cells_string, cells_slice, cells_pointer, cells_agg, one_int, one_bool, one_string, one_slice, one_pointer, List.setIfInBounds_toArray, List.set_cons_zero, List.set_cons_succ, ↓xDet_s, ↓xDet_ld, 
      ↓xDet_ld2, ↓xDet_ld3, ↓xDet_ld4, World.size_drew, Nat.zero_add, cell_drew, frozen_drew, cell_set_eq, cell_set_o, cell_set_b, Option.map_some, World.frozen?_setCell, decide_true, decide_false, List.not_mem_nil, not_false_eq_true, 
      ↓xGuard_tt, Bool.not_true, Bool.not_false, ←decide_not, ↓ld_3, ↓ld_23, ↓ld_25, ↓fa_23_0, ↓fa_23_1, ↓fa_23_2, ↓fa_34_0, ↓fa_34_1, ↓al_25, ↓al_35, ↓st_25, ↓st_35, ↓ia_35, e1_0, e2_0, e8_0, e8_1, e9_0, e9_1, g4, checkV_1 g6]
    exact ⟨by trivial, by (repeat (first | exact Ext.refl _ _ | refine Ext.alloc' ?_ _ | refine Ext.drew' ?_ | refine Ext.set' ?_ (.inr (by first | omega | (simp only [World.size_alloc, World.size_drew, World.size_setCell] <;> omega))) | assumption | refine Ext.trans ?_ (by assumption)))⟩
  have hf := fit_of g6
  obtain ⟨s0, s1, l0, l1, n0, n1⟩ := fit_of g6
  have h8 : s % 8 = 0 := by unfold badGeom at g6; omega
  have ho := one_le s n (by omega) n0
  simp (disch := (first | omega | (simp only [World.size_alloc, World.size_setCell, World.size_drew, List.mem_cons, List.not_mem_nil, or_false, not_false_eq_true] <;> omega) | fail)) only [↓xBox_r, ↓loadK_some, ↓loadsK_s, ↓loadsK_n, ↓loadsR_s, ↓loadsR_n, ↓storesK_s, ↓storesK_n, setCells_c, setCells_n, World.setCell_alloc_at, World.setCell_alloc_past, World.cell?_alloc_at, World.cell?_alloc_past, 
      World.frozen?_alloc_at, World.frozen?_alloc_past, World.size_alloc, ↓xPick_t, ↓xPick_f, ↓xGuard_tt, ↓xGuard_ff, ↓xGuard_tf, ↓xGuard_ft, ↓xIf_t, tick_eq, tickV_eq, ne_eq, not_true_eq_false, Int.reduceEq, Int.reduceLT, Int.reduceLE, 
      Bool.false_and, Bool.true_and, Bool.and_true, Bool.and_false, ↓xBin_add', ↓xBin_sub', ↓xBin_mul', ↓xBin_quo', ↓xBin_rem', wrap_in, ↓xIf_f, ↓xIf_tt, ↓xEx0, ↓xEx1, ↓xEx2, ↓xEx3, ↓xBin_eqs, ↓xBin_nes, ↓xUn_not, ↓u8_com, 
      ↓u8_eql, ↓u8_neq, ↓u8_lss, ↓u8_gtr, ↓u16_com, ↓u16_eql, ↓u16_neq, ↓u16_lss, ↓u16_gtr, ↓u32_com, ↓u32_eql, ↓u32_neq, ↓u32_lss, ↓u32_gtr, ↓u64_com, ↓u64_eql, ↓u64_neq, ↓u64_lss, ↓u64_gtr, ↓i64_lss, ↓i64_gtr, ↓i64_eql, 
      ↓i64_neq, ↓i64_neg, Int.toNat_natCast, Int.reduceToNat, Nat.reduceMul, Nat.reduceAdd, Nat.reduceSub, Nat.mul_one, List.nil_append, List.cons_append, List.getElem?_toArray, List.getElem?_cons_zero, List.getElem?_cons_succ, 
      cells_int, cells_bool, cells_string, cells_slice, cells_pointer, cells_agg, one_int, one_bool, one_string, one_slice, one_pointer, List.setIfInBounds_toArray, List.set_cons_zero, List.set_cons_succ, ↓xDet_s, ↓xDet_ld, 
      ↓xDet_ld2, ↓xDet_ld3, ↓xDet_ld4, World.size_drew, Nat.zero_add, cell_drew, frozen_drew, cell_set_eq, cell_set_o, cell_set_b, Option.map_some, World.frozen?_setCell, decide_true, decide_false, List.not_mem_nil, not_false_eq_true, 
      ↓xGuard_tt, Bool.not_true, Bool.not_false, ←decide_not, ↓ld_3, ↓ld_23, ↓ld_25, ↓fa_23_0, ↓fa_23_1, ↓fa_23_2, ↓fa_34_0, ↓fa_34_1, ↓al_25, ↓al_35, ↓st_25, ↓st_35, ↓ia_35, e1_0, e2_0, e8_0, e8_1, e9_0, e9_1, g4, checkV_0 g6]
  refine geom_Word_call (Gives.to (Word_spec _ _ _ _ _ _ hf) fun w10 E10 => ?_)
  have z10 := E10.size
  try simp only [World.size_alloc, World.size_setCell, World.size_drew] at z10
  have e10_0 : ∀ o, w10.cell? ⟨w.heap.size, o, none⟩ = _ := fun o => E10.cell_o (by first | omega | (simp only [World.size_alloc, World.size_setCell, World.size_drew] <;> omega))
  have e10_1 : ∀ o, w10.cell? ⟨w2.heap.size, o, none⟩ = _ := fun o => E10.cell_o (by first | omega | (simp only [World.size_alloc, World.size_setCell, World.size_drew] <;> omega))
  simp (disch := (first | omega | (simp only [World.size_alloc, World.size_setCell, World.size_drew, List.mem_cons, List.not_mem_nil, or_false, not_false_eq_true] <;> omega) | fail)) only [↓xBox_r, ↓loadK_some, ↓loadsK_s, ↓loadsK_n, ↓loadsR_s, ↓loadsR_n, ↓storesK_s, ↓storesK_n, setCells_c, setCells_n, World.setCell_alloc_at, World.setCell_alloc_past, World.cell?_alloc_at, World.cell?_alloc_past, 
      World.frozen?_alloc_at, World.frozen?_alloc_past, World.size_alloc, ↓xPick_t, ↓xPick_f, ↓xGuard_tt, ↓xGuard_ff, ↓xGuard_tf, ↓xGuard_ft, ↓xIf_t, tick_eq, tickV_eq, ne_eq, not_true_eq_false, Int.reduceEq, Int.reduceLT, Int.reduceLE, 
      Bool.false_and, Bool.true_and, Bool.and_true, Bool.and_false, ↓xBin_add', ↓xBin_sub', ↓xBin_mul', ↓xBin_quo', ↓xBin_rem', wrap_in, ↓xIf_f, ↓xIf_tt, ↓xEx0, ↓xEx1, ↓xEx2, ↓xEx3, ↓xBin_eqs, ↓xBin_nes, ↓xUn_not, ↓u8_com, 
      ↓u8_eql, ↓u8_neq, ↓u8_lss, ↓u8_gtr, ↓u16_com, ↓u16_eql, ↓u16_neq, ↓u16_lss, ↓u16_gtr, ↓u32_com, ↓u32_eql, ↓u32_neq, ↓u32_lss, ↓u32_gtr, ↓u64_com, ↓u64_eql, ↓u64_neq, ↓u64_lss, ↓u64_gtr, ↓i64_lss, ↓i64_gtr, ↓i64_eql, 
      ↓i64_neq, ↓i64_neg, Int.toNat_natCast, Int.reduceToNat, Nat.reduceMul, Nat.reduceAdd, Nat.reduceSub, Nat.mul_one, List.nil_append, List.cons_append, List.getElem?_toArray, List.getElem?_cons_zero, List.getElem?_cons_succ, 
      cells_int, cells_bool, cells_string, cells_slice, cells_pointer, cells_agg, one_int, one_bool, one_string, one_slice, one_pointer, List.setIfInBounds_toArray, List.set_cons_zero, List.set_cons_succ, ↓xDet_s, ↓xDet_ld, 
      ↓xDet_ld2, ↓xDet_ld3, ↓xDet_ld4, World.size_drew, Nat.zero_add, cell_drew, frozen_drew, cell_set_eq, cell_set_o, cell_set_b, Option.map_some, World.frozen?_setCell, decide_true, decide_false, List.not_mem_nil, not_false_eq_true, 
      ↓xGuard_tt, Bool.not_true, Bool.not_false, ←decide_not, ↓ld_3, ↓ld_23, ↓ld_25, ↓fa_23_0, ↓fa_23_1, ↓fa_23_2, ↓fa_34_0, ↓fa_34_1, ↓al_25, ↓al_35, ↓st_25, ↓st_35, ↓ia_35, e1_0, e2_0, e8_0, e8_1, e9_0, e9_1, e10_0, e10_1]
  refine loamref4_Word_call (Gives.to (rWord_spec _ _ _ _ _ _ hf h8) fun w11 E11 => ?_)
  have z11 := E11.size
  try simp only [World.size_alloc, World.size_setCell, World.size_drew] at z11
  have e11_0 : ∀ o, w11.cell? ⟨w.heap.size, o, none⟩ = _ := fun o => E11.cell_o (by first | omega | (simp only [World.size_alloc, World.size_setCell, World.size_drew] <;> omega))
  have e11_1 : ∀ o, w11.cell? ⟨w2.heap.size, o, none⟩ = _ := fun o => E11.cell_o (by first | omega | (simp only [World.size_alloc, World.size_setCell, World.size_drew] <;> omega))
  simp (disch := (first | omega | (simp only [World.size_alloc, World.size_setCell, World.size_drew, List.mem_cons, List.not_mem_nil, or_false, not_false_eq_true] <;> omega) | fail)) only [↓xBox_r, ↓loadK_some, ↓loadsK_s, ↓loadsK_n, ↓loadsR_s, ↓loadsR_n, ↓storesK_s, ↓storesK_n, setCells_c, setCells_n, World.setCell_alloc_at, World.setCell_alloc_past, World.cell?_alloc_at, World.cell?_alloc_past, 
      World.frozen?_alloc_at, World.frozen?_alloc_past, World.size_alloc, ↓xPick_t, ↓xPick_f, ↓xGuard_tt, ↓xGuard_ff, ↓xGuard_tf, ↓xGuard_ft, ↓xIf_t, tick_eq, tickV_eq, ne_eq, not_true_eq_false, Int.reduceEq, Int.reduceLT, Int.reduceLE, 
      Bool.false_and, Bool.true_and, Bool.and_true, Bool.and_false, ↓xBin_add', ↓xBin_sub', ↓xBin_mul', ↓xBin_quo', ↓xBin_rem', wrap_in, ↓xIf_f, ↓xIf_tt, ↓xEx0, ↓xEx1, ↓xEx2, ↓xEx3, ↓xBin_eqs, ↓xBin_nes, ↓xUn_not, ↓u8_com, 
      ↓u8_eql, ↓u8_neq, ↓u8_lss, ↓u8_gtr, ↓u16_com, ↓u16_eql, ↓u16_neq, ↓u16_lss, ↓u16_gtr, ↓u32_com, ↓u32_eql, ↓u32_neq, ↓u32_lss, ↓u32_gtr, ↓u64_com, ↓u64_eql, ↓u64_neq, ↓u64_lss, ↓u64_gtr, ↓i64_lss, ↓i64_gtr, ↓i64_eql, 
      ↓i64_neq, ↓i64_neg, Int.toNat_natCast, Int.reduceToNat, Nat.reduceMul, Nat.reduceAdd, Nat.reduceSub, Nat.mul_one, List.nil_append, List.cons_append, List.getElem?_toArray, List.getElem?_cons_zero, List.getElem?_cons_succ, 
      cells_int, cells_bool, cells_string, cells_slice, cells_pointer, cells_agg, one_int, one_bool, one_string, one_slice, one_pointer, List.setIfInBounds_toArray, List.set_cons_zero, List.set_cons_succ, ↓xDet_s, ↓xDet_ld, 
      ↓xDet_ld2, ↓xDet_ld3, ↓xDet_ld4, World.size_drew, Nat.zero_add, cell_drew, frozen_drew, cell_set_eq, cell_set_o, cell_set_b, Option.map_some, World.frozen?_setCell, decide_true, decide_false, List.not_mem_nil, not_false_eq_true, 
      ↓xGuard_tt, Bool.not_true, Bool.not_false, ←decide_not, ↓ld_3, ↓ld_23, ↓ld_25, ↓fa_23_0, ↓fa_23_1, ↓fa_23_2, ↓fa_34_0, ↓fa_34_1, ↓al_25, ↓al_35, ↓st_25, ↓st_35, ↓ia_35, e1_0, e2_0, e8_0, e8_1, e9_0, e9_1, e10_0, e10_1, e11_0, e11_1]
  refine geom_Slots_call (Gives.to (Slots_spec _ _ _ _) fun w12 E12 => ?_)
  have z12 := E12.size
  try simp only [World.size_alloc, World.size_setCell, World.size_drew] at z12
  have e12_0 : ∀ o, w12.cell? ⟨w.heap.size, o, none⟩ = _ := fun o => E12.cell_o (by first | omega | (simp only [World.size_alloc, World.size_setCell, World.size_drew] <;> omega))
  have e12_1 : ∀ o, w12.cell? ⟨w2.heap.size, o, none⟩ = _ := fun o => E12.cell_o (by first | omega | (simp only [World.size_alloc, World.size_setCell, World.size_drew] <;> omega))
  simp (disch := (first | omega | (simp only [World.size_alloc, World.size_setCell, World.size_drew, List.mem_cons, List.not_mem_nil, or_false, not_false_eq_true] <;> omega) | fail)) only [↓xBox_r, ↓loadK_some, ↓loadsK_s, ↓loadsK_n, ↓loadsR_s, ↓loadsR_n, ↓storesK_s, ↓storesK_n, setCells_c, setCells_n, World.setCell_alloc_at, World.setCell_alloc_past, World.cell?_alloc_at, World.cell?_alloc_past, 
      World.frozen?_alloc_at, World.frozen?_alloc_past, World.size_alloc, ↓xPick_t, ↓xPick_f, ↓xGuard_tt, ↓xGuard_ff, ↓xGuard_tf, ↓xGuard_ft, ↓xIf_t, tick_eq, tickV_eq, ne_eq, not_true_eq_false, Int.reduceEq, Int.reduceLT, Int.reduceLE, 
      Bool.false_and, Bool.true_and, Bool.and_true, Bool.and_false, ↓xBin_add', ↓xBin_sub', ↓xBin_mul', ↓xBin_quo', ↓xBin_rem', wrap_in, ↓xIf_f, ↓xIf_tt, ↓xEx0, ↓xEx1, ↓xEx2, ↓xEx3, ↓xBin_eqs, ↓xBin_nes, ↓xUn_not, ↓u8_com, 
      ↓u8_eql, ↓u8_neq, ↓u8_lss, ↓u8_gtr, ↓u16_com, ↓u16_eql, ↓u16_neq, ↓u16_lss, ↓u16_gtr, ↓u32_com, ↓u32_eql, ↓u32_neq, ↓u32_lss, ↓u32_gtr, ↓u64_com, ↓u64_eql, ↓u64_neq, ↓u64_lss, ↓u64_gtr, ↓i64_lss, ↓i64_gtr, ↓i64_eql, 
      ↓i64_neq, ↓i64_neg, Int.toNat_natCast, Int.reduceToNat, Nat.reduceMul, Nat.reduceAdd, Nat.reduceSub, Nat.mul_one, List.nil_append, List.cons_append, List.getElem?_toArray, List.getElem?_cons_zero, List.getElem?_cons_succ, 
      cells_int, cells_bool, cells_string, cells_slice, cells_pointer, cells_agg, one_int, one_bool, one_string, one_slice, one_pointer, List.setIfInBounds_toArray, List.set_cons_zero, List.set_cons_succ, ↓xDet_s, ↓xDet_ld, 
      ↓xDet_ld2, ↓xDet_ld3, ↓xDet_ld4, World.size_drew, Nat.zero_add, cell_drew, frozen_drew, cell_set_eq, cell_set_o, cell_set_b, Option.map_some, World.frozen?_setCell, decide_true, decide_false, List.not_mem_nil, not_false_eq_true, 
      ↓xGuard_tt, Bool.not_true, Bool.not_false, ←decide_not, ↓ld_3, ↓ld_23, ↓ld_25, ↓fa_23_0, ↓fa_23_1, ↓fa_23_2, ↓fa_34_0, ↓fa_34_1, ↓al_25, ↓al_35, ↓st_25, ↓st_35, ↓ia_35, e1_0, e2_0, e8_0, e8_1, e9_0, e9_1, e10_0, e10_1, e11_0, e11_1, e12_0, e12_1]
  refine xDraw_ext [] [] ?_
  simp (disch := (first | omega | (simp only [World.size_alloc, World.size_setCell, World.size_drew, List.mem_cons, List.not_mem_nil, or_false, not_false_eq_true] <;> omega) | fail)) only [↓xBox_r, ↓loadK_some, ↓loadsK_s, ↓loadsK_n, ↓loadsR_s, ↓loadsR_n, ↓storesK_s, ↓storesK_n, setCells_c, setCells_n, World.setCell_alloc_at, World.setCell_alloc_past, World.cell?_alloc_at, World.cell?_alloc_past, 
      World.frozen?_alloc_at, World.frozen?_alloc_past, World.size_alloc, ↓xPick_t, ↓xPick_f, ↓xGuard_tt, ↓xGuard_ff, ↓xGuard_tf, ↓xGuard_ft, ↓xIf_t, tick_eq, tickV_eq, ne_eq, not_true_eq_false, Int.reduceEq, Int.reduceLT, Int.reduceLE, 
      Bool.false_and, Bool.true_and, Bool.and_true, Bool.and_false, ↓xBin_add', ↓xBin_sub', ↓xBin_mul', ↓xBin_quo', ↓xBin_rem', wrap_in, ↓xIf_f, ↓xIf_tt, ↓xEx0, ↓xEx1, ↓xEx2, ↓xEx3, ↓xBin_eqs, ↓xBin_nes, ↓xUn_not, ↓u8_com, 
      ↓u8_eql, ↓u8_neq, ↓u8_lss, ↓u8_gtr, ↓u16_com, ↓u16_eql, ↓u16_neq, ↓u16_lss, ↓u16_gtr, ↓u32_com, ↓u32_eql, ↓u32_neq, ↓u32_lss, ↓u32_gtr, ↓u64_com, ↓u64_eql, ↓u64_neq, ↓u64_lss, ↓u64_gtr, ↓i64_lss, ↓i64_gtr, ↓i64_eql, 
      ↓i64_neq, ↓i64_neg, Int.toNat_natCast, Int.reduceToNat, Nat.reduceMul, Nat.reduceAdd, Nat.reduceSub, Nat.mul_one, List.nil_append, List.cons_append, List.getElem?_toArray, List.getElem?_cons_zero, List.getElem?_cons_succ, 
      cells_int, cells_bool, cells_string, cells_slice, cells_pointer, cells_agg, one_int, one_bool, one_string, one_slice, one_pointer, List.setIfInBounds_toArray, List.set_cons_zero, List.set_cons_succ, ↓xDet_s, ↓xDet_ld, 
      ↓xDet_ld2, ↓xDet_ld3, ↓xDet_ld4, World.size_drew, Nat.zero_add, cell_drew, frozen_drew, cell_set_eq, cell_set_o, cell_set_b, Option.map_some, World.frozen?_setCell, decide_true, decide_false, List.not_mem_nil, not_false_eq_true, 
      ↓xGuard_tt, Bool.not_true, Bool.not_false, ←decide_not, ↓ld_3, ↓ld_23, ↓ld_25, ↓fa_23_0, ↓fa_23_1, ↓fa_23_2, ↓fa_34_0, ↓fa_34_1, ↓al_25, ↓al_35, ↓st_25, ↓st_35, ↓ia_35, e1_0, e2_0, e8_0, e8_1, e9_0, e9_1, e10_0, e10_1, e11_0, e11_1, e12_0, e12_1]
  apply xDet_x
  · exact fun w hw => geom_Sectors_call (Gives.lq (Sectors_spec s l n _ (by omega) (by omega) (by omega) (by omega) (by omega) (by omega)))
  simp (disch := (first | omega | (simp only [World.size_alloc, World.size_setCell, World.size_drew, List.mem_cons, List.not_mem_nil, or_false, not_false_eq_true] <;> omega) | fail)) only [↓xBox_r, ↓loadK_some, ↓loadsK_s, ↓loadsK_n, ↓loadsR_s, ↓loadsR_n, ↓storesK_s, ↓storesK_n, setCells_c, setCells_n, World.setCell_alloc_at, World.setCell_alloc_past, World.cell?_alloc_at, World.cell?_alloc_past, 
      World.frozen?_alloc_at, World.frozen?_alloc_past, World.size_alloc, ↓xPick_t, ↓xPick_f, ↓xGuard_tt, ↓xGuard_ff, ↓xGuard_tf, ↓xGuard_ft, ↓xIf_t, tick_eq, tickV_eq, ne_eq, not_true_eq_false, Int.reduceEq, Int.reduceLT, Int.reduceLE, 
      Bool.false_and, Bool.true_and, Bool.and_true, Bool.and_false, ↓xBin_add', ↓xBin_sub', ↓xBin_mul', ↓xBin_quo', ↓xBin_rem', wrap_in, ↓xIf_f, ↓xIf_tt, ↓xEx0, ↓xEx1, ↓xEx2, ↓xEx3, ↓xBin_eqs, ↓xBin_nes, ↓xUn_not, ↓u8_com, 
      ↓u8_eql, ↓u8_neq, ↓u8_lss, ↓u8_gtr, ↓u16_com, ↓u16_eql, ↓u16_neq, ↓u16_lss, ↓u16_gtr, ↓u32_com, ↓u32_eql, ↓u32_neq, ↓u32_lss, ↓u32_gtr, ↓u64_com, ↓u64_eql, ↓u64_neq, ↓u64_lss, ↓u64_gtr, ↓i64_lss, ↓i64_gtr, ↓i64_eql, 
      ↓i64_neq, ↓i64_neg, Int.toNat_natCast, Int.reduceToNat, Nat.reduceMul, Nat.reduceAdd, Nat.reduceSub, Nat.mul_one, List.nil_append, List.cons_append, List.getElem?_toArray, List.getElem?_cons_zero, List.getElem?_cons_succ, 
      cells_int, cells_bool, cells_string, cells_slice, cells_pointer, cells_agg, one_int, one_bool, one_string, one_slice, one_pointer, List.setIfInBounds_toArray, List.set_cons_zero, List.set_cons_succ, ↓xDet_s, ↓xDet_ld, 
      ↓xDet_ld2, ↓xDet_ld3, ↓xDet_ld4, World.size_drew, Nat.zero_add, cell_drew, frozen_drew, cell_set_eq, cell_set_o, cell_set_b, Option.map_some, World.frozen?_setCell, decide_true, decide_false, List.not_mem_nil, not_false_eq_true, 
      ↓xGuard_tt, Bool.not_true, Bool.not_false, ←decide_not, ↓ld_3, ↓ld_23, ↓ld_25, ↓fa_23_0, ↓fa_23_1, ↓fa_23_2, ↓fa_34_0, ↓fa_34_1, ↓al_25, ↓al_35, ↓st_25, ↓st_35, ↓ia_35, e1_0, e2_0, e8_0, e8_1, e9_0, e9_1, e10_0, e10_1, e11_0, e11_1, e12_0, e12_1]
  apply xDet_x
  · exact fun w hw => loamref4_Sectors_call (Gives.lq (rSectors_spec s l n _ s0 s1 h8 n0 n1 l0 l1))
  have hq : 2 + l + 2 * ((n * 8 + s - 1) / s + (n + 32 - 1) / 32) = 2 + l + 2 * one s n := rfl
  simp (disch := (first | omega | (simp only [World.size_alloc, World.size_setCell, World.size_drew, List.mem_cons, List.not_mem_nil, or_false, not_false_eq_true] <;> omega) | fail)) only [↓xBox_r, ↓loadK_some, ↓loadsK_s, ↓loadsK_n, ↓loadsR_s, ↓loadsR_n, ↓storesK_s, ↓storesK_n, setCells_c, setCells_n, World.setCell_alloc_at, World.setCell_alloc_past, World.cell?_alloc_at, World.cell?_alloc_past, 
      World.frozen?_alloc_at, World.frozen?_alloc_past, World.size_alloc, ↓xPick_t, ↓xPick_f, ↓xGuard_tt, ↓xGuard_ff, ↓xGuard_tf, ↓xGuard_ft, ↓xIf_t, tick_eq, tickV_eq, ne_eq, not_true_eq_false, Int.reduceEq, Int.reduceLT, Int.reduceLE, 
      Bool.false_and, Bool.true_and, Bool.and_true, Bool.and_false, ↓xBin_add', ↓xBin_sub', ↓xBin_mul', ↓xBin_quo', ↓xBin_rem', wrap_in, ↓xIf_f, ↓xIf_tt, ↓xEx0, ↓xEx1, ↓xEx2, ↓xEx3, ↓xBin_eqs, ↓xBin_nes, ↓xUn_not, ↓u8_com, 
      ↓u8_eql, ↓u8_neq, ↓u8_lss, ↓u8_gtr, ↓u16_com, ↓u16_eql, ↓u16_neq, ↓u16_lss, ↓u16_gtr, ↓u32_com, ↓u32_eql, ↓u32_neq, ↓u32_lss, ↓u32_gtr, ↓u64_com, ↓u64_eql, ↓u64_neq, ↓u64_lss, ↓u64_gtr, ↓i64_lss, ↓i64_gtr, ↓i64_eql, 
      ↓i64_neq, ↓i64_neg, Int.toNat_natCast, Int.reduceToNat, Nat.reduceMul, Nat.reduceAdd, Nat.reduceSub, Nat.mul_one, List.nil_append, List.cons_append, List.getElem?_toArray, List.getElem?_cons_zero, List.getElem?_cons_succ, 
      cells_int, cells_bool, cells_string, cells_slice, cells_pointer, cells_agg, one_int, one_bool, one_string, one_slice, one_pointer, List.setIfInBounds_toArray, List.set_cons_zero, List.set_cons_succ, ↓xDet_s, ↓xDet_ld, 
      ↓xDet_ld2, ↓xDet_ld3, ↓xDet_ld4, World.size_drew, Nat.zero_add, cell_drew, frozen_drew, cell_set_eq, cell_set_o, cell_set_b, Option.map_some, World.frozen?_setCell, decide_true, decide_false, List.not_mem_nil, not_false_eq_true, 
      ↓xGuard_tt, Bool.not_true, Bool.not_false, ←decide_not, ↓ld_3, ↓ld_23, ↓ld_25, ↓fa_23_0, ↓fa_23_1, ↓fa_23_2, ↓fa_34_0, ↓fa_34_1, ↓al_25, ↓al_35, ↓st_25, ↓st_35, ↓ia_35, e1_0, e2_0, e8_0, e8_1, e9_0, e9_1, e10_0, e10_1, e11_0, e11_1, e12_0, e12_1, hq]
  apply xDet_x
  · exact fun w hw => geom_Log_call (Gives.lq (Log_spec _ _ _ _))
  simp (disch := (first | omega | (simp only [World.size_alloc, World.size_setCell, World.size_drew, List.mem_cons, List.not_mem_nil, or_false, not_false_eq_true] <;> omega) | fail)) only [↓xBox_r, ↓loadK_some, ↓loadsK_s, ↓loadsK_n, ↓loadsR_s, ↓loadsR_n, ↓storesK_s, ↓storesK_n, setCells_c, setCells_n, World.setCell_alloc_at, World.setCell_alloc_past, World.cell?_alloc_at, World.cell?_alloc_past, 
      World.frozen?_alloc_at, World.frozen?_alloc_past, World.size_alloc, ↓xPick_t, ↓xPick_f, ↓xGuard_tt, ↓xGuard_ff, ↓xGuard_tf, ↓xGuard_ft, ↓xIf_t, tick_eq, tickV_eq, ne_eq, not_true_eq_false, Int.reduceEq, Int.reduceLT, Int.reduceLE, 
      Bool.false_and, Bool.true_and, Bool.and_true, Bool.and_false, ↓xBin_add', ↓xBin_sub', ↓xBin_mul', ↓xBin_quo', ↓xBin_rem', wrap_in, ↓xIf_f, ↓xIf_tt, ↓xEx0, ↓xEx1, ↓xEx2, ↓xEx3, ↓xBin_eqs, ↓xBin_nes, ↓xUn_not, ↓u8_com, 
      ↓u8_eql, ↓u8_neq, ↓u8_lss, ↓u8_gtr, ↓u16_com, ↓u16_eql, ↓u16_neq, ↓u16_lss, ↓u16_gtr, ↓u32_com, ↓u32_eql, ↓u32_neq, ↓u32_lss, ↓u32_gtr, ↓u64_com, ↓u64_eql, ↓u64_neq, ↓u64_lss, ↓u64_gtr, ↓i64_lss, ↓i64_gtr, ↓i64_eql, 
      ↓i64_neq, ↓i64_neg, Int.toNat_natCast, Int.reduceToNat, Nat.reduceMul, Nat.reduceAdd, Nat.reduceSub, Nat.mul_one, List.nil_append, List.cons_append, List.getElem?_toArray, List.getElem?_cons_zero, List.getElem?_cons_succ, 
      cells_int, cells_bool, cells_string, cells_slice, cells_pointer, cells_agg, one_int, one_bool, one_string, one_slice, one_pointer, List.setIfInBounds_toArray, List.set_cons_zero, List.set_cons_succ, ↓xDet_s, ↓xDet_ld, 
      ↓xDet_ld2, ↓xDet_ld3, ↓xDet_ld4, World.size_drew, Nat.zero_add, cell_drew, frozen_drew, cell_set_eq, cell_set_o, cell_set_b, Option.map_some, World.frozen?_setCell, decide_true, decide_false, List.not_mem_nil, not_false_eq_true, 
      ↓xGuard_tt, Bool.not_true, Bool.not_false, ←decide_not, ↓ld_3, ↓ld_23, ↓ld_25, ↓fa_23_0, ↓fa_23_1, ↓fa_23_2, ↓fa_34_0, ↓fa_34_1, ↓al_25, ↓al_35, ↓st_25, ↓st_35, ↓ia_35, e1_0, e2_0, e8_0, e8_1, e9_0, e9_1, e10_0, e10_1, e11_0, e11_1, e12_0, e12_1]
  apply xDet_x
  · exact fun w hw => loamref4_Log_call (Gives.lq (rLog_spec _ _ _ _))
  simp (disch := (first | omega | (simp only [World.size_alloc, World.size_setCell, World.size_drew, List.mem_cons, List.not_mem_nil, or_false, not_false_eq_true] <;> omega) | fail)) only [↓xBox_r, ↓loadK_some, ↓loadsK_s, ↓loadsK_n, ↓loadsR_s, ↓loadsR_n, ↓storesK_s, ↓storesK_n, setCells_c, setCells_n, World.setCell_alloc_at, World.setCell_alloc_past, World.cell?_alloc_at, World.cell?_alloc_past, 
      World.frozen?_alloc_at, World.frozen?_alloc_past, World.size_alloc, ↓xPick_t, ↓xPick_f, ↓xGuard_tt, ↓xGuard_ff, ↓xGuard_tf, ↓xGuard_ft, ↓xIf_t, tick_eq, tickV_eq, ne_eq, not_true_eq_false, Int.reduceEq, Int.reduceLT, Int.reduceLE, 
      Bool.false_and, Bool.true_and, Bool.and_true, Bool.and_false, ↓xBin_add', ↓xBin_sub', ↓xBin_mul', ↓xBin_quo', ↓xBin_rem', wrap_in, ↓xIf_f, ↓xIf_tt, ↓xEx0, ↓xEx1, ↓xEx2, ↓xEx3, ↓xBin_eqs, ↓xBin_nes, ↓xUn_not, ↓u8_com, 
      ↓u8_eql, ↓u8_neq, ↓u8_lss, ↓u8_gtr, ↓u16_com, ↓u16_eql, ↓u16_neq, ↓u16_lss, ↓u16_gtr, ↓u32_com, ↓u32_eql, ↓u32_neq, ↓u32_lss, ↓u32_gtr, ↓u64_com, ↓u64_eql, ↓u64_neq, ↓u64_lss, ↓u64_gtr, ↓i64_lss, ↓i64_gtr, ↓i64_eql, 
      ↓i64_neq, ↓i64_neg, Int.toNat_natCast, Int.reduceToNat, Nat.reduceMul, Nat.reduceAdd, Nat.reduceSub, Nat.mul_one, List.nil_append, List.cons_append, List.getElem?_toArray, List.getElem?_cons_zero, List.getElem?_cons_succ, 
      cells_int, cells_bool, cells_string, cells_slice, cells_pointer, cells_agg, one_int, one_bool, one_string, one_slice, one_pointer, List.setIfInBounds_toArray, List.set_cons_zero, List.set_cons_succ, ↓xDet_s, ↓xDet_ld, 
      ↓xDet_ld2, ↓xDet_ld3, ↓xDet_ld4, World.size_drew, Nat.zero_add, cell_drew, frozen_drew, cell_set_eq, cell_set_o, cell_set_b, Option.map_some, World.frozen?_setCell, decide_true, decide_false, List.not_mem_nil, not_false_eq_true, 
      ↓xGuard_tt, Bool.not_true, Bool.not_false, ←decide_not, ↓ld_3, ↓ld_23, ↓ld_25, ↓fa_23_0, ↓fa_23_1, ↓fa_23_2, ↓fa_34_0, ↓fa_34_1, ↓al_25, ↓al_35, ↓st_25, ↓st_35, ↓ia_35, e1_0, e2_0, e8_0, e8_1, e9_0, e9_1, e10_0, e10_1, e11_0, e11_1, e12_0, e12_1]
  apply xDet_x
  · exact fun w hw => loamlaw4_same_call (Gives.lq (same4_spec _ _ _))
  simp (disch := (first | omega | (simp only [World.size_alloc, World.size_setCell, World.size_drew, List.mem_cons, List.not_mem_nil, or_false, not_false_eq_true] <;> omega) | fail)) only [↓xBox_r, ↓loadK_some, ↓loadsK_s, ↓loadsK_n, ↓loadsR_s, ↓loadsR_n, ↓storesK_s, ↓storesK_n, setCells_c, setCells_n, World.setCell_alloc_at, World.setCell_alloc_past, World.cell?_alloc_at, World.cell?_alloc_past, 
      World.frozen?_alloc_at, World.frozen?_alloc_past, World.size_alloc, ↓xPick_t, ↓xPick_f, ↓xGuard_tt, ↓xGuard_ff, ↓xGuard_tf, ↓xGuard_ft, ↓xIf_t, tick_eq, tickV_eq, ne_eq, not_true_eq_false, Int.reduceEq, Int.reduceLT, Int.reduceLE, 
      Bool.false_and, Bool.true_and, Bool.and_true, Bool.and_false, ↓xBin_add', ↓xBin_sub', ↓xBin_mul', ↓xBin_quo', ↓xBin_rem', wrap_in, ↓xIf_f, ↓xIf_tt, ↓xEx0, ↓xEx1, ↓xEx2, ↓xEx3, ↓xBin_eqs, ↓xBin_nes, ↓xUn_not, ↓u8_com, 
      ↓u8_eql, ↓u8_neq, ↓u8_lss, ↓u8_gtr, ↓u16_com, ↓u16_eql, ↓u16_neq, ↓u16_lss, ↓u16_gtr, ↓u32_com, ↓u32_eql, ↓u32_neq, ↓u32_lss, ↓u32_gtr, ↓u64_com, ↓u64_eql, ↓u64_neq, ↓u64_lss, ↓u64_gtr, ↓i64_lss, ↓i64_gtr, ↓i64_eql, 
      ↓i64_neq, ↓i64_neg, Int.toNat_natCast, Int.reduceToNat, Nat.reduceMul, Nat.reduceAdd, Nat.reduceSub, Nat.mul_one, List.nil_append, List.cons_append, List.getElem?_toArray, List.getElem?_cons_zero, List.getElem?_cons_succ, 
      cells_int, cells_bool, cells_string, cells_slice, cells_pointer, cells_agg, one_int, one_bool, one_string, one_slice, one_pointer, List.setIfInBounds_toArray, List.set_cons_zero, List.set_cons_succ, ↓xDet_s, ↓xDet_ld, 
      ↓xDet_ld2, ↓xDet_ld3, ↓xDet_ld4, World.size_drew, Nat.zero_add, cell_drew, frozen_drew, cell_set_eq, cell_set_o, cell_set_b, Option.map_some, World.frozen?_setCell, decide_true, decide_false, List.not_mem_nil, not_false_eq_true, 
      ↓xGuard_tt, Bool.not_true, Bool.not_false, ←decide_not, ↓ld_3, ↓ld_23, ↓ld_25, ↓fa_23_0, ↓fa_23_1, ↓fa_23_2, ↓fa_34_0, ↓fa_34_1, ↓al_25, ↓al_35, ↓st_25, ↓st_35, ↓ia_35, e1_0, e2_0, e8_0, e8_1, e9_0, e9_1, e10_0, e10_1, e11_0, e11_1, e12_0, e12_1]
  apply xDet_x
  · exact fun w hw => geom_Space_call (Gives.lq (Space_spec _ _ _ _ _ hf))
  simp (disch := (first | omega | (simp only [World.size_alloc, World.size_setCell, World.size_drew, List.mem_cons, List.not_mem_nil, or_false, not_false_eq_true] <;> omega) | fail)) only [↓xBox_r, ↓loadK_some, ↓loadsK_s, ↓loadsK_n, ↓loadsR_s, ↓loadsR_n, ↓storesK_s, ↓storesK_n, setCells_c, setCells_n, World.setCell_alloc_at, World.setCell_alloc_past, World.cell?_alloc_at, World.cell?_alloc_past, 
      World.frozen?_alloc_at, World.frozen?_alloc_past, World.size_alloc, ↓xPick_t, ↓xPick_f, ↓xGuard_tt, ↓xGuard_ff, ↓xGuard_tf, ↓xGuard_ft, ↓xIf_t, tick_eq, tickV_eq, ne_eq, not_true_eq_false, Int.reduceEq, Int.reduceLT, Int.reduceLE, 
      Bool.false_and, Bool.true_and, Bool.and_true, Bool.and_false, ↓xBin_add', ↓xBin_sub', ↓xBin_mul', ↓xBin_quo', ↓xBin_rem', wrap_in, ↓xIf_f, ↓xIf_tt, ↓xEx0, ↓xEx1, ↓xEx2, ↓xEx3, ↓xBin_eqs, ↓xBin_nes, ↓xUn_not, ↓u8_com, 
      ↓u8_eql, ↓u8_neq, ↓u8_lss, ↓u8_gtr, ↓u16_com, ↓u16_eql, ↓u16_neq, ↓u16_lss, ↓u16_gtr, ↓u32_com, ↓u32_eql, ↓u32_neq, ↓u32_lss, ↓u32_gtr, ↓u64_com, ↓u64_eql, ↓u64_neq, ↓u64_lss, ↓u64_gtr, ↓i64_lss, ↓i64_gtr, ↓i64_eql, 
      ↓i64_neq, ↓i64_neg, Int.toNat_natCast, Int.reduceToNat, Nat.reduceMul, Nat.reduceAdd, Nat.reduceSub, Nat.mul_one, List.nil_append, List.cons_append, List.getElem?_toArray, List.getElem?_cons_zero, List.getElem?_cons_succ, 
      cells_int, cells_bool, cells_string, cells_slice, cells_pointer, cells_agg, one_int, one_bool, one_string, one_slice, one_pointer, List.setIfInBounds_toArray, List.set_cons_zero, List.set_cons_succ, ↓xDet_s, ↓xDet_ld, 
      ↓xDet_ld2, ↓xDet_ld3, ↓xDet_ld4, World.size_drew, Nat.zero_add, cell_drew, frozen_drew, cell_set_eq, cell_set_o, cell_set_b, Option.map_some, World.frozen?_setCell, decide_true, decide_false, List.not_mem_nil, not_false_eq_true, 
      ↓xGuard_tt, Bool.not_true, Bool.not_false, ←decide_not, ↓ld_3, ↓ld_23, ↓ld_25, ↓fa_23_0, ↓fa_23_1, ↓fa_23_2, ↓fa_34_0, ↓fa_34_1, ↓al_25, ↓al_35, ↓st_25, ↓st_35, ↓ia_35, e1_0, e2_0, e8_0, e8_1, e9_0, e9_1, e10_0, e10_1, e11_0, e11_1, e12_0, e12_1]
  apply xDet_x
  · exact fun w hw => loamref4_Space_call (Gives.lq (rSpace_spec _ _ _ _ _ hf h8))
  simp (disch := (first | omega | (simp only [World.size_alloc, World.size_setCell, World.size_drew, List.mem_cons, List.not_mem_nil, or_false, not_false_eq_true] <;> omega) | fail)) only [↓xBox_r, ↓loadK_some, ↓loadsK_s, ↓loadsK_n, ↓loadsR_s, ↓loadsR_n, ↓storesK_s, ↓storesK_n, setCells_c, setCells_n, World.setCell_alloc_at, World.setCell_alloc_past, World.cell?_alloc_at, World.cell?_alloc_past, 
      World.frozen?_alloc_at, World.frozen?_alloc_past, World.size_alloc, ↓xPick_t, ↓xPick_f, ↓xGuard_tt, ↓xGuard_ff, ↓xGuard_tf, ↓xGuard_ft, ↓xIf_t, tick_eq, tickV_eq, ne_eq, not_true_eq_false, Int.reduceEq, Int.reduceLT, Int.reduceLE, 
      Bool.false_and, Bool.true_and, Bool.and_true, Bool.and_false, ↓xBin_add', ↓xBin_sub', ↓xBin_mul', ↓xBin_quo', ↓xBin_rem', wrap_in, ↓xIf_f, ↓xIf_tt, ↓xEx0, ↓xEx1, ↓xEx2, ↓xEx3, ↓xBin_eqs, ↓xBin_nes, ↓xUn_not, ↓u8_com, 
      ↓u8_eql, ↓u8_neq, ↓u8_lss, ↓u8_gtr, ↓u16_com, ↓u16_eql, ↓u16_neq, ↓u16_lss, ↓u16_gtr, ↓u32_com, ↓u32_eql, ↓u32_neq, ↓u32_lss, ↓u32_gtr, ↓u64_com, ↓u64_eql, ↓u64_neq, ↓u64_lss, ↓u64_gtr, ↓i64_lss, ↓i64_gtr, ↓i64_eql, 
      ↓i64_neq, ↓i64_neg, Int.toNat_natCast, Int.reduceToNat, Nat.reduceMul, Nat.reduceAdd, Nat.reduceSub, Nat.mul_one, List.nil_append, List.cons_append, List.getElem?_toArray, List.getElem?_cons_zero, List.getElem?_cons_succ, 
      cells_int, cells_bool, cells_string, cells_slice, cells_pointer, cells_agg, one_int, one_bool, one_string, one_slice, one_pointer, List.setIfInBounds_toArray, List.set_cons_zero, List.set_cons_succ, ↓xDet_s, ↓xDet_ld, 
      ↓xDet_ld2, ↓xDet_ld3, ↓xDet_ld4, World.size_drew, Nat.zero_add, cell_drew, frozen_drew, cell_set_eq, cell_set_o, cell_set_b, Option.map_some, World.frozen?_setCell, decide_true, decide_false, List.not_mem_nil, not_false_eq_true, 
      ↓xGuard_tt, Bool.not_true, Bool.not_false, ←decide_not, ↓ld_3, ↓ld_23, ↓ld_25, ↓fa_23_0, ↓fa_23_1, ↓fa_23_2, ↓fa_34_0, ↓fa_34_1, ↓al_25, ↓al_35, ↓st_25, ↓st_35, ↓ia_35, e1_0, e2_0, e8_0, e8_1, e9_0, e9_1, e10_0, e10_1, e11_0, e11_1, e12_0, e12_1]
  apply xDet_x
  · exact fun w hw => loamlaw4_same_call (Gives.lq (same4_spec _ _ _))
  simp (disch := (first | omega | (simp only [World.size_alloc, World.size_setCell, World.size_drew, List.mem_cons, List.not_mem_nil, or_false, not_false_eq_true] <;> omega) | fail)) only [↓xBox_r, ↓loadK_some, ↓loadsK_s, ↓loadsK_n, ↓loadsR_s, ↓loadsR_n, ↓storesK_s, ↓storesK_n, setCells_c, setCells_n, World.setCell_alloc_at, World.setCell_alloc_past, World.cell?_alloc_at, World.cell?_alloc_past, 
      World.frozen?_alloc_at, World.frozen?_alloc_past, World.size_alloc, ↓xPick_t, ↓xPick_f, ↓xGuard_tt, ↓xGuard_ff, ↓xGuard_tf, ↓xGuard_ft, ↓xIf_t, tick_eq, tickV_eq, ne_eq, not_true_eq_false, Int.reduceEq, Int.reduceLT, Int.reduceLE, 
      Bool.false_and, Bool.true_and, Bool.and_true, Bool.and_false, ↓xBin_add', ↓xBin_sub', ↓xBin_mul', ↓xBin_quo', ↓xBin_rem', wrap_in, ↓xIf_f, ↓xIf_tt, ↓xEx0, ↓xEx1, ↓xEx2, ↓xEx3, ↓xBin_eqs, ↓xBin_nes, ↓xUn_not, ↓u8_com, 
      ↓u8_eql, ↓u8_neq, ↓u8_lss, ↓u8_gtr, ↓u16_com, ↓u16_eql, ↓u16_neq, ↓u16_lss, ↓u16_gtr, ↓u32_com, ↓u32_eql, ↓u32_neq, ↓u32_lss, ↓u32_gtr, ↓u64_com, ↓u64_eql, ↓u64_neq, ↓u64_lss, ↓u64_gtr, ↓i64_lss, ↓i64_gtr, ↓i64_eql, 
      ↓i64_neq, ↓i64_neg, Int.toNat_natCast, Int.reduceToNat, Nat.reduceMul, Nat.reduceAdd, Nat.reduceSub, Nat.mul_one, List.nil_append, List.cons_append, List.getElem?_toArray, List.getElem?_cons_zero, List.getElem?_cons_succ, 
      cells_int, cells_bool, cells_string, cells_slice, cells_pointer, cells_agg, one_int, one_bool, one_string, one_slice, one_pointer, List.setIfInBounds_toArray, List.set_cons_zero, List.set_cons_succ, ↓xDet_s, ↓xDet_ld, 
      ↓xDet_ld2, ↓xDet_ld3, ↓xDet_ld4, World.size_drew, Nat.zero_add, cell_drew, frozen_drew, cell_set_eq, cell_set_o, cell_set_b, Option.map_some, World.frozen?_setCell, decide_true, decide_false, List.not_mem_nil, not_false_eq_true, 
      ↓xGuard_tt, Bool.not_true, Bool.not_false, ←decide_not, ↓ld_3, ↓ld_23, ↓ld_25, ↓fa_23_0, ↓fa_23_1, ↓fa_23_2, ↓fa_34_0, ↓fa_34_1, ↓al_25, ↓al_35, ↓st_25, ↓st_35, ↓ia_35, e1_0, e2_0, e8_0, e8_1, e9_0, e9_1, e10_0, e10_1, e11_0, e11_1, e12_0, e12_1]
  apply xDet_x
  · exact fun w hw => geom_Owner_call (Gives.lq (Owner_spec _ _ _ _ _ hf))
  simp (disch := (first | omega | (simp only [World.size_alloc, World.size_setCell, World.size_drew, List.mem_cons, List.not_mem_nil, or_false, not_false_eq_true] <;> omega) | fail)) only [↓xBox_r, ↓loadK_some, ↓loadsK_s, ↓loadsK_n, ↓loadsR_s, ↓loadsR_n, ↓storesK_s, ↓storesK_n, setCells_c, setCells_n, World.setCell_alloc_at, World.setCell_alloc_past, World.cell?_alloc_at, World.cell?_alloc_past, 
      World.frozen?_alloc_at, World.frozen?_alloc_past, World.size_alloc, ↓xPick_t, ↓xPick_f, ↓xGuard_tt, ↓xGuard_ff, ↓xGuard_tf, ↓xGuard_ft, ↓xIf_t, tick_eq, tickV_eq, ne_eq, not_true_eq_false, Int.reduceEq, Int.reduceLT, Int.reduceLE, 
      Bool.false_and, Bool.true_and, Bool.and_true, Bool.and_false, ↓xBin_add', ↓xBin_sub', ↓xBin_mul', ↓xBin_quo', ↓xBin_rem', wrap_in, ↓xIf_f, ↓xIf_tt, ↓xEx0, ↓xEx1, ↓xEx2, ↓xEx3, ↓xBin_eqs, ↓xBin_nes, ↓xUn_not, ↓u8_com, 
      ↓u8_eql, ↓u8_neq, ↓u8_lss, ↓u8_gtr, ↓u16_com, ↓u16_eql, ↓u16_neq, ↓u16_lss, ↓u16_gtr, ↓u32_com, ↓u32_eql, ↓u32_neq, ↓u32_lss, ↓u32_gtr, ↓u64_com, ↓u64_eql, ↓u64_neq, ↓u64_lss, ↓u64_gtr, ↓i64_lss, ↓i64_gtr, ↓i64_eql, 
      ↓i64_neq, ↓i64_neg, Int.toNat_natCast, Int.reduceToNat, Nat.reduceMul, Nat.reduceAdd, Nat.reduceSub, Nat.mul_one, List.nil_append, List.cons_append, List.getElem?_toArray, List.getElem?_cons_zero, List.getElem?_cons_succ, 
      cells_int, cells_bool, cells_string, cells_slice, cells_pointer, cells_agg, one_int, one_bool, one_string, one_slice, one_pointer, List.setIfInBounds_toArray, List.set_cons_zero, List.set_cons_succ, ↓xDet_s, ↓xDet_ld, 
      ↓xDet_ld2, ↓xDet_ld3, ↓xDet_ld4, World.size_drew, Nat.zero_add, cell_drew, frozen_drew, cell_set_eq, cell_set_o, cell_set_b, Option.map_some, World.frozen?_setCell, decide_true, decide_false, List.not_mem_nil, not_false_eq_true, 
      ↓xGuard_tt, Bool.not_true, Bool.not_false, ←decide_not, ↓ld_3, ↓ld_23, ↓ld_25, ↓fa_23_0, ↓fa_23_1, ↓fa_23_2, ↓fa_34_0, ↓fa_34_1, ↓al_25, ↓al_35, ↓st_25, ↓st_35, ↓ia_35, e1_0, e2_0, e8_0, e8_1, e9_0, e9_1, e10_0, e10_1, e11_0, e11_1, e12_0, e12_1]
  apply xDet_x
  · exact fun w hw => loamref4_Owner_call (Gives.lq (rOwner_spec _ _ _ _ _ hf h8))
  simp (disch := (first | omega | (simp only [World.size_alloc, World.size_setCell, World.size_drew, List.mem_cons, List.not_mem_nil, or_false, not_false_eq_true] <;> omega) | fail)) only [↓xBox_r, ↓loadK_some, ↓loadsK_s, ↓loadsK_n, ↓loadsR_s, ↓loadsR_n, ↓storesK_s, ↓storesK_n, setCells_c, setCells_n, World.setCell_alloc_at, World.setCell_alloc_past, World.cell?_alloc_at, World.cell?_alloc_past, 
      World.frozen?_alloc_at, World.frozen?_alloc_past, World.size_alloc, ↓xPick_t, ↓xPick_f, ↓xGuard_tt, ↓xGuard_ff, ↓xGuard_tf, ↓xGuard_ft, ↓xIf_t, tick_eq, tickV_eq, ne_eq, not_true_eq_false, Int.reduceEq, Int.reduceLT, Int.reduceLE, 
      Bool.false_and, Bool.true_and, Bool.and_true, Bool.and_false, ↓xBin_add', ↓xBin_sub', ↓xBin_mul', ↓xBin_quo', ↓xBin_rem', wrap_in, ↓xIf_f, ↓xIf_tt, ↓xEx0, ↓xEx1, ↓xEx2, ↓xEx3, ↓xBin_eqs, ↓xBin_nes, ↓xUn_not, ↓u8_com, 
      ↓u8_eql, ↓u8_neq, ↓u8_lss, ↓u8_gtr, ↓u16_com, ↓u16_eql, ↓u16_neq, ↓u16_lss, ↓u16_gtr, ↓u32_com, ↓u32_eql, ↓u32_neq, ↓u32_lss, ↓u32_gtr, ↓u64_com, ↓u64_eql, ↓u64_neq, ↓u64_lss, ↓u64_gtr, ↓i64_lss, ↓i64_gtr, ↓i64_eql, 
      ↓i64_neq, ↓i64_neg, Int.toNat_natCast, Int.reduceToNat, Nat.reduceMul, Nat.reduceAdd, Nat.reduceSub, Nat.mul_one, List.nil_append, List.cons_append, List.getElem?_toArray, List.getElem?_cons_zero, List.getElem?_cons_succ, 
      cells_int, cells_bool, cells_string, cells_slice, cells_pointer, cells_agg, one_int, one_bool, one_string, one_slice, one_pointer, List.setIfInBounds_toArray, List.set_cons_zero, List.set_cons_succ, ↓xDet_s, ↓xDet_ld, 
      ↓xDet_ld2, ↓xDet_ld3, ↓xDet_ld4, World.size_drew, Nat.zero_add, cell_drew, frozen_drew, cell_set_eq, cell_set_o, cell_set_b, Option.map_some, World.frozen?_setCell, decide_true, decide_false, List.not_mem_nil, not_false_eq_true, 
      ↓xGuard_tt, Bool.not_true, Bool.not_false, ←decide_not, ↓ld_3, ↓ld_23, ↓ld_25, ↓fa_23_0, ↓fa_23_1, ↓fa_23_2, ↓fa_34_0, ↓fa_34_1, ↓al_25, ↓al_35, ↓st_25, ↓st_35, ↓ia_35, e1_0, e2_0, e8_0, e8_1, e9_0, e9_1, e10_0, e10_1, e11_0, e11_1, e12_0, e12_1]
  refine xEnd_i fun w9 hw => ⟨by trivial, Ext.trans ?_ hw.ext⟩
  (repeat (first | exact Ext.refl _ _ | refine Ext.alloc' ?_ _ | refine Ext.drew' ?_ | refine Ext.set' ?_ (.inr (by first | omega | (simp only [World.size_alloc, World.size_drew, World.size_setCell] <;> omega))) | assumption | refine Ext.trans ?_ (by assumption)))
end Go.Proofs.Ytohonkbneimkoaa
