/- Two of the statements on geom, walked: growing, and two words. -/
import Derived.Test.YtohonkbneimkoaaGeom2
set_option linter.unusedVariables false
set_option linter.unusedSimpArgs false
namespace Go.Proofs.Ytohonkbneimkoaa
open Go.Sh Go.RowKit

theorem fit_of {s l n : Int} (h : ¬ badGeom s l n) : Fit s l n := by unfold badGeom at h; exact ⟨by omega, by omega, by omega, by omega, by omega, by omega⟩
theorem one_mono {s n m : Int} (hs : 0 < s) (h : n ≤ m) : one s n ≤ one s m := by
  have h1 : (n * 8 + s - 1) / s ≤ (m * 8 + s - 1) / s := Int.ediv_le_ediv hs (by omega)
  unfold one; omega
theorem one_room {s n : Int} (hs : 0 < s) (hn : 0 ≤ n) : 8 * n ≤ one s n * s := by
  have h1 := Int.mul_ediv_add_emod (n * 8 + s - 1) s
  have h2 := Int.emod_lt_of_pos (n * 8 + s - 1) hs
  have h3 : 0 ≤ (n + 32 - 1) / 32 * s := Int.mul_nonneg (by omega) (by omega)
  have h4 : (n * 8 + s - 1) / s * s = s * ((n * 8 + s - 1) / s) := Int.mul_comm _ _
  unfold one
  rw [Int.add_mul]
  omega

theorem GeomGrows_spec (s l n wd lg : Int) (bw : 0 ≤ wd ∧ wd ≤ 255) (bl : 0 ≤ lg ∧ lg ≤ 255) (w : World) : Gives Try.prog n_loamlaw4_GeomGrows #[gm s l n, .int .u8 wd, .int .u8 lg] w (.bool true) := by
  obtain ⟨h0, h1⟩ := bw
  obtain ⟨h2, h3⟩ := bl
  refine loamlaw4_GeomGrows_of ?_
  unfold loamlaw4_GeomGrows
  simp (disch := (first | omega | (simp only [World.size_alloc, World.size_setCell, World.size_drew, List.not_mem_nil, not_false_eq_true] <;> omega) | fail)) only [↓xBox_r, ↓loadK_some, ↓loadsK_s, ↓loadsK_n, ↓loadsR_s, ↓loadsR_n, ↓storesK_s, ↓storesK_n, setCells_c, setCells_n, World.setCell_alloc_at, World.setCell_alloc_past, World.cell?_alloc_at, World.cell?_alloc_past, 
      World.frozen?_alloc_at, World.frozen?_alloc_past, World.size_alloc, ↓xPick_t, ↓xPick_f, ↓xGuard_tt, ↓xGuard_ff, ↓xGuard_tf, ↓xGuard_ft, ↓xIf_t, tick_eq, tickV_eq, ne_eq, not_true_eq_false, Int.reduceEq, Int.reduceLT, Int.reduceLE, 
      Bool.false_and, Bool.true_and, Bool.and_true, Bool.and_false, ↓xBin_add', ↓xBin_sub', ↓xBin_mul', ↓xBin_quo', ↓xBin_rem', wrap_in, ↓xIf_f, ↓xIf_tt, ↓xEx0, ↓xEx1, ↓xEx2, ↓xEx3, ↓xBin_eqs, ↓xBin_nes, ↓xUn_not, ↓xBin_lss, 
      ↓xBin_leq, ↓xBin_gtr, ↓xBin_geq, ↓xBin_eql, ↓xBin_neq, List.nil_append, List.cons_append, List.getElem?_toArray, List.getElem?_cons_zero, List.getElem?_cons_succ, cells_int, cells_bool, cells_string, cells_slice, 
      cells_pointer, cells_agg, one_int, one_bool, one_string, one_slice, one_pointer, List.setIfInBounds_toArray, List.set_cons_zero, List.set_cons_succ, ↓xDet_s, ↓xDet_ld, ↓xDet_ld2, ↓xDet_ld3, ↓xDet_ld4, World.size_drew, 
      Nat.zero_add, cell_drew, frozen_drew, cell_set_eq, cell_set_o, cell_set_b, Option.map_some, World.frozen?_setCell, decide_true, decide_false, List.not_mem_nil, not_false_eq_true, ↓xGuard_tt, Bool.not_true, Bool.not_false, 
      ←decide_not, ↓ld_3, ↓ld_4, ↓ld_5, ↓ld_23, ↓ld_25, ↓ld_34, ↓ld_35, ↓ld_40, ↓ld_51, ↓ld_63, ↓ld_69, ↓lr_25, ↓lr_34, ↓lr_35, ↓lr_40, ↓lr_63, ↓lr_69, ↓fa_23_0, ↓fa_23_1, ↓fa_23_2, ↓fa_25_0, ↓fa_25_1, ↓fa_25_2, ↓fa_34_0, 
      ↓fa_34_1, ↓fa_40_0, ↓fa_40_1, ↓fa_63_0, ↓fa_63_1, ↓fa_63_2, ↓fa_63_3, ↓fa_69_0, ↓fa_69_1, ↓fa_69_2, ↓fa_69_3, ↓al_23, ↓al_25, ↓al_34, ↓al_35, ↓al_40, ↓al_63, ↓al_69, ↓st_3, ↓st_5, ↓st_23, ↓st_25, ↓st_34, ↓st_35, 
      ↓st_40, ↓st_63, ↓st_69, ↓bd_23_0_1_2, ↓bd_23, ↓bd_25_0_1_2, ↓bd_34_0_1, ↓bd_34, ↓bd_35_0_1, ↓bd_40_0_1, ↓bd_40, ↓bd_63_0_1, ↓bd_63_0, ↓bd_63_2_3, ↓bd_63, ↓bd_69_0_1_2_3, ↓bd_69_0_1, ↓bd_69_2_3, ↓bd_69, ↓es_34, 
      ↓eb_4, ↓es_63, ↓ns_69, ↓fd_34_0, ↓fd_34_1, ↓fd_40_0, ↓ix_35_1, ↓cv_3_59, ↓cv_3_64, ↓cv_5_3, ↓cv_5_52, ↓cv_52_5, ↓cv_52_64, ↓cv_64_3, ↓cv_64_5, ↓cv_80_3, ↓ln_50, ↓ln_51, ]
  refine loamlaw4_known_call (Gives.to (known4_spec _) fun w1 E1 => ?_)
  have z1 := E1.size
  try simp only [World.size_alloc, World.size_setCell, World.size_drew] at z1
  have e1_0 : ∀ o, w1.cell? ⟨w.heap.size, o, none⟩ = _ := fun o => E1.cell_o (by first | omega | (simp only [World.size_alloc, World.size_setCell, World.size_drew] <;> omega))
  simp (disch := (first | omega | (simp only [World.size_alloc, World.size_setCell, World.size_drew, List.not_mem_nil, not_false_eq_true] <;> omega) | fail)) only [↓xBox_r, ↓loadK_some, ↓loadsK_s, ↓loadsK_n, ↓loadsR_s, ↓loadsR_n, ↓storesK_s, ↓storesK_n, setCells_c, setCells_n, World.setCell_alloc_at, World.setCell_alloc_past, World.cell?_alloc_at, World.cell?_alloc_past, 
      World.frozen?_alloc_at, World.frozen?_alloc_past, World.size_alloc, ↓xPick_t, ↓xPick_f, ↓xGuard_tt, ↓xGuard_ff, ↓xGuard_tf, ↓xGuard_ft, ↓xIf_t, tick_eq, tickV_eq, ne_eq, not_true_eq_false, Int.reduceEq, Int.reduceLT, Int.reduceLE, 
      Bool.false_and, Bool.true_and, Bool.and_true, Bool.and_false, ↓xBin_add', ↓xBin_sub', ↓xBin_mul', ↓xBin_quo', ↓xBin_rem', wrap_in, ↓xIf_f, ↓xIf_tt, ↓xEx0, ↓xEx1, ↓xEx2, ↓xEx3, ↓xBin_eqs, ↓xBin_nes, ↓xUn_not, ↓xBin_lss, 
      ↓xBin_leq, ↓xBin_gtr, ↓xBin_geq, ↓xBin_eql, ↓xBin_neq, List.nil_append, List.cons_append, List.getElem?_toArray, List.getElem?_cons_zero, List.getElem?_cons_succ, cells_int, cells_bool, cells_string, cells_slice, 
      cells_pointer, cells_agg, one_int, one_bool, one_string, one_slice, one_pointer, List.setIfInBounds_toArray, List.set_cons_zero, List.set_cons_succ, ↓xDet_s, ↓xDet_ld, ↓xDet_ld2, ↓xDet_ld3, ↓xDet_ld4, World.size_drew, 
      Nat.zero_add, cell_drew, frozen_drew, cell_set_eq, cell_set_o, cell_set_b, Option.map_some, World.frozen?_setCell, decide_true, decide_false, List.not_mem_nil, not_false_eq_true, ↓xGuard_tt, Bool.not_true, Bool.not_false, 
      ←decide_not, ↓ld_3, ↓ld_4, ↓ld_5, ↓ld_23, ↓ld_25, ↓ld_34, ↓ld_35, ↓ld_40, ↓ld_51, ↓ld_63, ↓ld_69, ↓lr_25, ↓lr_34, ↓lr_35, ↓lr_40, ↓lr_63, ↓lr_69, ↓fa_23_0, ↓fa_23_1, ↓fa_23_2, ↓fa_25_0, ↓fa_25_1, ↓fa_25_2, ↓fa_34_0, 
      ↓fa_34_1, ↓fa_40_0, ↓fa_40_1, ↓fa_63_0, ↓fa_63_1, ↓fa_63_2, ↓fa_63_3, ↓fa_69_0, ↓fa_69_1, ↓fa_69_2, ↓fa_69_3, ↓al_23, ↓al_25, ↓al_34, ↓al_35, ↓al_40, ↓al_63, ↓al_69, ↓st_3, ↓st_5, ↓st_23, ↓st_25, ↓st_34, ↓st_35, 
      ↓st_40, ↓st_63, ↓st_69, ↓bd_23_0_1_2, ↓bd_23, ↓bd_25_0_1_2, ↓bd_34_0_1, ↓bd_34, ↓bd_35_0_1, ↓bd_40_0_1, ↓bd_40, ↓bd_63_0_1, ↓bd_63_0, ↓bd_63_2_3, ↓bd_63, ↓bd_69_0_1_2_3, ↓bd_69_0_1, ↓bd_69_2_3, ↓bd_69, ↓es_34, 
      ↓eb_4, ↓es_63, ↓ns_69, ↓fd_34_0, ↓fd_34_1, ↓fd_40_0, ↓ix_35_1, ↓cv_3_59, ↓cv_3_64, ↓cv_5_3, ↓cv_5_52, ↓cv_52_5, ↓cv_52_64, ↓cv_64_3, ↓cv_64_5, ↓cv_80_3, ↓ln_50, ↓ln_51, e1_0]
  by_cases g1 : s < 8
  · simp (disch := (first | omega | (simp only [World.size_alloc, World.size_setCell, World.size_drew, List.not_mem_nil, not_false_eq_true] <;> omega) | fail)) only [↓xBox_r, ↓loadK_some, ↓loadsK_s, ↓loadsK_n, ↓loadsR_s, ↓loadsR_n, ↓storesK_s, ↓storesK_n, setCells_c, setCells_n, World.setCell_alloc_at, World.setCell_alloc_past, World.cell?_alloc_at, World.cell?_alloc_past, 
      World.frozen?_alloc_at, World.frozen?_alloc_past, World.size_alloc, ↓xPick_t, ↓xPick_f, ↓xGuard_tt, ↓xGuard_ff, ↓xGuard_tf, ↓xGuard_ft, ↓xIf_t, tick_eq, tickV_eq, ne_eq, not_true_eq_false, Int.reduceEq, Int.reduceLT, Int.reduceLE, 
      Bool.false_and, Bool.true_and, Bool.and_true, Bool.and_false, ↓xBin_add', ↓xBin_sub', ↓xBin_mul', ↓xBin_quo', ↓xBin_rem', wrap_in, ↓xIf_f, ↓xIf_tt, ↓xEx0, ↓xEx1, ↓xEx2, ↓xEx3, ↓xBin_eqs, ↓xBin_nes, ↓xUn_not, ↓xBin_lss, 
      ↓xBin_leq, ↓xBin_gtr, ↓xBin_geq, ↓xBin_eql, ↓xBin_neq, List.nil_append, List.cons_append, List.getElem?_toArray, List.getElem?_cons_zero, List.getElem?_cons_succ, cells_int, cells_bool, cells_string, cells_slice, 
      cells_pointer, cells_agg, one_int, one_bool, one_string, one_slice, one_pointer, List.setIfInBounds_toArray, List.set_cons_zero, List.set_cons_succ, ↓xDet_s, ↓xDet_ld, ↓xDet_ld2, ↓xDet_ld3, ↓xDet_ld4, World.size_drew, 
      Nat.zero_add, cell_drew, frozen_drew, cell_set_eq, cell_set_o, cell_set_b, Option.map_some, World.frozen?_setCell, decide_true, decide_false, List.not_mem_nil, not_false_eq_true, ↓xGuard_tt, Bool.not_true, Bool.not_false, 
      ←decide_not, ↓ld_3, ↓ld_4, ↓ld_5, ↓ld_23, ↓ld_25, ↓ld_34, ↓ld_35, ↓ld_40, ↓ld_51, ↓ld_63, ↓ld_69, ↓lr_25, ↓lr_34, ↓lr_35, ↓lr_40, ↓lr_63, ↓lr_69, ↓fa_23_0, ↓fa_23_1, ↓fa_23_2, ↓fa_25_0, ↓fa_25_1, ↓fa_25_2, ↓fa_34_0, 
      ↓fa_34_1, ↓fa_40_0, ↓fa_40_1, ↓fa_63_0, ↓fa_63_1, ↓fa_63_2, ↓fa_63_3, ↓fa_69_0, ↓fa_69_1, ↓fa_69_2, ↓fa_69_3, ↓al_23, ↓al_25, ↓al_34, ↓al_35, ↓al_40, ↓al_63, ↓al_69, ↓st_3, ↓st_5, ↓st_23, ↓st_25, ↓st_34, ↓st_35, 
      ↓st_40, ↓st_63, ↓st_69, ↓bd_23_0_1_2, ↓bd_23, ↓bd_25_0_1_2, ↓bd_34_0_1, ↓bd_34, ↓bd_35_0_1, ↓bd_40_0_1, ↓bd_40, ↓bd_63_0_1, ↓bd_63_0, ↓bd_63_2_3, ↓bd_63, ↓bd_69_0_1_2_3, ↓bd_69_0_1, ↓bd_69_2_3, ↓bd_69, ↓es_34, 
      ↓eb_4, ↓es_63, ↓ns_69, ↓fd_34_0, ↓fd_34_1, ↓fd_40_0, ↓ix_35_1, ↓cv_3_59, ↓cv_3_64, ↓cv_5_3, ↓cv_5_52, ↓cv_52_5, ↓cv_52_64, ↓cv_64_3, ↓cv_64_5, ↓cv_80_3, ↓ln_50, ↓ln_51, e1_0, g1]
    exact ⟨trivial, by (repeat (first | exact Ext.refl _ _ | refine Ext.alloc' ?_ _ | refine Ext.drew' ?_ | refine Ext.set' ?_ (.inr (by first | omega | (simp only [World.size_alloc, World.size_drew, World.size_setCell] <;> omega))) | assumption | refine Ext.trans ?_ (by assumption)))⟩
  by_cases g2 : 16384 < n
  · simp (disch := (first | omega | (simp only [World.size_alloc, World.size_setCell, World.size_drew, List.not_mem_nil, not_false_eq_true] <;> omega) | fail)) only [↓xBox_r, ↓loadK_some, ↓loadsK_s, ↓loadsK_n, ↓loadsR_s, ↓loadsR_n, ↓storesK_s, ↓storesK_n, setCells_c, setCells_n, World.setCell_alloc_at, World.setCell_alloc_past, World.cell?_alloc_at, World.cell?_alloc_past, 
      World.frozen?_alloc_at, World.frozen?_alloc_past, World.size_alloc, ↓xPick_t, ↓xPick_f, ↓xGuard_tt, ↓xGuard_ff, ↓xGuard_tf, ↓xGuard_ft, ↓xIf_t, tick_eq, tickV_eq, ne_eq, not_true_eq_false, Int.reduceEq, Int.reduceLT, Int.reduceLE, 
      Bool.false_and, Bool.true_and, Bool.and_true, Bool.and_false, ↓xBin_add', ↓xBin_sub', ↓xBin_mul', ↓xBin_quo', ↓xBin_rem', wrap_in, ↓xIf_f, ↓xIf_tt, ↓xEx0, ↓xEx1, ↓xEx2, ↓xEx3, ↓xBin_eqs, ↓xBin_nes, ↓xUn_not, ↓xBin_lss, 
      ↓xBin_leq, ↓xBin_gtr, ↓xBin_geq, ↓xBin_eql, ↓xBin_neq, List.nil_append, List.cons_append, List.getElem?_toArray, List.getElem?_cons_zero, List.getElem?_cons_succ, cells_int, cells_bool, cells_string, cells_slice, 
      cells_pointer, cells_agg, one_int, one_bool, one_string, one_slice, one_pointer, List.setIfInBounds_toArray, List.set_cons_zero, List.set_cons_succ, ↓xDet_s, ↓xDet_ld, ↓xDet_ld2, ↓xDet_ld3, ↓xDet_ld4, World.size_drew, 
      Nat.zero_add, cell_drew, frozen_drew, cell_set_eq, cell_set_o, cell_set_b, Option.map_some, World.frozen?_setCell, decide_true, decide_false, List.not_mem_nil, not_false_eq_true, ↓xGuard_tt, Bool.not_true, Bool.not_false, 
      ←decide_not, ↓ld_3, ↓ld_4, ↓ld_5, ↓ld_23, ↓ld_25, ↓ld_34, ↓ld_35, ↓ld_40, ↓ld_51, ↓ld_63, ↓ld_69, ↓lr_25, ↓lr_34, ↓lr_35, ↓lr_40, ↓lr_63, ↓lr_69, ↓fa_23_0, ↓fa_23_1, ↓fa_23_2, ↓fa_25_0, ↓fa_25_1, ↓fa_25_2, ↓fa_34_0, 
      ↓fa_34_1, ↓fa_40_0, ↓fa_40_1, ↓fa_63_0, ↓fa_63_1, ↓fa_63_2, ↓fa_63_3, ↓fa_69_0, ↓fa_69_1, ↓fa_69_2, ↓fa_69_3, ↓al_23, ↓al_25, ↓al_34, ↓al_35, ↓al_40, ↓al_63, ↓al_69, ↓st_3, ↓st_5, ↓st_23, ↓st_25, ↓st_34, ↓st_35, 
      ↓st_40, ↓st_63, ↓st_69, ↓bd_23_0_1_2, ↓bd_23, ↓bd_25_0_1_2, ↓bd_34_0_1, ↓bd_34, ↓bd_35_0_1, ↓bd_40_0_1, ↓bd_40, ↓bd_63_0_1, ↓bd_63_0, ↓bd_63_2_3, ↓bd_63, ↓bd_69_0_1_2_3, ↓bd_69_0_1, ↓bd_69_2_3, ↓bd_69, ↓es_34, 
      ↓eb_4, ↓es_63, ↓ns_69, ↓fd_34_0, ↓fd_34_1, ↓fd_40_0, ↓ix_35_1, ↓cv_3_59, ↓cv_3_64, ↓cv_5_3, ↓cv_5_52, ↓cv_52_5, ↓cv_52_64, ↓cv_64_3, ↓cv_64_5, ↓cv_80_3, ↓ln_50, ↓ln_51, e1_0, g1, g2]
    exact ⟨trivial, by (repeat (first | exact Ext.refl _ _ | refine Ext.alloc' ?_ _ | refine Ext.drew' ?_ | refine Ext.set' ?_ (.inr (by first | omega | (simp only [World.size_alloc, World.size_drew, World.size_setCell] <;> omega))) | assumption | refine Ext.trans ?_ (by assumption)))⟩
  by_cases g3 : n < 0
  · simp (disch := (first | omega | (simp only [World.size_alloc, World.size_setCell, World.size_drew, List.not_mem_nil, not_false_eq_true] <;> omega) | fail)) only [↓xBox_r, ↓loadK_some, ↓loadsK_s, ↓loadsK_n, ↓loadsR_s, ↓loadsR_n, ↓storesK_s, ↓storesK_n, setCells_c, setCells_n, World.setCell_alloc_at, World.setCell_alloc_past, World.cell?_alloc_at, World.cell?_alloc_past, 
      World.frozen?_alloc_at, World.frozen?_alloc_past, World.size_alloc, ↓xPick_t, ↓xPick_f, ↓xGuard_tt, ↓xGuard_ff, ↓xGuard_tf, ↓xGuard_ft, ↓xIf_t, tick_eq, tickV_eq, ne_eq, not_true_eq_false, Int.reduceEq, Int.reduceLT, Int.reduceLE, 
      Bool.false_and, Bool.true_and, Bool.and_true, Bool.and_false, ↓xBin_add', ↓xBin_sub', ↓xBin_mul', ↓xBin_quo', ↓xBin_rem', wrap_in, ↓xIf_f, ↓xIf_tt, ↓xEx0, ↓xEx1, ↓xEx2, ↓xEx3, ↓xBin_eqs, ↓xBin_nes, ↓xUn_not, ↓xBin_lss, 
      ↓xBin_leq, ↓xBin_gtr, ↓xBin_geq, ↓xBin_eql, ↓xBin_neq, List.nil_append, List.cons_append, List.getElem?_toArray, List.getElem?_cons_zero, List.getElem?_cons_succ, cells_int, cells_bool, cells_string, cells_slice, 
      cells_pointer, cells_agg, one_int, one_bool, one_string, one_slice, one_pointer, List.setIfInBounds_toArray, List.set_cons_zero, List.set_cons_succ, ↓xDet_s, ↓xDet_ld, ↓xDet_ld2, ↓xDet_ld3, ↓xDet_ld4, World.size_drew, 
      Nat.zero_add, cell_drew, frozen_drew, cell_set_eq, cell_set_o, cell_set_b, Option.map_some, World.frozen?_setCell, decide_true, decide_false, List.not_mem_nil, not_false_eq_true, ↓xGuard_tt, Bool.not_true, Bool.not_false, 
      ←decide_not, ↓ld_3, ↓ld_4, ↓ld_5, ↓ld_23, ↓ld_25, ↓ld_34, ↓ld_35, ↓ld_40, ↓ld_51, ↓ld_63, ↓ld_69, ↓lr_25, ↓lr_34, ↓lr_35, ↓lr_40, ↓lr_63, ↓lr_69, ↓fa_23_0, ↓fa_23_1, ↓fa_23_2, ↓fa_25_0, ↓fa_25_1, ↓fa_25_2, ↓fa_34_0, 
      ↓fa_34_1, ↓fa_40_0, ↓fa_40_1, ↓fa_63_0, ↓fa_63_1, ↓fa_63_2, ↓fa_63_3, ↓fa_69_0, ↓fa_69_1, ↓fa_69_2, ↓fa_69_3, ↓al_23, ↓al_25, ↓al_34, ↓al_35, ↓al_40, ↓al_63, ↓al_69, ↓st_3, ↓st_5, ↓st_23, ↓st_25, ↓st_34, ↓st_35, 
      ↓st_40, ↓st_63, ↓st_69, ↓bd_23_0_1_2, ↓bd_23, ↓bd_25_0_1_2, ↓bd_34_0_1, ↓bd_34, ↓bd_35_0_1, ↓bd_40_0_1, ↓bd_40, ↓bd_63_0_1, ↓bd_63_0, ↓bd_63_2_3, ↓bd_63, ↓bd_69_0_1_2_3, ↓bd_69_0_1, ↓bd_69_2_3, ↓bd_69, ↓es_34, 
      ↓eb_4, ↓es_63, ↓ns_69, ↓fd_34_0, ↓fd_34_1, ↓fd_40_0, ↓ix_35_1, ↓cv_3_59, ↓cv_3_64, ↓cv_5_3, ↓cv_5_52, ↓cv_52_5, ↓cv_52_64, ↓cv_64_3, ↓cv_64_5, ↓cv_80_3, ↓ln_50, ↓ln_51, e1_0, g1, g2, g3]
    exact ⟨trivial, by (repeat (first | exact Ext.refl _ _ | refine Ext.alloc' ?_ _ | refine Ext.drew' ?_ | refine Ext.set' ?_ (.inr (by first | omega | (simp only [World.size_alloc, World.size_drew, World.size_setCell] <;> omega))) | assumption | refine Ext.trans ?_ (by assumption)))⟩
  by_cases g4 : 2000 < l
  · simp (disch := (first | omega | (simp only [World.size_alloc, World.size_setCell, World.size_drew, List.not_mem_nil, not_false_eq_true] <;> omega) | fail)) only [↓xBox_r, ↓loadK_some, ↓loadsK_s, ↓loadsK_n, ↓loadsR_s, ↓loadsR_n, ↓storesK_s, ↓storesK_n, setCells_c, setCells_n, World.setCell_alloc_at, World.setCell_alloc_past, World.cell?_alloc_at, World.cell?_alloc_past, 
      World.frozen?_alloc_at, World.frozen?_alloc_past, World.size_alloc, ↓xPick_t, ↓xPick_f, ↓xGuard_tt, ↓xGuard_ff, ↓xGuard_tf, ↓xGuard_ft, ↓xIf_t, tick_eq, tickV_eq, ne_eq, not_true_eq_false, Int.reduceEq, Int.reduceLT, Int.reduceLE, 
      Bool.false_and, Bool.true_and, Bool.and_true, Bool.and_false, ↓xBin_add', ↓xBin_sub', ↓xBin_mul', ↓xBin_quo', ↓xBin_rem', wrap_in, ↓xIf_f, ↓xIf_tt, ↓xEx0, ↓xEx1, ↓xEx2, ↓xEx3, ↓xBin_eqs, ↓xBin_nes, ↓xUn_not, ↓xBin_lss, 
      ↓xBin_leq, ↓xBin_gtr, ↓xBin_geq, ↓xBin_eql, ↓xBin_neq, List.nil_append, List.cons_append, List.getElem?_toArray, List.getElem?_cons_zero, List.getElem?_cons_succ, cells_int, cells_bool, cells_string, cells_slice, 
      cells_pointer, cells_agg, one_int, one_bool, one_string, one_slice, one_pointer, List.setIfInBounds_toArray, List.set_cons_zero, List.set_cons_succ, ↓xDet_s, ↓xDet_ld, ↓xDet_ld2, ↓xDet_ld3, ↓xDet_ld4, World.size_drew, 
      Nat.zero_add, cell_drew, frozen_drew, cell_set_eq, cell_set_o, cell_set_b, Option.map_some, World.frozen?_setCell, decide_true, decide_false, List.not_mem_nil, not_false_eq_true, ↓xGuard_tt, Bool.not_true, Bool.not_false, 
      ←decide_not, ↓ld_3, ↓ld_4, ↓ld_5, ↓ld_23, ↓ld_25, ↓ld_34, ↓ld_35, ↓ld_40, ↓ld_51, ↓ld_63, ↓ld_69, ↓lr_25, ↓lr_34, ↓lr_35, ↓lr_40, ↓lr_63, ↓lr_69, ↓fa_23_0, ↓fa_23_1, ↓fa_23_2, ↓fa_25_0, ↓fa_25_1, ↓fa_25_2, ↓fa_34_0, 
      ↓fa_34_1, ↓fa_40_0, ↓fa_40_1, ↓fa_63_0, ↓fa_63_1, ↓fa_63_2, ↓fa_63_3, ↓fa_69_0, ↓fa_69_1, ↓fa_69_2, ↓fa_69_3, ↓al_23, ↓al_25, ↓al_34, ↓al_35, ↓al_40, ↓al_63, ↓al_69, ↓st_3, ↓st_5, ↓st_23, ↓st_25, ↓st_34, ↓st_35, 
      ↓st_40, ↓st_63, ↓st_69, ↓bd_23_0_1_2, ↓bd_23, ↓bd_25_0_1_2, ↓bd_34_0_1, ↓bd_34, ↓bd_35_0_1, ↓bd_40_0_1, ↓bd_40, ↓bd_63_0_1, ↓bd_63_0, ↓bd_63_2_3, ↓bd_63, ↓bd_69_0_1_2_3, ↓bd_69_0_1, ↓bd_69_2_3, ↓bd_69, ↓es_34, 
      ↓eb_4, ↓es_63, ↓ns_69, ↓fd_34_0, ↓fd_34_1, ↓fd_40_0, ↓ix_35_1, ↓cv_3_59, ↓cv_3_64, ↓cv_5_3, ↓cv_5_52, ↓cv_52_5, ↓cv_52_64, ↓cv_64_3, ↓cv_64_5, ↓cv_80_3, ↓ln_50, ↓ln_51, e1_0, g1, g2, g3, g4]
    exact ⟨trivial, by (repeat (first | exact Ext.refl _ _ | refine Ext.alloc' ?_ _ | refine Ext.drew' ?_ | refine Ext.set' ?_ (.inr (by first | omega | (simp only [World.size_alloc, World.size_drew, World.size_setCell] <;> omega))) | assumption | refine Ext.trans ?_ (by assumption)))⟩
  by_cases g5 : l < 0
  · simp (disch := (first | omega | (simp only [World.size_alloc, World.size_setCell, World.size_drew, List.not_mem_nil, not_false_eq_true] <;> omega) | fail)) only [↓xBox_r, ↓loadK_some, ↓loadsK_s, ↓loadsK_n, ↓loadsR_s, ↓loadsR_n, ↓storesK_s, ↓storesK_n, setCells_c, setCells_n, World.setCell_alloc_at, World.setCell_alloc_past, World.cell?_alloc_at, World.cell?_alloc_past, 
      World.frozen?_alloc_at, World.frozen?_alloc_past, World.size_alloc, ↓xPick_t, ↓xPick_f, ↓xGuard_tt, ↓xGuard_ff, ↓xGuard_tf, ↓xGuard_ft, ↓xIf_t, tick_eq, tickV_eq, ne_eq, not_true_eq_false, Int.reduceEq, Int.reduceLT, Int.reduceLE, 
      Bool.false_and, Bool.true_and, Bool.and_true, Bool.and_false, ↓xBin_add', ↓xBin_sub', ↓xBin_mul', ↓xBin_quo', ↓xBin_rem', wrap_in, ↓xIf_f, ↓xIf_tt, ↓xEx0, ↓xEx1, ↓xEx2, ↓xEx3, ↓xBin_eqs, ↓xBin_nes, ↓xUn_not, ↓xBin_lss, 
      ↓xBin_leq, ↓xBin_gtr, ↓xBin_geq, ↓xBin_eql, ↓xBin_neq, List.nil_append, List.cons_append, List.getElem?_toArray, List.getElem?_cons_zero, List.getElem?_cons_succ, cells_int, cells_bool, cells_string, cells_slice, 
      cells_pointer, cells_agg, one_int, one_bool, one_string, one_slice, one_pointer, List.setIfInBounds_toArray, List.set_cons_zero, List.set_cons_succ, ↓xDet_s, ↓xDet_ld, ↓xDet_ld2, ↓xDet_ld3, ↓xDet_ld4, World.size_drew, 
      Nat.zero_add, cell_drew, frozen_drew, cell_set_eq, cell_set_o, cell_set_b, Option.map_some, World.frozen?_setCell, decide_true, decide_false, List.not_mem_nil, not_false_eq_true, ↓xGuard_tt, Bool.not_true, Bool.not_false, 
      ←decide_not, ↓ld_3, ↓ld_4, ↓ld_5, ↓ld_23, ↓ld_25, ↓ld_34, ↓ld_35, ↓ld_40, ↓ld_51, ↓ld_63, ↓ld_69, ↓lr_25, ↓lr_34, ↓lr_35, ↓lr_40, ↓lr_63, ↓lr_69, ↓fa_23_0, ↓fa_23_1, ↓fa_23_2, ↓fa_25_0, ↓fa_25_1, ↓fa_25_2, ↓fa_34_0, 
      ↓fa_34_1, ↓fa_40_0, ↓fa_40_1, ↓fa_63_0, ↓fa_63_1, ↓fa_63_2, ↓fa_63_3, ↓fa_69_0, ↓fa_69_1, ↓fa_69_2, ↓fa_69_3, ↓al_23, ↓al_25, ↓al_34, ↓al_35, ↓al_40, ↓al_63, ↓al_69, ↓st_3, ↓st_5, ↓st_23, ↓st_25, ↓st_34, ↓st_35, 
      ↓st_40, ↓st_63, ↓st_69, ↓bd_23_0_1_2, ↓bd_23, ↓bd_25_0_1_2, ↓bd_34_0_1, ↓bd_34, ↓bd_35_0_1, ↓bd_40_0_1, ↓bd_40, ↓bd_63_0_1, ↓bd_63_0, ↓bd_63_2_3, ↓bd_63, ↓bd_69_0_1_2_3, ↓bd_69_0_1, ↓bd_69_2_3, ↓bd_69, ↓es_34, 
      ↓eb_4, ↓es_63, ↓ns_69, ↓fd_34_0, ↓fd_34_1, ↓fd_40_0, ↓ix_35_1, ↓cv_3_59, ↓cv_3_64, ↓cv_5_3, ↓cv_5_52, ↓cv_52_5, ↓cv_52_64, ↓cv_64_3, ↓cv_64_5, ↓cv_80_3, ↓ln_50, ↓ln_51, e1_0, g1, g2, g3, g4, g5]
    exact ⟨trivial, by (repeat (first | exact Ext.refl _ _ | refine Ext.alloc' ?_ _ | refine Ext.drew' ?_ | refine Ext.set' ?_ (.inr (by first | omega | (simp only [World.size_alloc, World.size_drew, World.size_setCell] <;> omega))) | assumption | refine Ext.trans ?_ (by assumption)))⟩
  simp (disch := (first | omega | (simp only [World.size_alloc, World.size_setCell, World.size_drew, List.not_mem_nil, not_false_eq_true] <;> omega) | fail)) only [↓xBox_r, ↓loadK_some, ↓loadsK_s, ↓loadsK_n, ↓loadsR_s, ↓loadsR_n, ↓storesK_s, ↓storesK_n, setCells_c, setCells_n, World.setCell_alloc_at, World.setCell_alloc_past, World.cell?_alloc_at, World.cell?_alloc_past, 
      World.frozen?_alloc_at, World.frozen?_alloc_past, World.size_alloc, ↓xPick_t, ↓xPick_f, ↓xGuard_tt, ↓xGuard_ff, ↓xGuard_tf, ↓xGuard_ft, ↓xIf_t, tick_eq, tickV_eq, ne_eq, not_true_eq_false, Int.reduceEq, Int.reduceLT, Int.reduceLE, 
      Bool.false_and, Bool.true_and, Bool.and_true, Bool.and_false, ↓xBin_add', ↓xBin_sub', ↓xBin_mul', ↓xBin_quo', ↓xBin_rem', wrap_in, ↓xIf_f, ↓xIf_tt, ↓xEx0, ↓xEx1, ↓xEx2, ↓xEx3, ↓xBin_eqs, ↓xBin_nes, ↓xUn_not, ↓xBin_lss, 
      ↓xBin_leq, ↓xBin_gtr, ↓xBin_geq, ↓xBin_eql, ↓xBin_neq, List.nil_append, List.cons_append, List.getElem?_toArray, List.getElem?_cons_zero, List.getElem?_cons_succ, cells_int, cells_bool, cells_string, cells_slice, 
      cells_pointer, cells_agg, one_int, one_bool, one_string, one_slice, one_pointer, List.setIfInBounds_toArray, List.set_cons_zero, List.set_cons_succ, ↓xDet_s, ↓xDet_ld, ↓xDet_ld2, ↓xDet_ld3, ↓xDet_ld4, World.size_drew, 
      Nat.zero_add, cell_drew, frozen_drew, cell_set_eq, cell_set_o, cell_set_b, Option.map_some, World.frozen?_setCell, decide_true, decide_false, List.not_mem_nil, not_false_eq_true, ↓xGuard_tt, Bool.not_true, Bool.not_false, 
      ←decide_not, ↓ld_3, ↓ld_4, ↓ld_5, ↓ld_23, ↓ld_25, ↓ld_34, ↓ld_35, ↓ld_40, ↓ld_51, ↓ld_63, ↓ld_69, ↓lr_25, ↓lr_34, ↓lr_35, ↓lr_40, ↓lr_63, ↓lr_69, ↓fa_23_0, ↓fa_23_1, ↓fa_23_2, ↓fa_25_0, ↓fa_25_1, ↓fa_25_2, ↓fa_34_0, 
      ↓fa_34_1, ↓fa_40_0, ↓fa_40_1, ↓fa_63_0, ↓fa_63_1, ↓fa_63_2, ↓fa_63_3, ↓fa_69_0, ↓fa_69_1, ↓fa_69_2, ↓fa_69_3, ↓al_23, ↓al_25, ↓al_34, ↓al_35, ↓al_40, ↓al_63, ↓al_69, ↓st_3, ↓st_5, ↓st_23, ↓st_25, ↓st_34, ↓st_35, 
      ↓st_40, ↓st_63, ↓st_69, ↓bd_23_0_1_2, ↓bd_23, ↓bd_25_0_1_2, ↓bd_34_0_1, ↓bd_34, ↓bd_35_0_1, ↓bd_40_0_1, ↓bd_40, ↓bd_63_0_1, ↓bd_63_0, ↓bd_63_2_3, ↓bd_63, ↓bd_69_0_1_2_3, ↓bd_69_0_1, ↓bd_69_2_3, ↓bd_69, ↓es_34, 
      ↓eb_4, ↓es_63, ↓ns_69, ↓fd_34_0, ↓fd_34_1, ↓fd_40_0, ↓ix_35_1, ↓cv_3_59, ↓cv_3_64, ↓cv_5_3, ↓cv_5_52, ↓cv_52_5, ↓cv_52_64, ↓cv_64_3, ↓cv_64_5, ↓cv_80_3, ↓ln_50, ↓ln_51, e1_0, g1, g2, g3, g4, g5]
  refine geom_Check_call (Gives.to (Check_spec _ _ _ _) fun w2 E2 => ?_)
  have z2 := E2.size
  try simp only [World.size_alloc, World.size_setCell, World.size_drew] at z2
  have e2_0 : ∀ o, w2.cell? ⟨w.heap.size, o, none⟩ = _ := fun o => E2.cell_o (by first | omega | (simp only [World.size_alloc, World.size_setCell, World.size_drew] <;> omega))
  by_cases g6 : badGeom s l n
  · simp (disch := (first | omega | (simp only [World.size_alloc, World.size_setCell, World.size_drew, List.not_mem_nil, not_false_eq_true] <;> omega) | fail)) only [↓xBox_r, ↓loadK_some, ↓loadsK_s, ↓loadsK_n, ↓loadsR_s, ↓loadsR_n, ↓storesK_s, ↓storesK_n, setCells_c, setCells_n, World.setCell_alloc_at, World.setCell_alloc_past, World.cell?_alloc_at, World.cell?_alloc_past, 
      World.frozen?_alloc_at, World.frozen?_alloc_past, World.size_alloc, ↓xPick_t, ↓xPick_f, ↓xGuard_tt, ↓xGuard_ff, ↓xGuard_tf, ↓xGuard_ft, ↓xIf_t, tick_eq, tickV_eq, ne_eq, not_true_eq_false, Int.reduceEq, Int.reduceLT, Int.reduceLE, 
      Bool.false_and, Bool.true_and, Bool.and_true, Bool.and_false, ↓xBin_add', ↓xBin_sub', ↓xBin_mul', ↓xBin_quo', ↓xBin_rem', wrap_in, ↓xIf_f, ↓xIf_tt, ↓xEx0, ↓xEx1, ↓xEx2, ↓xEx3, ↓xBin_eqs, ↓xBin_nes, ↓xUn_not, ↓xBin_lss, 
      ↓xBin_leq, ↓xBin_gtr, ↓xBin_geq, ↓xBin_eql, ↓xBin_neq, List.nil_append, List.cons_append, List.getElem?_toArray, List.getElem?_cons_zero, List.getElem?_cons_succ, cells_int, cells_bool, cells_string, cells_slice, 
      cells_pointer, cells_agg, one_int, one_bool, one_string, one_slice, one_pointer, List.setIfInBounds_toArray, List.set_cons_zero, List.set_cons_succ, ↓xDet_s, ↓xDet_ld, ↓xDet_ld2, ↓xDet_ld3, ↓xDet_ld4, World.size_drew, 
      Nat.zero_add, cell_drew, frozen_drew, cell_set_eq, cell_set_o, cell_set_b, Option.map_some, World.frozen?_setCell, decide_true, decide_false, List.not_mem_nil, not_false_eq_true, ↓xGuard_tt, Bool.not_true, Bool.not_false, 
      ←decide_not, ↓ld_3, ↓ld_4, ↓ld_5, ↓ld_23, ↓ld_25, ↓ld_34, ↓ld_35, ↓ld_40, ↓ld_51, ↓ld_63, ↓ld_69, ↓lr_25, ↓lr_34, ↓lr_35, ↓lr_40, ↓lr_63, ↓lr_69, ↓fa_23_0, ↓fa_23_1, ↓fa_23_2, ↓fa_25_0, ↓fa_25_1, ↓fa_25_2, ↓fa_34_0, 
      ↓fa_34_1, ↓fa_40_0, ↓fa_40_1, ↓fa_63_0, ↓fa_63_1, ↓fa_63_2, ↓fa_63_3, ↓fa_69_0, ↓fa_69_1, ↓fa_69_2, ↓fa_69_3, ↓al_23, ↓al_25, ↓al_34, ↓al_35, ↓al_40, ↓al_63, ↓al_69, ↓st_3, ↓st_5, ↓st_23, ↓st_25, ↓st_34, ↓st_35, 
      ↓st_40, ↓st_63, ↓st_69, ↓bd_23_0_1_2, ↓bd_23, ↓bd_25_0_1_2, ↓bd_34_0_1, ↓bd_34, ↓bd_35_0_1, ↓bd_40_0_1, ↓bd_40, ↓bd_63_0_1, ↓bd_63_0, ↓bd_63_2_3, ↓bd_63, ↓bd_69_0_1_2_3, ↓bd_69_0_1, ↓bd_69_2_3, ↓bd_69, ↓es_34, 
      ↓eb_4, ↓es_63, ↓ns_69, ↓fd_34_0, ↓fd_34_1, ↓fd_40_0, ↓ix_35_1, ↓cv_3_59, ↓cv_3_64, ↓cv_5_3, ↓cv_5_52, ↓cv_52_5, ↓cv_52_64, ↓cv_64_3, ↓cv_64_5, ↓cv_80_3, ↓ln_50, ↓ln_51, e1_0, e2_0, g5, checkV_1 g6, ne_eq, Int.reduceEq, not_false_eq_true]
    exact ⟨trivial, by (repeat (first | exact Ext.refl _ _ | refine Ext.alloc' ?_ _ | refine Ext.drew' ?_ | refine Ext.set' ?_ (.inr (by first | omega | (simp only [World.size_alloc, World.size_drew, World.size_setCell] <;> omega))) | assumption | refine Ext.trans ?_ (by assumption)))⟩
  have hf := fit_of g6
  obtain ⟨s0, s1, l0, l1, n0, n1⟩ := fit_of g6
  have ho := one_le s n (by omega) n0
  simp (disch := (first | omega | (simp only [World.size_alloc, World.size_setCell, World.size_drew, List.not_mem_nil, not_false_eq_true] <;> omega) | fail)) only [↓xBox_r, ↓loadK_some, ↓loadsK_s, ↓loadsK_n, ↓loadsR_s, ↓loadsR_n, ↓storesK_s, ↓storesK_n, setCells_c, setCells_n, World.setCell_alloc_at, World.setCell_alloc_past, World.cell?_alloc_at, World.cell?_alloc_past, 
      World.frozen?_alloc_at, World.frozen?_alloc_past, World.size_alloc, ↓xPick_t, ↓xPick_f, ↓xGuard_tt, ↓xGuard_ff, ↓xGuard_tf, ↓xGuard_ft, ↓xIf_t, tick_eq, tickV_eq, ne_eq, not_true_eq_false, Int.reduceEq, Int.reduceLT, Int.reduceLE, 
      Bool.false_and, Bool.true_and, Bool.and_true, Bool.and_false, ↓xBin_add', ↓xBin_sub', ↓xBin_mul', ↓xBin_quo', ↓xBin_rem', wrap_in, ↓xIf_f, ↓xIf_tt, ↓xEx0, ↓xEx1, ↓xEx2, ↓xEx3, ↓xBin_eqs, ↓xBin_nes, ↓xUn_not, ↓xBin_lss, 
      ↓xBin_leq, ↓xBin_gtr, ↓xBin_geq, ↓xBin_eql, ↓xBin_neq, List.nil_append, List.cons_append, List.getElem?_toArray, List.getElem?_cons_zero, List.getElem?_cons_succ, cells_int, cells_bool, cells_string, cells_slice, 
      cells_pointer, cells_agg, one_int, one_bool, one_string, one_slice, one_pointer, List.setIfInBounds_toArray, List.set_cons_zero, List.set_cons_succ, ↓xDet_s, ↓xDet_ld, ↓xDet_ld2, ↓xDet_ld3, ↓xDet_ld4, World.size_drew, 
      Nat.zero_add, cell_drew, frozen_drew, cell_set_eq, cell_set_o, cell_set_b, Option.map_some, World.frozen?_setCell, decide_true, decide_false, List.not_mem_nil, not_false_eq_true, ↓xGuard_tt, Bool.not_true, Bool.not_false, 
      ←decide_not, ↓ld_3, ↓ld_4, ↓ld_5, ↓ld_23, ↓ld_25, ↓ld_34, ↓ld_35, ↓ld_40, ↓ld_51, ↓ld_63, ↓ld_69, ↓lr_25, ↓lr_34, ↓lr_35, ↓lr_40, ↓lr_63, ↓lr_69, ↓fa_23_0, ↓fa_23_1, ↓fa_23_2, ↓fa_25_0, ↓fa_25_1, ↓fa_25_2, ↓fa_34_0, 
      ↓fa_34_1, ↓fa_40_0, ↓fa_40_1, ↓fa_63_0, ↓fa_63_1, ↓fa_63_2, ↓fa_63_3, ↓fa_69_0, ↓fa_69_1, ↓fa_69_2, ↓fa_69_3, ↓al_23, ↓al_25, ↓al_34, ↓al_35, ↓al_40, ↓al_63, ↓al_69, ↓st_3, ↓st_5, ↓st_23, ↓st_25, ↓st_34, ↓st_35, 
      ↓st_40, ↓st_63, ↓st_69, ↓bd_23_0_1_2, ↓bd_23, ↓bd_25_0_1_2, ↓bd_34_0_1, ↓bd_34, ↓bd_35_0_1, ↓bd_40_0_1, ↓bd_40, ↓bd_63_0_1, ↓bd_63_0, ↓bd_63_2_3, ↓bd_63, ↓bd_69_0_1_2_3, ↓bd_69_0_1, ↓bd_69_2_3, ↓bd_69, ↓es_34, 
      ↓eb_4, ↓es_63, ↓ns_69, ↓fd_34_0, ↓fd_34_1, ↓fd_40_0, ↓ix_35_1, ↓cv_3_59, ↓cv_3_64, ↓cv_5_3, ↓cv_5_52, ↓cv_52_5, ↓cv_52_64, ↓cv_64_3, ↓cv_64_5, ↓cv_80_3, ↓ln_50, ↓ln_51, e1_0, e2_0, g5, checkV_0 g6, ne_eq, not_true_eq_false, wrap_in]
  refine geom_Check_call (Gives.to (Check_spec _ _ _ _) fun w3 E3 => ?_)
  have z3 := E3.size
  try simp only [World.size_alloc, World.size_setCell, World.size_drew] at z3
  have e3_0 : ∀ o, w3.cell? ⟨w.heap.size, o, none⟩ = _ := fun o => E3.cell_o (by first | omega | (simp only [World.size_alloc, World.size_setCell, World.size_drew] <;> omega))
  have e3_1 : ∀ o, w3.cell? ⟨w2.heap.size, o, none⟩ = _ := fun o => E3.cell_o (by first | omega | (simp only [World.size_alloc, World.size_setCell, World.size_drew] <;> omega))
  have e3_2 : ∀ o, w3.cell? ⟨w2.heap.size + 1, o, none⟩ = _ := fun o => E3.cell_o (by first | omega | (simp only [World.size_alloc, World.size_setCell, World.size_drew] <;> omega))
  by_cases g7 : badGeom s l (n + wd)
  · simp (disch := (first | omega | (simp only [World.size_alloc, World.size_setCell, World.size_drew, List.not_mem_nil, not_false_eq_true] <;> omega) | fail)) only [↓xBox_r, ↓loadK_some, ↓loadsK_s, ↓loadsK_n, ↓loadsR_s, ↓loadsR_n, ↓storesK_s, ↓storesK_n, setCells_c, setCells_n, World.setCell_alloc_at, World.setCell_alloc_past, World.cell?_alloc_at, World.cell?_alloc_past, 
      World.frozen?_alloc_at, World.frozen?_alloc_past, World.size_alloc, ↓xPick_t, ↓xPick_f, ↓xGuard_tt, ↓xGuard_ff, ↓xGuard_tf, ↓xGuard_ft, ↓xIf_t, tick_eq, tickV_eq, ne_eq, not_true_eq_false, Int.reduceEq, Int.reduceLT, Int.reduceLE, 
      Bool.false_and, Bool.true_and, Bool.and_true, Bool.and_false, ↓xBin_add', ↓xBin_sub', ↓xBin_mul', ↓xBin_quo', ↓xBin_rem', wrap_in, ↓xIf_f, ↓xIf_tt, ↓xEx0, ↓xEx1, ↓xEx2, ↓xEx3, ↓xBin_eqs, ↓xBin_nes, ↓xUn_not, ↓xBin_lss, 
      ↓xBin_leq, ↓xBin_gtr, ↓xBin_geq, ↓xBin_eql, ↓xBin_neq, List.nil_append, List.cons_append, List.getElem?_toArray, List.getElem?_cons_zero, List.getElem?_cons_succ, cells_int, cells_bool, cells_string, cells_slice, 
      cells_pointer, cells_agg, one_int, one_bool, one_string, one_slice, one_pointer, List.setIfInBounds_toArray, List.set_cons_zero, List.set_cons_succ, ↓xDet_s, ↓xDet_ld, ↓xDet_ld2, ↓xDet_ld3, ↓xDet_ld4, World.size_drew, 
      Nat.zero_add, cell_drew, frozen_drew, cell_set_eq, cell_set_o, cell_set_b, Option.map_some, World.frozen?_setCell, decide_true, decide_false, List.not_mem_nil, not_false_eq_true, ↓xGuard_tt, Bool.not_true, Bool.not_false, 
      ←decide_not, ↓ld_3, ↓ld_4, ↓ld_5, ↓ld_23, ↓ld_25, ↓ld_34, ↓ld_35, ↓ld_40, ↓ld_51, ↓ld_63, ↓ld_69, ↓lr_25, ↓lr_34, ↓lr_35, ↓lr_40, ↓lr_63, ↓lr_69, ↓fa_23_0, ↓fa_23_1, ↓fa_23_2, ↓fa_25_0, ↓fa_25_1, ↓fa_25_2, ↓fa_34_0, 
      ↓fa_34_1, ↓fa_40_0, ↓fa_40_1, ↓fa_63_0, ↓fa_63_1, ↓fa_63_2, ↓fa_63_3, ↓fa_69_0, ↓fa_69_1, ↓fa_69_2, ↓fa_69_3, ↓al_23, ↓al_25, ↓al_34, ↓al_35, ↓al_40, ↓al_63, ↓al_69, ↓st_3, ↓st_5, ↓st_23, ↓st_25, ↓st_34, ↓st_35, 
      ↓st_40, ↓st_63, ↓st_69, ↓bd_23_0_1_2, ↓bd_23, ↓bd_25_0_1_2, ↓bd_34_0_1, ↓bd_34, ↓bd_35_0_1, ↓bd_40_0_1, ↓bd_40, ↓bd_63_0_1, ↓bd_63_0, ↓bd_63_2_3, ↓bd_63, ↓bd_69_0_1_2_3, ↓bd_69_0_1, ↓bd_69_2_3, ↓bd_69, ↓es_34, 
      ↓eb_4, ↓es_63, ↓ns_69, ↓fd_34_0, ↓fd_34_1, ↓fd_40_0, ↓ix_35_1, ↓cv_3_59, ↓cv_3_64, ↓cv_5_3, ↓cv_5_52, ↓cv_52_5, ↓cv_52_64, ↓cv_64_3, ↓cv_64_5, ↓cv_80_3, ↓ln_50, ↓ln_51, e1_0, e2_0, e3_0, e3_1, e3_2, g5, checkV_0 g6, checkV_1 g7, ne_eq, Int.reduceEq, not_false_eq_true]
    exact ⟨trivial, by (repeat (first | exact Ext.refl _ _ | refine Ext.alloc' ?_ _ | refine Ext.drew' ?_ | refine Ext.set' ?_ (.inr (by first | omega | (simp only [World.size_alloc, World.size_drew, World.size_setCell] <;> omega))) | assumption | refine Ext.trans ?_ (by assumption)))⟩
  simp (disch := (first | omega | (simp only [World.size_alloc, World.size_setCell, World.size_drew, List.not_mem_nil, not_false_eq_true] <;> omega) | fail)) only [↓xBox_r, ↓loadK_some, ↓loadsK_s, ↓loadsK_n, ↓loadsR_s, ↓loadsR_n, ↓storesK_s, ↓storesK_n, setCells_c, setCells_n, World.setCell_alloc_at, World.setCell_alloc_past, World.cell?_alloc_at, World.cell?_alloc_past, 
      World.frozen?_alloc_at, World.frozen?_alloc_past, World.size_alloc, ↓xPick_t, ↓xPick_f, ↓xGuard_tt, ↓xGuard_ff, ↓xGuard_tf, ↓xGuard_ft, ↓xIf_t, tick_eq, tickV_eq, ne_eq, not_true_eq_false, Int.reduceEq, Int.reduceLT, Int.reduceLE, 
      Bool.false_and, Bool.true_and, Bool.and_true, Bool.and_false, ↓xBin_add', ↓xBin_sub', ↓xBin_mul', ↓xBin_quo', ↓xBin_rem', wrap_in, ↓xIf_f, ↓xIf_tt, ↓xEx0, ↓xEx1, ↓xEx2, ↓xEx3, ↓xBin_eqs, ↓xBin_nes, ↓xUn_not, ↓xBin_lss, 
      ↓xBin_leq, ↓xBin_gtr, ↓xBin_geq, ↓xBin_eql, ↓xBin_neq, List.nil_append, List.cons_append, List.getElem?_toArray, List.getElem?_cons_zero, List.getElem?_cons_succ, cells_int, cells_bool, cells_string, cells_slice, 
      cells_pointer, cells_agg, one_int, one_bool, one_string, one_slice, one_pointer, List.setIfInBounds_toArray, List.set_cons_zero, List.set_cons_succ, ↓xDet_s, ↓xDet_ld, ↓xDet_ld2, ↓xDet_ld3, ↓xDet_ld4, World.size_drew, 
      Nat.zero_add, cell_drew, frozen_drew, cell_set_eq, cell_set_o, cell_set_b, Option.map_some, World.frozen?_setCell, decide_true, decide_false, List.not_mem_nil, not_false_eq_true, ↓xGuard_tt, Bool.not_true, Bool.not_false, 
      ←decide_not, ↓ld_3, ↓ld_4, ↓ld_5, ↓ld_23, ↓ld_25, ↓ld_34, ↓ld_35, ↓ld_40, ↓ld_51, ↓ld_63, ↓ld_69, ↓lr_25, ↓lr_34, ↓lr_35, ↓lr_40, ↓lr_63, ↓lr_69, ↓fa_23_0, ↓fa_23_1, ↓fa_23_2, ↓fa_25_0, ↓fa_25_1, ↓fa_25_2, ↓fa_34_0, 
      ↓fa_34_1, ↓fa_40_0, ↓fa_40_1, ↓fa_63_0, ↓fa_63_1, ↓fa_63_2, ↓fa_63_3, ↓fa_69_0, ↓fa_69_1, ↓fa_69_2, ↓fa_69_3, ↓al_23, ↓al_25, ↓al_34, ↓al_35, ↓al_40, ↓al_63, ↓al_69, ↓st_3, ↓st_5, ↓st_23, ↓st_25, ↓st_34, ↓st_35, 
      ↓st_40, ↓st_63, ↓st_69, ↓bd_23_0_1_2, ↓bd_23, ↓bd_25_0_1_2, ↓bd_34_0_1, ↓bd_34, ↓bd_35_0_1, ↓bd_40_0_1, ↓bd_40, ↓bd_63_0_1, ↓bd_63_0, ↓bd_63_2_3, ↓bd_63, ↓bd_69_0_1_2_3, ↓bd_69_0_1, ↓bd_69_2_3, ↓bd_69, ↓es_34, 
      ↓eb_4, ↓es_63, ↓ns_69, ↓fd_34_0, ↓fd_34_1, ↓fd_40_0, ↓ix_35_1, ↓cv_3_59, ↓cv_3_64, ↓cv_5_3, ↓cv_5_52, ↓cv_52_5, ↓cv_52_64, ↓cv_64_3, ↓cv_64_5, ↓cv_80_3, ↓ln_50, ↓ln_51, e1_0, e2_0, e3_0, e3_1, e3_2, g5, checkV_0 g6, checkV_0 g7, ne_eq, not_true_eq_false]
  refine geom_Check_call (Gives.to (Check_spec _ _ _ _) fun w4 E4 => ?_)
  have z4 := E4.size
  try simp only [World.size_alloc, World.size_setCell, World.size_drew] at z4
  have e4_0 : ∀ o, w4.cell? ⟨w.heap.size, o, none⟩ = _ := fun o => E4.cell_o (by first | omega | (simp only [World.size_alloc, World.size_setCell, World.size_drew] <;> omega))
  have e4_1 : ∀ o, w4.cell? ⟨w2.heap.size, o, none⟩ = _ := fun o => E4.cell_o (by first | omega | (simp only [World.size_alloc, World.size_setCell, World.size_drew] <;> omega))
  have e4_2 : ∀ o, w4.cell? ⟨w2.heap.size + 1, o, none⟩ = _ := fun o => E4.cell_o (by first | omega | (simp only [World.size_alloc, World.size_setCell, World.size_drew] <;> omega))
  by_cases g8 : badGeom s (l + lg) n
  · simp (disch := (first | omega | (simp only [World.size_alloc, World.size_setCell, World.size_drew, List.not_mem_nil, not_false_eq_true] <;> omega) | fail)) only [↓xBox_r, ↓loadK_some, ↓loadsK_s, ↓loadsK_n, ↓loadsR_s, ↓loadsR_n, ↓storesK_s, ↓storesK_n, setCells_c, setCells_n, World.setCell_alloc_at, World.setCell_alloc_past, World.cell?_alloc_at, World.cell?_alloc_past, 
      World.frozen?_alloc_at, World.frozen?_alloc_past, World.size_alloc, ↓xPick_t, ↓xPick_f, ↓xGuard_tt, ↓xGuard_ff, ↓xGuard_tf, ↓xGuard_ft, ↓xIf_t, tick_eq, tickV_eq, ne_eq, not_true_eq_false, Int.reduceEq, Int.reduceLT, Int.reduceLE, 
      Bool.false_and, Bool.true_and, Bool.and_true, Bool.and_false, ↓xBin_add', ↓xBin_sub', ↓xBin_mul', ↓xBin_quo', ↓xBin_rem', wrap_in, ↓xIf_f, ↓xIf_tt, ↓xEx0, ↓xEx1, ↓xEx2, ↓xEx3, ↓xBin_eqs, ↓xBin_nes, ↓xUn_not, ↓xBin_lss, 
      ↓xBin_leq, ↓xBin_gtr, ↓xBin_geq, ↓xBin_eql, ↓xBin_neq, List.nil_append, List.cons_append, List.getElem?_toArray, List.getElem?_cons_zero, List.getElem?_cons_succ, cells_int, cells_bool, cells_string, cells_slice, 
      cells_pointer, cells_agg, one_int, one_bool, one_string, one_slice, one_pointer, List.setIfInBounds_toArray, List.set_cons_zero, List.set_cons_succ, ↓xDet_s, ↓xDet_ld, ↓xDet_ld2, ↓xDet_ld3, ↓xDet_ld4, World.size_drew, 
      Nat.zero_add, cell_drew, frozen_drew, cell_set_eq, cell_set_o, cell_set_b, Option.map_some, World.frozen?_setCell, decide_true, decide_false, List.not_mem_nil, not_false_eq_true, ↓xGuard_tt, Bool.not_true, Bool.not_false, 
      ←decide_not, ↓ld_3, ↓ld_4, ↓ld_5, ↓ld_23, ↓ld_25, ↓ld_34, ↓ld_35, ↓ld_40, ↓ld_51, ↓ld_63, ↓ld_69, ↓lr_25, ↓lr_34, ↓lr_35, ↓lr_40, ↓lr_63, ↓lr_69, ↓fa_23_0, ↓fa_23_1, ↓fa_23_2, ↓fa_25_0, ↓fa_25_1, ↓fa_25_2, ↓fa_34_0, 
      ↓fa_34_1, ↓fa_40_0, ↓fa_40_1, ↓fa_63_0, ↓fa_63_1, ↓fa_63_2, ↓fa_63_3, ↓fa_69_0, ↓fa_69_1, ↓fa_69_2, ↓fa_69_3, ↓al_23, ↓al_25, ↓al_34, ↓al_35, ↓al_40, ↓al_63, ↓al_69, ↓st_3, ↓st_5, ↓st_23, ↓st_25, ↓st_34, ↓st_35, 
      ↓st_40, ↓st_63, ↓st_69, ↓bd_23_0_1_2, ↓bd_23, ↓bd_25_0_1_2, ↓bd_34_0_1, ↓bd_34, ↓bd_35_0_1, ↓bd_40_0_1, ↓bd_40, ↓bd_63_0_1, ↓bd_63_0, ↓bd_63_2_3, ↓bd_63, ↓bd_69_0_1_2_3, ↓bd_69_0_1, ↓bd_69_2_3, ↓bd_69, ↓es_34, 
      ↓eb_4, ↓es_63, ↓ns_69, ↓fd_34_0, ↓fd_34_1, ↓fd_40_0, ↓ix_35_1, ↓cv_3_59, ↓cv_3_64, ↓cv_5_3, ↓cv_5_52, ↓cv_52_5, ↓cv_52_64, ↓cv_64_3, ↓cv_64_5, ↓cv_80_3, ↓ln_50, ↓ln_51, e1_0, e2_0, e3_0, e3_1, e3_2, e4_0, e4_1, e4_2, g5, checkV_0 g6, checkV_0 g7, checkV_1 g8, ne_eq, Int.reduceEq, not_false_eq_true]
    exact ⟨trivial, by (repeat (first | exact Ext.refl _ _ | refine Ext.alloc' ?_ _ | refine Ext.drew' ?_ | refine Ext.set' ?_ (.inr (by first | omega | (simp only [World.size_alloc, World.size_drew, World.size_setCell] <;> omega))) | assumption | refine Ext.trans ?_ (by assumption)))⟩
  simp (disch := (first | omega | (simp only [World.size_alloc, World.size_setCell, World.size_drew, List.not_mem_nil, not_false_eq_true] <;> omega) | fail)) only [↓xBox_r, ↓loadK_some, ↓loadsK_s, ↓loadsK_n, ↓loadsR_s, ↓loadsR_n, ↓storesK_s, ↓storesK_n, setCells_c, setCells_n, World.setCell_alloc_at, World.setCell_alloc_past, World.cell?_alloc_at, World.cell?_alloc_past, 
      World.frozen?_alloc_at, World.frozen?_alloc_past, World.size_alloc, ↓xPick_t, ↓xPick_f, ↓xGuard_tt, ↓xGuard_ff, ↓xGuard_tf, ↓xGuard_ft, ↓xIf_t, tick_eq, tickV_eq, ne_eq, not_true_eq_false, Int.reduceEq, Int.reduceLT, Int.reduceLE, 
      Bool.false_and, Bool.true_and, Bool.and_true, Bool.and_false, ↓xBin_add', ↓xBin_sub', ↓xBin_mul', ↓xBin_quo', ↓xBin_rem', wrap_in, ↓xIf_f, ↓xIf_tt, ↓xEx0, ↓xEx1, ↓xEx2, ↓xEx3, ↓xBin_eqs, ↓xBin_nes, ↓xUn_not, ↓xBin_lss, 
      ↓xBin_leq, ↓xBin_gtr, ↓xBin_geq, ↓xBin_eql, ↓xBin_neq, List.nil_append, List.cons_append, List.getElem?_toArray, List.getElem?_cons_zero, List.getElem?_cons_succ, cells_int, cells_bool, cells_string, cells_slice, 
      cells_pointer, cells_agg, one_int, one_bool, one_string, one_slice, one_pointer, List.setIfInBounds_toArray, List.set_cons_zero, List.set_cons_succ, ↓xDet_s, ↓xDet_ld, ↓xDet_ld2, ↓xDet_ld3, ↓xDet_ld4, World.size_drew, 
      Nat.zero_add, cell_drew, frozen_drew, cell_set_eq, cell_set_o, cell_set_b, Option.map_some, World.frozen?_setCell, decide_true, decide_false, List.not_mem_nil, not_false_eq_true, ↓xGuard_tt, Bool.not_true, Bool.not_false, 
      ←decide_not, ↓ld_3, ↓ld_4, ↓ld_5, ↓ld_23, ↓ld_25, ↓ld_34, ↓ld_35, ↓ld_40, ↓ld_51, ↓ld_63, ↓ld_69, ↓lr_25, ↓lr_34, ↓lr_35, ↓lr_40, ↓lr_63, ↓lr_69, ↓fa_23_0, ↓fa_23_1, ↓fa_23_2, ↓fa_25_0, ↓fa_25_1, ↓fa_25_2, ↓fa_34_0, 
      ↓fa_34_1, ↓fa_40_0, ↓fa_40_1, ↓fa_63_0, ↓fa_63_1, ↓fa_63_2, ↓fa_63_3, ↓fa_69_0, ↓fa_69_1, ↓fa_69_2, ↓fa_69_3, ↓al_23, ↓al_25, ↓al_34, ↓al_35, ↓al_40, ↓al_63, ↓al_69, ↓st_3, ↓st_5, ↓st_23, ↓st_25, ↓st_34, ↓st_35, 
      ↓st_40, ↓st_63, ↓st_69, ↓bd_23_0_1_2, ↓bd_23, ↓bd_25_0_1_2, ↓bd_34_0_1, ↓bd_34, ↓bd_35_0_1, ↓bd_40_0_1, ↓bd_40, ↓bd_63_0_1, ↓bd_63_0, ↓bd_63_2_3, ↓bd_63, ↓bd_69_0_1_2_3, ↓bd_69_0_1, ↓bd_69_2_3, ↓bd_69, ↓es_34, 
      ↓eb_4, ↓es_63, ↓ns_69, ↓fd_34_0, ↓fd_34_1, ↓fd_40_0, ↓ix_35_1, ↓cv_3_59, ↓cv_3_64, ↓cv_5_3, ↓cv_5_52, ↓cv_52_5, ↓cv_52_64, ↓cv_64_3, ↓cv_64_5, ↓cv_80_3, ↓ln_50, ↓ln_51, e1_0, e2_0, e3_0, e3_1, e3_2, e4_0, e4_1, e4_2, g5, checkV_0 g6, checkV_0 g7, checkV_0 g8, ne_eq, not_true_eq_false]
  obtain ⟨s0', s1', l0', l1', n0', n1'⟩ := fit_of g7
  obtain ⟨s0'', s1'', l0'', l1'', n0'', n1''⟩ := fit_of g8
  refine xDraw_ext [] [] ?_
  simp (disch := (first | omega | (simp only [World.size_alloc, World.size_setCell, World.size_drew, List.not_mem_nil, not_false_eq_true] <;> omega) | fail)) only [↓xBox_r, ↓loadK_some, ↓loadsK_s, ↓loadsK_n, ↓loadsR_s, ↓loadsR_n, ↓storesK_s, ↓storesK_n, setCells_c, setCells_n, World.setCell_alloc_at, World.setCell_alloc_past, World.cell?_alloc_at, World.cell?_alloc_past, 
      World.frozen?_alloc_at, World.frozen?_alloc_past, World.size_alloc, ↓xPick_t, ↓xPick_f, ↓xGuard_tt, ↓xGuard_ff, ↓xGuard_tf, ↓xGuard_ft, ↓xIf_t, tick_eq, tickV_eq, ne_eq, not_true_eq_false, Int.reduceEq, Int.reduceLT, Int.reduceLE, 
      Bool.false_and, Bool.true_and, Bool.and_true, Bool.and_false, ↓xBin_add', ↓xBin_sub', ↓xBin_mul', ↓xBin_quo', ↓xBin_rem', wrap_in, ↓xIf_f, ↓xIf_tt, ↓xEx0, ↓xEx1, ↓xEx2, ↓xEx3, ↓xBin_eqs, ↓xBin_nes, ↓xUn_not, ↓xBin_lss, 
      ↓xBin_leq, ↓xBin_gtr, ↓xBin_geq, ↓xBin_eql, ↓xBin_neq, List.nil_append, List.cons_append, List.getElem?_toArray, List.getElem?_cons_zero, List.getElem?_cons_succ, cells_int, cells_bool, cells_string, cells_slice, 
      cells_pointer, cells_agg, one_int, one_bool, one_string, one_slice, one_pointer, List.setIfInBounds_toArray, List.set_cons_zero, List.set_cons_succ, ↓xDet_s, ↓xDet_ld, ↓xDet_ld2, ↓xDet_ld3, ↓xDet_ld4, World.size_drew, 
      Nat.zero_add, cell_drew, frozen_drew, cell_set_eq, cell_set_o, cell_set_b, Option.map_some, World.frozen?_setCell, decide_true, decide_false, List.not_mem_nil, not_false_eq_true, ↓xGuard_tt, Bool.not_true, Bool.not_false, 
      ←decide_not, ↓ld_3, ↓ld_4, ↓ld_5, ↓ld_23, ↓ld_25, ↓ld_34, ↓ld_35, ↓ld_40, ↓ld_51, ↓ld_63, ↓ld_69, ↓lr_25, ↓lr_34, ↓lr_35, ↓lr_40, ↓lr_63, ↓lr_69, ↓fa_23_0, ↓fa_23_1, ↓fa_23_2, ↓fa_25_0, ↓fa_25_1, ↓fa_25_2, ↓fa_34_0, 
      ↓fa_34_1, ↓fa_40_0, ↓fa_40_1, ↓fa_63_0, ↓fa_63_1, ↓fa_63_2, ↓fa_63_3, ↓fa_69_0, ↓fa_69_1, ↓fa_69_2, ↓fa_69_3, ↓al_23, ↓al_25, ↓al_34, ↓al_35, ↓al_40, ↓al_63, ↓al_69, ↓st_3, ↓st_5, ↓st_23, ↓st_25, ↓st_34, ↓st_35, 
      ↓st_40, ↓st_63, ↓st_69, ↓bd_23_0_1_2, ↓bd_23, ↓bd_25_0_1_2, ↓bd_34_0_1, ↓bd_34, ↓bd_35_0_1, ↓bd_40_0_1, ↓bd_40, ↓bd_63_0_1, ↓bd_63_0, ↓bd_63_2_3, ↓bd_63, ↓bd_69_0_1_2_3, ↓bd_69_0_1, ↓bd_69_2_3, ↓bd_69, ↓es_34, 
      ↓eb_4, ↓es_63, ↓ns_69, ↓fd_34_0, ↓fd_34_1, ↓fd_40_0, ↓ix_35_1, ↓cv_3_59, ↓cv_3_64, ↓cv_5_3, ↓cv_5_52, ↓cv_52_5, ↓cv_52_64, ↓cv_64_3, ↓cv_64_5, ↓cv_80_3, ↓ln_50, ↓ln_51, e1_0, e2_0, e3_0, e3_1, e3_2, e4_0, e4_1, e4_2, g5, checkV_0 g6, checkV_0 g7, checkV_0 g8, ne_eq, not_true_eq_false]
  apply xDet_x
  · exact fun w hw => geom_Sectors_call (Gives.lq (Sectors_spec _ _ _ _ (by omega) (by omega) (by omega) (by omega) (by omega) (by omega)))
  apply xDet_x
  · exact fun w hw => geom_Sectors_call (Gives.lq (Sectors_spec _ _ _ _ (by omega) (by omega) (by omega) (by omega) (by omega) (by omega)))
  have m1 : one s n ≤ one s (n + wd) := one_mono (by omega) (by omega)
  have m2 : 2 + l + 2 * ((n * 8 + s - 1) / s + (n + 32 - 1) / 32) ≤ 2 + l + 2 * (((n + wd) * 8 + s - 1) / s + (n + wd + 32 - 1) / 32) := by unfold one at m1; omega
  simp (disch := (first | omega | (simp only [World.size_alloc, World.size_setCell, World.size_drew, List.not_mem_nil, not_false_eq_true] <;> omega) | fail)) only [↓xBox_r, ↓loadK_some, ↓loadsK_s, ↓loadsK_n, ↓loadsR_s, ↓loadsR_n, ↓storesK_s, ↓storesK_n, setCells_c, setCells_n, World.setCell_alloc_at, World.setCell_alloc_past, World.cell?_alloc_at, World.cell?_alloc_past, 
      World.frozen?_alloc_at, World.frozen?_alloc_past, World.size_alloc, ↓xPick_t, ↓xPick_f, ↓xGuard_tt, ↓xGuard_ff, ↓xGuard_tf, ↓xGuard_ft, ↓xIf_t, tick_eq, tickV_eq, ne_eq, not_true_eq_false, Int.reduceEq, Int.reduceLT, Int.reduceLE, 
      Bool.false_and, Bool.true_and, Bool.and_true, Bool.and_false, ↓xBin_add', ↓xBin_sub', ↓xBin_mul', ↓xBin_quo', ↓xBin_rem', wrap_in, ↓xIf_f, ↓xIf_tt, ↓xEx0, ↓xEx1, ↓xEx2, ↓xEx3, ↓xBin_eqs, ↓xBin_nes, ↓xUn_not, ↓xBin_lss, 
      ↓xBin_leq, ↓xBin_gtr, ↓xBin_geq, ↓xBin_eql, ↓xBin_neq, List.nil_append, List.cons_append, List.getElem?_toArray, List.getElem?_cons_zero, List.getElem?_cons_succ, cells_int, cells_bool, cells_string, cells_slice, 
      cells_pointer, cells_agg, one_int, one_bool, one_string, one_slice, one_pointer, List.setIfInBounds_toArray, List.set_cons_zero, List.set_cons_succ, ↓xDet_s, ↓xDet_ld, ↓xDet_ld2, ↓xDet_ld3, ↓xDet_ld4, World.size_drew, 
      Nat.zero_add, cell_drew, frozen_drew, cell_set_eq, cell_set_o, cell_set_b, Option.map_some, World.frozen?_setCell, decide_true, decide_false, List.not_mem_nil, not_false_eq_true, ↓xGuard_tt, Bool.not_true, Bool.not_false, 
      ←decide_not, ↓ld_3, ↓ld_4, ↓ld_5, ↓ld_23, ↓ld_25, ↓ld_34, ↓ld_35, ↓ld_40, ↓ld_51, ↓ld_63, ↓ld_69, ↓lr_25, ↓lr_34, ↓lr_35, ↓lr_40, ↓lr_63, ↓lr_69, ↓fa_23_0, ↓fa_23_1, ↓fa_23_2, ↓fa_25_0, ↓fa_25_1, ↓fa_25_2, ↓fa_34_0, 
      ↓fa_34_1, ↓fa_40_0, ↓fa_40_1, ↓fa_63_0, ↓fa_63_1, ↓fa_63_2, ↓fa_63_3, ↓fa_69_0, ↓fa_69_1, ↓fa_69_2, ↓fa_69_3, ↓al_23, ↓al_25, ↓al_34, ↓al_35, ↓al_40, ↓al_63, ↓al_69, ↓st_3, ↓st_5, ↓st_23, ↓st_25, ↓st_34, ↓st_35, 
      ↓st_40, ↓st_63, ↓st_69, ↓bd_23_0_1_2, ↓bd_23, ↓bd_25_0_1_2, ↓bd_34_0_1, ↓bd_34, ↓bd_35_0_1, ↓bd_40_0_1, ↓bd_40, ↓bd_63_0_1, ↓bd_63_0, ↓bd_63_2_3, ↓bd_63, ↓bd_69_0_1_2_3, ↓bd_69_0_1, ↓bd_69_2_3, ↓bd_69, ↓es_34, 
      ↓eb_4, ↓es_63, ↓ns_69, ↓fd_34_0, ↓fd_34_1, ↓fd_40_0, ↓ix_35_1, ↓cv_3_59, ↓cv_3_64, ↓cv_5_3, ↓cv_5_52, ↓cv_52_5, ↓cv_52_64, ↓cv_64_3, ↓cv_64_5, ↓cv_80_3, ↓ln_50, ↓ln_51, e1_0, e2_0, e3_0, e3_1, e3_2, e4_0, e4_1, e4_2, m2]
  apply xDet_x
  · exact fun w hw => geom_Sectors_call (Gives.lq (Sectors_spec _ _ _ _ (by omega) (by omega) (by omega) (by omega) (by omega) (by omega)))
  simp (disch := (first | omega | (simp only [World.size_alloc, World.size_setCell, World.size_drew, List.not_mem_nil, not_false_eq_true] <;> omega) | fail)) only [↓xBox_r, ↓loadK_some, ↓loadsK_s, ↓loadsK_n, ↓loadsR_s, ↓loadsR_n, ↓storesK_s, ↓storesK_n, setCells_c, setCells_n, World.setCell_alloc_at, World.setCell_alloc_past, World.cell?_alloc_at, World.cell?_alloc_past, 
      World.frozen?_alloc_at, World.frozen?_alloc_past, World.size_alloc, ↓xPick_t, ↓xPick_f, ↓xGuard_tt, ↓xGuard_ff, ↓xGuard_tf, ↓xGuard_ft, ↓xIf_t, tick_eq, tickV_eq, ne_eq, not_true_eq_false, Int.reduceEq, Int.reduceLT, Int.reduceLE, 
      Bool.false_and, Bool.true_and, Bool.and_true, Bool.and_false, ↓xBin_add', ↓xBin_sub', ↓xBin_mul', ↓xBin_quo', ↓xBin_rem', wrap_in, ↓xIf_f, ↓xIf_tt, ↓xEx0, ↓xEx1, ↓xEx2, ↓xEx3, ↓xBin_eqs, ↓xBin_nes, ↓xUn_not, ↓xBin_lss, 
      ↓xBin_leq, ↓xBin_gtr, ↓xBin_geq, ↓xBin_eql, ↓xBin_neq, List.nil_append, List.cons_append, List.getElem?_toArray, List.getElem?_cons_zero, List.getElem?_cons_succ, cells_int, cells_bool, cells_string, cells_slice, 
      cells_pointer, cells_agg, one_int, one_bool, one_string, one_slice, one_pointer, List.setIfInBounds_toArray, List.set_cons_zero, List.set_cons_succ, ↓xDet_s, ↓xDet_ld, ↓xDet_ld2, ↓xDet_ld3, ↓xDet_ld4, World.size_drew, 
      Nat.zero_add, cell_drew, frozen_drew, cell_set_eq, cell_set_o, cell_set_b, Option.map_some, World.frozen?_setCell, decide_true, decide_false, List.not_mem_nil, not_false_eq_true, ↓xGuard_tt, Bool.not_true, Bool.not_false, 
      ←decide_not, ↓ld_3, ↓ld_4, ↓ld_5, ↓ld_23, ↓ld_25, ↓ld_34, ↓ld_35, ↓ld_40, ↓ld_51, ↓ld_63, ↓ld_69, ↓lr_25, ↓lr_34, ↓lr_35, ↓lr_40, ↓lr_63, ↓lr_69, ↓fa_23_0, ↓fa_23_1, ↓fa_23_2, ↓fa_25_0, ↓fa_25_1, ↓fa_25_2, ↓fa_34_0, 
      ↓fa_34_1, ↓fa_40_0, ↓fa_40_1, ↓fa_63_0, ↓fa_63_1, ↓fa_63_2, ↓fa_63_3, ↓fa_69_0, ↓fa_69_1, ↓fa_69_2, ↓fa_69_3, ↓al_23, ↓al_25, ↓al_34, ↓al_35, ↓al_40, ↓al_63, ↓al_69, ↓st_3, ↓st_5, ↓st_23, ↓st_25, ↓st_34, ↓st_35, 
      ↓st_40, ↓st_63, ↓st_69, ↓bd_23_0_1_2, ↓bd_23, ↓bd_25_0_1_2, ↓bd_34_0_1, ↓bd_34, ↓bd_35_0_1, ↓bd_40_0_1, ↓bd_40, ↓bd_63_0_1, ↓bd_63_0, ↓bd_63_2_3, ↓bd_63, ↓bd_69_0_1_2_3, ↓bd_69_0_1, ↓bd_69_2_3, ↓bd_69, ↓es_34, 
      ↓eb_4, ↓es_63, ↓ns_69, ↓fd_34_0, ↓fd_34_1, ↓fd_40_0, ↓ix_35_1, ↓cv_3_59, ↓cv_3_64, ↓cv_5_3, ↓cv_5_52, ↓cv_52_5, ↓cv_52_64, ↓cv_64_3, ↓cv_64_5, ↓cv_80_3, ↓ln_50, ↓ln_51, e1_0, e2_0, e3_0, e3_1, e3_2, e4_0, e4_1, e4_2]
  apply xDet_x
  · exact fun w hw => geom_Sectors_call (Gives.lq (Sectors_spec _ _ _ _ (by omega) (by omega) (by omega) (by omega) (by omega) (by omega)))
  have hq : (n * 8 + s - 1) / s + (n + 32 - 1) / 32 = one s n := rfl
  have m3 : 2 + (l + lg) + 2 * one s n = 2 + l + 2 * one s n + lg := by omega
  simp (disch := (first | omega | (simp only [World.size_alloc, World.size_setCell, World.size_drew, List.not_mem_nil, not_false_eq_true] <;> omega) | fail)) only [↓xBox_r, ↓loadK_some, ↓loadsK_s, ↓loadsK_n, ↓loadsR_s, ↓loadsR_n, ↓storesK_s, ↓storesK_n, setCells_c, setCells_n, World.setCell_alloc_at, World.setCell_alloc_past, World.cell?_alloc_at, World.cell?_alloc_past, 
      World.frozen?_alloc_at, World.frozen?_alloc_past, World.size_alloc, ↓xPick_t, ↓xPick_f, ↓xGuard_tt, ↓xGuard_ff, ↓xGuard_tf, ↓xGuard_ft, ↓xIf_t, tick_eq, tickV_eq, ne_eq, not_true_eq_false, Int.reduceEq, Int.reduceLT, Int.reduceLE, 
      Bool.false_and, Bool.true_and, Bool.and_true, Bool.and_false, ↓xBin_add', ↓xBin_sub', ↓xBin_mul', ↓xBin_quo', ↓xBin_rem', wrap_in, ↓xIf_f, ↓xIf_tt, ↓xEx0, ↓xEx1, ↓xEx2, ↓xEx3, ↓xBin_eqs, ↓xBin_nes, ↓xUn_not, ↓xBin_lss, 
      ↓xBin_leq, ↓xBin_gtr, ↓xBin_geq, ↓xBin_eql, ↓xBin_neq, List.nil_append, List.cons_append, List.getElem?_toArray, List.getElem?_cons_zero, List.getElem?_cons_succ, cells_int, cells_bool, cells_string, cells_slice, 
      cells_pointer, cells_agg, one_int, one_bool, one_string, one_slice, one_pointer, List.setIfInBounds_toArray, List.set_cons_zero, List.set_cons_succ, ↓xDet_s, ↓xDet_ld, ↓xDet_ld2, ↓xDet_ld3, ↓xDet_ld4, World.size_drew, 
      Nat.zero_add, cell_drew, frozen_drew, cell_set_eq, cell_set_o, cell_set_b, Option.map_some, World.frozen?_setCell, decide_true, decide_false, List.not_mem_nil, not_false_eq_true, ↓xGuard_tt, Bool.not_true, Bool.not_false, 
      ←decide_not, ↓ld_3, ↓ld_4, ↓ld_5, ↓ld_23, ↓ld_25, ↓ld_34, ↓ld_35, ↓ld_40, ↓ld_51, ↓ld_63, ↓ld_69, ↓lr_25, ↓lr_34, ↓lr_35, ↓lr_40, ↓lr_63, ↓lr_69, ↓fa_23_0, ↓fa_23_1, ↓fa_23_2, ↓fa_25_0, ↓fa_25_1, ↓fa_25_2, ↓fa_34_0, 
      ↓fa_34_1, ↓fa_40_0, ↓fa_40_1, ↓fa_63_0, ↓fa_63_1, ↓fa_63_2, ↓fa_63_3, ↓fa_69_0, ↓fa_69_1, ↓fa_69_2, ↓fa_69_3, ↓al_23, ↓al_25, ↓al_34, ↓al_35, ↓al_40, ↓al_63, ↓al_69, ↓st_3, ↓st_5, ↓st_23, ↓st_25, ↓st_34, ↓st_35, 
      ↓st_40, ↓st_63, ↓st_69, ↓bd_23_0_1_2, ↓bd_23, ↓bd_25_0_1_2, ↓bd_34_0_1, ↓bd_34, ↓bd_35_0_1, ↓bd_40_0_1, ↓bd_40, ↓bd_63_0_1, ↓bd_63_0, ↓bd_63_2_3, ↓bd_63, ↓bd_69_0_1_2_3, ↓bd_69_0_1, ↓bd_69_2_3, ↓bd_69, ↓es_34, 
      ↓eb_4, ↓es_63, ↓ns_69, ↓fd_34_0, ↓fd_34_1, ↓fd_40_0, ↓ix_35_1, ↓cv_3_59, ↓cv_3_64, ↓cv_5_3, ↓cv_5_52, ↓cv_52_5, ↓cv_52_64, ↓cv_64_3, ↓cv_64_5, ↓cv_80_3, ↓ln_50, ↓ln_51, e1_0, e2_0, e3_0, e3_1, e3_2, e4_0, e4_1, e4_2, hq, m3]
  apply xDet_x
  · exact fun w hw => geom_Space_call (Gives.lq (Space_spec _ _ _ _ _ hf))
  have m4 : spaceN s n 0 = one s n := by simp [spaceN]
  have m5 := one_room (s := s) (n := n) (by omega) n0
  have m6 : one s n * s ≤ 1000000 * 1024 := Int.mul_le_mul (by omega) s1 (by omega) (by omega)
  simp (disch := (first | omega | (simp only [World.size_alloc, World.size_setCell, World.size_drew, List.not_mem_nil, not_false_eq_true] <;> omega) | fail)) only [↓xBox_r, ↓loadK_some, ↓loadsK_s, ↓loadsK_n, ↓loadsR_s, ↓loadsR_n, ↓storesK_s, ↓storesK_n, setCells_c, setCells_n, World.setCell_alloc_at, World.setCell_alloc_past, World.cell?_alloc_at, World.cell?_alloc_past, 
      World.frozen?_alloc_at, World.frozen?_alloc_past, World.size_alloc, ↓xPick_t, ↓xPick_f, ↓xGuard_tt, ↓xGuard_ff, ↓xGuard_tf, ↓xGuard_ft, ↓xIf_t, tick_eq, tickV_eq, ne_eq, not_true_eq_false, Int.reduceEq, Int.reduceLT, Int.reduceLE, 
      Bool.false_and, Bool.true_and, Bool.and_true, Bool.and_false, ↓xBin_add', ↓xBin_sub', ↓xBin_mul', ↓xBin_quo', ↓xBin_rem', wrap_in, ↓xIf_f, ↓xIf_tt, ↓xEx0, ↓xEx1, ↓xEx2, ↓xEx3, ↓xBin_eqs, ↓xBin_nes, ↓xUn_not, ↓xBin_lss, 
      ↓xBin_leq, ↓xBin_gtr, ↓xBin_geq, ↓xBin_eql, ↓xBin_neq, List.nil_append, List.cons_append, List.getElem?_toArray, List.getElem?_cons_zero, List.getElem?_cons_succ, cells_int, cells_bool, cells_string, cells_slice, 
      cells_pointer, cells_agg, one_int, one_bool, one_string, one_slice, one_pointer, List.setIfInBounds_toArray, List.set_cons_zero, List.set_cons_succ, ↓xDet_s, ↓xDet_ld, ↓xDet_ld2, ↓xDet_ld3, ↓xDet_ld4, World.size_drew, 
      Nat.zero_add, cell_drew, frozen_drew, cell_set_eq, cell_set_o, cell_set_b, Option.map_some, World.frozen?_setCell, decide_true, decide_false, List.not_mem_nil, not_false_eq_true, ↓xGuard_tt, Bool.not_true, Bool.not_false, 
      ←decide_not, ↓ld_3, ↓ld_4, ↓ld_5, ↓ld_23, ↓ld_25, ↓ld_34, ↓ld_35, ↓ld_40, ↓ld_51, ↓ld_63, ↓ld_69, ↓lr_25, ↓lr_34, ↓lr_35, ↓lr_40, ↓lr_63, ↓lr_69, ↓fa_23_0, ↓fa_23_1, ↓fa_23_2, ↓fa_25_0, ↓fa_25_1, ↓fa_25_2, ↓fa_34_0, 
      ↓fa_34_1, ↓fa_40_0, ↓fa_40_1, ↓fa_63_0, ↓fa_63_1, ↓fa_63_2, ↓fa_63_3, ↓fa_69_0, ↓fa_69_1, ↓fa_69_2, ↓fa_69_3, ↓al_23, ↓al_25, ↓al_34, ↓al_35, ↓al_40, ↓al_63, ↓al_69, ↓st_3, ↓st_5, ↓st_23, ↓st_25, ↓st_34, ↓st_35, 
      ↓st_40, ↓st_63, ↓st_69, ↓bd_23_0_1_2, ↓bd_23, ↓bd_25_0_1_2, ↓bd_34_0_1, ↓bd_34, ↓bd_35_0_1, ↓bd_40_0_1, ↓bd_40, ↓bd_63_0_1, ↓bd_63_0, ↓bd_63_2_3, ↓bd_63, ↓bd_69_0_1_2_3, ↓bd_69_0_1, ↓bd_69_2_3, ↓bd_69, ↓es_34, 
      ↓eb_4, ↓es_63, ↓ns_69, ↓fd_34_0, ↓fd_34_1, ↓fd_40_0, ↓ix_35_1, ↓cv_3_59, ↓cv_3_64, ↓cv_5_3, ↓cv_5_52, ↓cv_52_5, ↓cv_52_64, ↓cv_64_3, ↓cv_64_5, ↓cv_80_3, ↓ln_50, ↓ln_51, e1_0, e2_0, e3_0, e3_1, e3_2, e4_0, e4_1, e4_2, m4, m5]
  refine xEnd_i fun w5 hw => ⟨by trivial, ?_⟩
  refine Ext.trans ?_ hw.ext
  (repeat (first | exact Ext.refl _ _ | refine Ext.alloc' ?_ _ | refine Ext.drew' ?_ | refine Ext.set' ?_ (.inr (by first | omega | (simp only [World.size_alloc, World.size_drew, World.size_setCell] <;> omega))) | assumption | refine Ext.trans ?_ (by assumption)))
end Go.Proofs.Ytohonkbneimkoaa
