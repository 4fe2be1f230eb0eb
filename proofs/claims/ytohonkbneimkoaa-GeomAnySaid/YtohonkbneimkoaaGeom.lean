/- What the functions of geom and of its reference compute. -/
import Derived.Test.YtohonkbneimkoaaRules
set_option linter.unusedVariables false
set_option linter.unusedSimpArgs false
namespace Go.Proofs.Ytohonkbneimkoaa
open Go.Sh Go.RowKit
abbrev gm (s l n : Int) : Value := .agg #[.int .i64 s, .int .i64 l, .int .i64 n]
abbrev i64 (n : Int) : Value := .int .i64 n

theorem up_spec (n by' : Int) (w : World) (h0 : 0 < by') (h1 : by' ≤ 1000000) (h2 : 0 ≤ n) (h3 : n ≤ 1000000000) : Gives Try.prog n_geom_up #[i64 n, i64 by'] w (i64 ((n + by' - 1) / by')) := by
  refine geom_up_of ?_
  unfold geom_up
  simp (disch := (first | omega | (simp only [World.size_alloc, World.size_setCell, World.size_drew, List.mem_cons, List.not_mem_nil, or_false, not_false_eq_true] <;> omega) | fail)) only [xBin_add', xBin_sub', xBin_quo']
  exact ⟨trivial, Ext.refl _ _⟩

theorem sectors_spec (s l n : Int) (w : World) (h0 : 0 < s) (h1 : s ≤ 1000000) (h2 : 0 ≤ n) (h3 : n ≤ 1000000) : Gives Try.prog n_geom_Geom_sectors #[gm s l n] w (i64 ((n * 8 + s - 1) / s + (n + 32 - 1) / 32)) := by
  refine geom_Geom_sectors_of ?_
  unfold geom_Geom_sectors
  simp only [xBox_r]
  refine xDraw_ext [] [] ?_
  simp (disch := (first | omega | (simp only [World.size_alloc, World.size_setCell, World.size_drew, List.mem_cons, List.not_mem_nil, or_false, not_false_eq_true] <;> omega) | fail)) only [↓xBox_r, ↓loadK_some, ↓loadsK_s, ↓loadsK_n, ↓loadsR_s, ↓loadsR_n, ↓storesK_s, ↓storesK_n, setCells_c, setCells_n, World.setCell_alloc_at, World.setCell_alloc_past, World.cell?_alloc_at, World.cell?_alloc_past, 
      World.frozen?_alloc_at, World.frozen?_alloc_past, World.size_alloc, ↓xPick_t, ↓xPick_f, ↓xGuard_tt, ↓xGuard_ff, ↓xGuard_tf, ↓xGuard_ft, ↓xIf_t, tick_eq, tickV_eq, ne_eq, not_true_eq_false, Int.reduceEq, Int.reduceLT, Int.reduceLE, 
      Bool.false_and, Bool.true_and, Bool.and_true, Bool.and_false, ↓xBin_add', ↓xBin_sub', ↓xBin_mul', ↓xBin_quo', ↓xBin_rem', wrap_in, ↓xIf_f, ↓xIf_tt, ↓xEx0, ↓xEx1, ↓xEx2, ↓xEx3, ↓xBin_eqs, ↓xBin_nes, ↓xUn_not, ↓u8_add, 
      ↓u8_mul, ↓u16_add, ↓u16_mul, ↓u32_add, ↓u32_mul, ↓u64_add, ↓u64_mul, Int.toNat_natCast, Int.reduceToNat, Nat.reduceMul, Nat.reduceAdd, Nat.reduceSub, Nat.mul_one, List.nil_append, List.cons_append, List.getElem?_toArray, 
      List.getElem?_cons_zero, List.getElem?_cons_succ, cells_int, cells_bool, cells_string, cells_slice, cells_pointer, cells_agg, one_int, one_bool, one_string, one_slice, one_pointer, List.setIfInBounds_toArray, List.set_cons_zero, 
      List.set_cons_succ, ↓xDet_s, ↓xDet_ld, ↓xDet_ld2, ↓xDet_ld3, ↓xDet_ld4, World.size_drew, Nat.zero_add, cell_drew, frozen_drew, cell_set_eq, cell_set_o, cell_set_b, Option.map_some, World.frozen?_setCell, decide_true, decide_false, 
      List.not_mem_nil, not_false_eq_true, ↓xGuard_tt, Bool.not_true, Bool.not_false, ←decide_not, ↓ld_3, ↓fa_23_0, ↓fa_23_2, eq_self]
  simp (disch := (first | omega | (simp only [World.size_alloc, World.size_setCell, World.size_drew, List.mem_cons, List.not_mem_nil, or_false, not_false_eq_true] <;> omega) | fail)) only [↓xBox_r, ↓loadK_some, ↓loadsK_s, ↓loadsK_n, ↓loadsR_s, ↓loadsR_n, ↓storesK_s, ↓storesK_n, setCells_c, setCells_n, World.setCell_alloc_at, World.setCell_alloc_past, World.cell?_alloc_at, World.cell?_alloc_past, 
      World.frozen?_alloc_at, World.frozen?_alloc_past, World.size_alloc, ↓xPick_t, ↓xPick_f, ↓xGuard_tt, ↓xGuard_ff, ↓xGuard_tf, ↓xGuard_ft, ↓xIf_t, tick_eq, tickV_eq, ne_eq, not_true_eq_false, Int.reduceEq, Int.reduceLT, Int.reduceLE, 
      Bool.false_and, Bool.true_and, Bool.and_true, Bool.and_false, ↓xBin_add', ↓xBin_sub', ↓xBin_mul', ↓xBin_quo', ↓xBin_rem', wrap_in, ↓xIf_f, ↓xIf_tt, ↓xEx0, ↓xEx1, ↓xEx2, ↓xEx3, ↓xBin_eqs, ↓xBin_nes, ↓xUn_not, ↓u8_add, 
      ↓u8_mul, ↓u16_add, ↓u16_mul, ↓u32_add, ↓u32_mul, ↓u64_add, ↓u64_mul, Int.toNat_natCast, Int.reduceToNat, Nat.reduceMul, Nat.reduceAdd, Nat.reduceSub, Nat.mul_one, List.nil_append, List.cons_append, List.getElem?_toArray, 
      List.getElem?_cons_zero, List.getElem?_cons_succ, cells_int, cells_bool, cells_string, cells_slice, cells_pointer, cells_agg, one_int, one_bool, one_string, one_slice, one_pointer, List.setIfInBounds_toArray, List.set_cons_zero, 
      List.set_cons_succ, ↓xDet_s, ↓xDet_ld, ↓xDet_ld2, ↓xDet_ld3, ↓xDet_ld4, World.size_drew, Nat.zero_add, cell_drew, frozen_drew, cell_set_eq, cell_set_o, cell_set_b, Option.map_some, World.frozen?_setCell, decide_true, decide_false, 
      List.not_mem_nil, not_false_eq_true, ↓xGuard_tt, Bool.not_true, Bool.not_false, ←decide_not, ↓ld_3, ↓fa_23_0, ↓fa_23_2, eq_self]
  apply xDet_x
  · exact fun w hw => geom_up_call (Gives.lq (up_spec _ _ _ h0 h1 (by omega) (by omega)))
  apply xDet_x
  · exact fun w hw => geom_up_call (Gives.lq (up_spec _ _ _ (by omega) (by omega) (by omega) (by omega)))
  have h4 : 0 ≤ (n * 8 + s - 1) / s := Int.ediv_nonneg (by omega) (by omega)
  have h5 : (n * 8 + s - 1) / s ≤ n * 8 + s - 1 := Int.ediv_le_self _ (by omega)
  simp (disch := (first | omega | (simp only [World.size_alloc, World.size_setCell, World.size_drew, List.mem_cons, List.not_mem_nil, or_false, not_false_eq_true] <;> omega) | fail)) only [↓xBox_r, ↓loadK_some, ↓loadsK_s, ↓loadsK_n, ↓loadsR_s, ↓loadsR_n, ↓storesK_s, ↓storesK_n, setCells_c, setCells_n, World.setCell_alloc_at, World.setCell_alloc_past, World.cell?_alloc_at, World.cell?_alloc_past, 
      World.frozen?_alloc_at, World.frozen?_alloc_past, World.size_alloc, ↓xPick_t, ↓xPick_f, ↓xGuard_tt, ↓xGuard_ff, ↓xGuard_tf, ↓xGuard_ft, ↓xIf_t, tick_eq, tickV_eq, ne_eq, not_true_eq_false, Int.reduceEq, Int.reduceLT, Int.reduceLE, 
      Bool.false_and, Bool.true_and, Bool.and_true, Bool.and_false, ↓xBin_add', ↓xBin_sub', ↓xBin_mul', ↓xBin_quo', ↓xBin_rem', wrap_in, ↓xIf_f, ↓xIf_tt, ↓xEx0, ↓xEx1, ↓xEx2, ↓xEx3, ↓xBin_eqs, ↓xBin_nes, ↓xUn_not, ↓u8_add, 
      ↓u8_mul, ↓u16_add, ↓u16_mul, ↓u32_add, ↓u32_mul, ↓u64_add, ↓u64_mul, Int.toNat_natCast, Int.reduceToNat, Nat.reduceMul, Nat.reduceAdd, Nat.reduceSub, Nat.mul_one, List.nil_append, List.cons_append, List.getElem?_toArray, 
      List.getElem?_cons_zero, List.getElem?_cons_succ, cells_int, cells_bool, cells_string, cells_slice, cells_pointer, cells_agg, one_int, one_bool, one_string, one_slice, one_pointer, List.setIfInBounds_toArray, List.set_cons_zero, 
      List.set_cons_succ, ↓xDet_s, ↓xDet_ld, ↓xDet_ld2, ↓xDet_ld3, ↓xDet_ld4, World.size_drew, Nat.zero_add, cell_drew, frozen_drew, cell_set_eq, cell_set_o, cell_set_b, Option.map_some, World.frozen?_setCell, decide_true, decide_false, 
      List.not_mem_nil, not_false_eq_true, ↓xGuard_tt, Bool.not_true, Bool.not_false, ←decide_not, ↓ld_3, ↓fa_23_0, ↓fa_23_2, eq_self]
  exact xEnd_i fun w hw => ⟨trivial, ((Ext.alloc _ _ _).drew').trans hw.ext⟩

theorem Sectors_spec (s l n : Int) (w : World) (h0 : 0 < s) (h1 : s ≤ 1000000) (h2 : 0 ≤ n) (h3 : n ≤ 1000000) (hl0 : -10000000 ≤ l) (hl1 : l ≤ 10000000) :
    Gives Try.prog n_geom_Sectors #[gm s l n] w (i64 (2 + l + 2 * ((n * 8 + s - 1) / s + (n + 32 - 1) / 32))) := by
  refine geom_Sectors_of ?_
  unfold geom_Sectors
  simp only [xBox_r]
  refine xDraw_ext [] [] ?_
  simp (disch := (first | omega | (simp only [World.size_alloc, World.size_setCell, World.size_drew, List.mem_cons, List.not_mem_nil, or_false, not_false_eq_true] <;> omega) | fail)) only [↓xBox_r, ↓loadK_some, ↓loadsK_s, ↓loadsK_n, ↓loadsR_s, ↓loadsR_n, ↓storesK_s, ↓storesK_n, setCells_c, setCells_n, World.setCell_alloc_at, World.setCell_alloc_past, World.cell?_alloc_at, World.cell?_alloc_past, 
      World.frozen?_alloc_at, World.frozen?_alloc_past, World.size_alloc, ↓xPick_t, ↓xPick_f, ↓xGuard_tt, ↓xGuard_ff, ↓xGuard_tf, ↓xGuard_ft, ↓xIf_t, tick_eq, tickV_eq, ne_eq, not_true_eq_false, Int.reduceEq, Int.reduceLT, Int.reduceLE, 
      Bool.false_and, Bool.true_and, Bool.and_true, Bool.and_false, ↓xBin_add', ↓xBin_sub', ↓xBin_mul', ↓xBin_quo', ↓xBin_rem', wrap_in, ↓xIf_f, ↓xIf_tt, ↓xEx0, ↓xEx1, ↓xEx2, ↓xEx3, ↓xBin_eqs, ↓xBin_nes, ↓xUn_not, ↓u8_add, 
      ↓u8_mul, ↓u16_add, ↓u16_mul, ↓u32_add, ↓u32_mul, ↓u64_add, ↓u64_mul, Int.toNat_natCast, Int.reduceToNat, Nat.reduceMul, Nat.reduceAdd, Nat.reduceSub, Nat.mul_one, List.nil_append, List.cons_append, List.getElem?_toArray, 
      List.getElem?_cons_zero, List.getElem?_cons_succ, cells_int, cells_bool, cells_string, cells_slice, cells_pointer, cells_agg, one_int, one_bool, one_string, one_slice, one_pointer, List.setIfInBounds_toArray, List.set_cons_zero, 
      List.set_cons_succ, ↓xDet_s, ↓xDet_ld, ↓xDet_ld2, ↓xDet_ld3, ↓xDet_ld4, World.size_drew, Nat.zero_add, cell_drew, frozen_drew, cell_set_eq, cell_set_o, cell_set_b, Option.map_some, World.frozen?_setCell, decide_true, decide_false, 
      List.not_mem_nil, not_false_eq_true, ↓xGuard_tt, Bool.not_true, Bool.not_false, ←decide_not, ↓ld_3, ↓ld_23, ↓fa_23_1, eq_self]
  simp (disch := (first | omega | (simp only [World.size_alloc, World.size_setCell, World.size_drew, List.mem_cons, List.not_mem_nil, or_false, not_false_eq_true] <;> omega) | fail)) only [↓xBox_r, ↓loadK_some, ↓loadsK_s, ↓loadsK_n, ↓loadsR_s, ↓loadsR_n, ↓storesK_s, ↓storesK_n, setCells_c, setCells_n, World.setCell_alloc_at, World.setCell_alloc_past, World.cell?_alloc_at, World.cell?_alloc_past, 
      World.frozen?_alloc_at, World.frozen?_alloc_past, World.size_alloc, ↓xPick_t, ↓xPick_f, ↓xGuard_tt, ↓xGuard_ff, ↓xGuard_tf, ↓xGuard_ft, ↓xIf_t, tick_eq, tickV_eq, ne_eq, not_true_eq_false, Int.reduceEq, Int.reduceLT, Int.reduceLE, 
      Bool.false_and, Bool.true_and, Bool.and_true, Bool.and_false, ↓xBin_add', ↓xBin_sub', ↓xBin_mul', ↓xBin_quo', ↓xBin_rem', wrap_in, ↓xIf_f, ↓xIf_tt, ↓xEx0, ↓xEx1, ↓xEx2, ↓xEx3, ↓xBin_eqs, ↓xBin_nes, ↓xUn_not, ↓u8_add, 
      ↓u8_mul, ↓u16_add, ↓u16_mul, ↓u32_add, ↓u32_mul, ↓u64_add, ↓u64_mul, Int.toNat_natCast, Int.reduceToNat, Nat.reduceMul, Nat.reduceAdd, Nat.reduceSub, Nat.mul_one, List.nil_append, List.cons_append, List.getElem?_toArray, 
      List.getElem?_cons_zero, List.getElem?_cons_succ, cells_int, cells_bool, cells_string, cells_slice, cells_pointer, cells_agg, one_int, one_bool, one_string, one_slice, one_pointer, List.setIfInBounds_toArray, List.set_cons_zero, 
      List.set_cons_succ, ↓xDet_s, ↓xDet_ld, ↓xDet_ld2, ↓xDet_ld3, ↓xDet_ld4, World.size_drew, Nat.zero_add, cell_drew, frozen_drew, cell_set_eq, cell_set_o, cell_set_b, Option.map_some, World.frozen?_setCell, decide_true, decide_false, 
      List.not_mem_nil, not_false_eq_true, ↓xGuard_tt, Bool.not_true, Bool.not_false, ←decide_not, ↓ld_3, ↓ld_23, ↓fa_23_1, eq_self]
  apply xDet_x
  · exact fun w hw => geom_Geom_sectors_call (Gives.lq (sectors_spec _ _ _ _ h0 h1 h2 h3))
  have h4 : 0 ≤ (n * 8 + s - 1) / s := Int.ediv_nonneg (by omega) (by omega)
  have h5 : (n * 8 + s - 1) / s ≤ n * 8 + s - 1 := Int.ediv_le_self _ (by omega)
  simp (disch := (first | omega | (simp only [World.size_alloc, World.size_setCell, World.size_drew, List.mem_cons, List.not_mem_nil, or_false, not_false_eq_true] <;> omega) | fail)) only [↓xBox_r, ↓loadK_some, ↓loadsK_s, ↓loadsK_n, ↓loadsR_s, ↓loadsR_n, ↓storesK_s, ↓storesK_n, setCells_c, setCells_n, World.setCell_alloc_at, World.setCell_alloc_past, World.cell?_alloc_at, World.cell?_alloc_past, 
      World.frozen?_alloc_at, World.frozen?_alloc_past, World.size_alloc, ↓xPick_t, ↓xPick_f, ↓xGuard_tt, ↓xGuard_ff, ↓xGuard_tf, ↓xGuard_ft, ↓xIf_t, tick_eq, tickV_eq, ne_eq, not_true_eq_false, Int.reduceEq, Int.reduceLT, Int.reduceLE, 
      Bool.false_and, Bool.true_and, Bool.and_true, Bool.and_false, ↓xBin_add', ↓xBin_sub', ↓xBin_mul', ↓xBin_quo', ↓xBin_rem', wrap_in, ↓xIf_f, ↓xIf_tt, ↓xEx0, ↓xEx1, ↓xEx2, ↓xEx3, ↓xBin_eqs, ↓xBin_nes, ↓xUn_not, ↓u8_add, 
      ↓u8_mul, ↓u16_add, ↓u16_mul, ↓u32_add, ↓u32_mul, ↓u64_add, ↓u64_mul, Int.toNat_natCast, Int.reduceToNat, Nat.reduceMul, Nat.reduceAdd, Nat.reduceSub, Nat.mul_one, List.nil_append, List.cons_append, List.getElem?_toArray, 
      List.getElem?_cons_zero, List.getElem?_cons_succ, cells_int, cells_bool, cells_string, cells_slice, cells_pointer, cells_agg, one_int, one_bool, one_string, one_slice, one_pointer, List.setIfInBounds_toArray, List.set_cons_zero, 
      List.set_cons_succ, ↓xDet_s, ↓xDet_ld, ↓xDet_ld2, ↓xDet_ld3, ↓xDet_ld4, World.size_drew, Nat.zero_add, cell_drew, frozen_drew, cell_set_eq, cell_set_o, cell_set_b, Option.map_some, World.frozen?_setCell, decide_true, decide_false, 
      List.not_mem_nil, not_false_eq_true, ↓xGuard_tt, Bool.not_true, Bool.not_false, ←decide_not, ↓ld_3, ↓ld_23, ↓fa_23_1, eq_self]
  exact xEnd_i fun w hw => ⟨trivial, ((Ext.alloc _ _ _).drew').trans hw.ext⟩

def one (s n : Int) : Int := (n * 8 + s - 1) / s + (n + 32 - 1) / 32
def badGeom (s l n : Int) : Prop := s < 64 ∨ 1024 < s ∨ ¬ s % 8 = 0 ∨ l < 8 ∨ 1024 < l ∨ n < 64 ∨ 8192 < n ∨ 16384 < 2 + l + 2 * one s n
instance (s l n : Int) : Decidable (badGeom s l n) := by unfold badGeom; infer_instance
def checkV (s l n : Int) : Int := if badGeom s l n then 1 else 0
theorem checkV_1 {s l n : Int} (h : badGeom s l n) : checkV s l n = 1 := if_pos h
theorem checkV_0 {s l n : Int} (h : ¬ badGeom s l n) : checkV s l n = 0 := if_neg h

theorem Check_spec (s l n : Int) (w : World) : Gives Try.prog n_geom_Check #[gm s l n] w (i64 (checkV s l n)) := by
  refine geom_Check_of ?_
  unfold geom_Check geom_Check_j2 geom_Check_j3
  simp (disch := (first | omega | (simp only [World.size_alloc, World.size_setCell, World.size_drew, List.mem_cons, List.not_mem_nil, or_false, not_false_eq_true] <;> omega) | fail)) only [↓xBox_r, ↓loadK_some, ↓loadsK_s, ↓loadsK_n, ↓loadsR_s, ↓loadsR_n, ↓storesK_s, ↓storesK_n, setCells_c, setCells_n, World.setCell_alloc_at, World.setCell_alloc_past, World.cell?_alloc_at, World.cell?_alloc_past, 
      World.frozen?_alloc_at, World.frozen?_alloc_past, World.size_alloc, ↓xPick_t, ↓xPick_f, ↓xGuard_tt, ↓xGuard_ff, ↓xGuard_tf, ↓xGuard_ft, ↓xIf_t, tick_eq, tickV_eq, ne_eq, not_true_eq_false, Int.reduceEq, Int.reduceLT, Int.reduceLE, 
      Bool.false_and, Bool.true_and, Bool.and_true, Bool.and_false, ↓xBin_add', ↓xBin_sub', ↓xBin_mul', ↓xBin_quo', ↓xBin_rem', wrap_in, ↓xIf_f, ↓xIf_tt, ↓xEx0, ↓xEx1, ↓xEx2, ↓xEx3, ↓xBin_eqs, ↓xBin_nes, ↓xUn_not, ↓u8_rem, 
      ↓u8_neq, ↓u8_lss, ↓u8_gtr, ↓u16_rem, ↓u16_neq, ↓u16_lss, ↓u16_gtr, ↓u32_rem, ↓u32_neq, ↓u32_lss, ↓u32_gtr, ↓u64_rem, ↓u64_neq, ↓u64_lss, ↓u64_gtr, ↓i64_lss, ↓i64_gtr, ↓i64_neq, ↓i64_neg, Int.toNat_natCast, Int.reduceToNat, 
      Nat.reduceMul, Nat.reduceAdd, Nat.reduceSub, Nat.mul_one, List.nil_append, List.cons_append, List.getElem?_toArray, List.getElem?_cons_zero, List.getElem?_cons_succ, cells_int, cells_bool, cells_string, cells_slice, 
      cells_pointer, cells_agg, one_int, one_bool, one_string, one_slice, one_pointer, List.setIfInBounds_toArray, List.set_cons_zero, List.set_cons_succ, ↓xDet_s, ↓xDet_ld, ↓xDet_ld2, ↓xDet_ld3, ↓xDet_ld4, World.size_drew, 
      Nat.zero_add, cell_drew, frozen_drew, cell_set_eq, cell_set_o, cell_set_b, Option.map_some, World.frozen?_setCell, decide_true, decide_false, List.not_mem_nil, not_false_eq_true, ↓xGuard_tt, Bool.not_true, Bool.not_false, 
      ←decide_not, ↓ld_3, ↓ld_23, ↓fa_23_0, ↓fa_23_1, ↓fa_23_2, eq_self]
  have e0 : ∀ o, Ext [] w (w.alloc o) := Ext.alloc [] w
  refine xIf_d (fun h1 => ⟨by rw [checkV_1 (.inl h1)], e0 _⟩) fun h1 => ?_
  simp (disch := (first | omega | (simp only [World.size_alloc, World.size_setCell, World.size_drew, List.mem_cons, List.not_mem_nil, or_false, not_false_eq_true] <;> omega) | fail)) only [↓xBox_r, ↓loadK_some, ↓loadsK_s, ↓loadsK_n, ↓loadsR_s, ↓loadsR_n, ↓storesK_s, ↓storesK_n, setCells_c, setCells_n, World.setCell_alloc_at, World.setCell_alloc_past, World.cell?_alloc_at, World.cell?_alloc_past, 
      World.frozen?_alloc_at, World.frozen?_alloc_past, World.size_alloc, ↓xPick_t, ↓xPick_f, ↓xGuard_tt, ↓xGuard_ff, ↓xGuard_tf, ↓xGuard_ft, ↓xIf_t, tick_eq, tickV_eq, ne_eq, not_true_eq_false, Int.reduceEq, Int.reduceLT, Int.reduceLE, 
      Bool.false_and, Bool.true_and, Bool.and_true, Bool.and_false, ↓xBin_add', ↓xBin_sub', ↓xBin_mul', ↓xBin_quo', ↓xBin_rem', wrap_in, ↓xIf_f, ↓xIf_tt, ↓xEx0, ↓xEx1, ↓xEx2, ↓xEx3, ↓xBin_eqs, ↓xBin_nes, ↓xUn_not, ↓u8_rem, 
      ↓u8_neq, ↓u8_lss, ↓u8_gtr, ↓u16_rem, ↓u16_neq, ↓u16_lss, ↓u16_gtr, ↓u32_rem, ↓u32_neq, ↓u32_lss, ↓u32_gtr, ↓u64_rem, ↓u64_neq, ↓u64_lss, ↓u64_gtr, ↓i64_lss, ↓i64_gtr, ↓i64_neq, ↓i64_neg, Int.toNat_natCast, Int.reduceToNat, 
      Nat.reduceMul, Nat.reduceAdd, Nat.reduceSub, Nat.mul_one, List.nil_append, List.cons_append, List.getElem?_toArray, List.getElem?_cons_zero, List.getElem?_cons_succ, cells_int, cells_bool, cells_string, cells_slice, 
      cells_pointer, cells_agg, one_int, one_bool, one_string, one_slice, one_pointer, List.setIfInBounds_toArray, List.set_cons_zero, List.set_cons_succ, ↓xDet_s, ↓xDet_ld, ↓xDet_ld2, ↓xDet_ld3, ↓xDet_ld4, World.size_drew, 
      Nat.zero_add, cell_drew, frozen_drew, cell_set_eq, cell_set_o, cell_set_b, Option.map_some, World.frozen?_setCell, decide_true, decide_false, List.not_mem_nil, not_false_eq_true, ↓xGuard_tt, Bool.not_true, Bool.not_false, 
      ←decide_not, ↓ld_3, ↓ld_23, ↓fa_23_0, ↓fa_23_1, ↓fa_23_2, eq_self]
  refine xIf_d (fun h2 => ⟨by rw [checkV_1 (.inr (.inl h2))], e0 _⟩) fun h2 => ?_
  simp (disch := (first | omega | (simp only [World.size_alloc, World.size_setCell, World.size_drew, List.mem_cons, List.not_mem_nil, or_false, not_false_eq_true] <;> omega) | fail)) only [↓xBox_r, ↓loadK_some, ↓loadsK_s, ↓loadsK_n, ↓loadsR_s, ↓loadsR_n, ↓storesK_s, ↓storesK_n, setCells_c, setCells_n, World.setCell_alloc_at, World.setCell_alloc_past, World.cell?_alloc_at, World.cell?_alloc_past, 
      World.frozen?_alloc_at, World.frozen?_alloc_past, World.size_alloc, ↓xPick_t, ↓xPick_f, ↓xGuard_tt, ↓xGuard_ff, ↓xGuard_tf, ↓xGuard_ft, ↓xIf_t, tick_eq, tickV_eq, ne_eq, not_true_eq_false, Int.reduceEq, Int.reduceLT, Int.reduceLE, 
      Bool.false_and, Bool.true_and, Bool.and_true, Bool.and_false, ↓xBin_add', ↓xBin_sub', ↓xBin_mul', ↓xBin_quo', ↓xBin_rem', wrap_in, ↓xIf_f, ↓xIf_tt, ↓xEx0, ↓xEx1, ↓xEx2, ↓xEx3, ↓xBin_eqs, ↓xBin_nes, ↓xUn_not, ↓u8_rem, 
      ↓u8_neq, ↓u8_lss, ↓u8_gtr, ↓u16_rem, ↓u16_neq, ↓u16_lss, ↓u16_gtr, ↓u32_rem, ↓u32_neq, ↓u32_lss, ↓u32_gtr, ↓u64_rem, ↓u64_neq, ↓u64_lss, ↓u64_gtr, ↓i64_lss, ↓i64_gtr, ↓i64_neq, ↓i64_neg, Int.toNat_natCast, Int.reduceToNat, 
      Nat.reduceMul, Nat.reduceAdd, Nat.reduceSub, Nat.mul_one, List.nil_append, List.cons_append, List.getElem?_toArray, List.getElem?_cons_zero, List.getElem?_cons_succ, cells_int, cells_bool, cells_string, cells_slice, 
      cells_pointer, cells_agg, one_int, one_bool, one_string, one_slice, one_pointer, List.setIfInBounds_toArray, List.set_cons_zero, List.set_cons_succ, ↓xDet_s, ↓xDet_ld, ↓xDet_ld2, ↓xDet_ld3, ↓xDet_ld4, World.size_drew, 
      Nat.zero_add, cell_drew, frozen_drew, cell_set_eq, cell_set_o, cell_set_b, Option.map_some, World.frozen?_setCell, decide_true, decide_false, List.not_mem_nil, not_false_eq_true, ↓xGuard_tt, Bool.not_true, Bool.not_false, 
      ←decide_not, ↓ld_3, ↓ld_23, ↓fa_23_0, ↓fa_23_1, ↓fa_23_2, eq_self]
  simp (disch := (first | omega | (simp only [World.size_alloc, World.size_setCell, World.size_drew, List.mem_cons, List.not_mem_nil, or_false, not_false_eq_true] <;> omega) | fail)) only [xBin_rem', xBin_neq]
  refine xIf_d (fun h3 => ⟨by rw [checkV_1 (by unfold badGeom; omega)], e0 _⟩) fun h3 => ?_
  simp (disch := (first | omega | (simp only [World.size_alloc, World.size_setCell, World.size_drew, List.mem_cons, List.not_mem_nil, or_false, not_false_eq_true] <;> omega) | fail)) only [↓xBox_r, ↓loadK_some, ↓loadsK_s, ↓loadsK_n, ↓loadsR_s, ↓loadsR_n, ↓storesK_s, ↓storesK_n, setCells_c, setCells_n, World.setCell_alloc_at, World.setCell_alloc_past, World.cell?_alloc_at, World.cell?_alloc_past, 
      World.frozen?_alloc_at, World.frozen?_alloc_past, World.size_alloc, ↓xPick_t, ↓xPick_f, ↓xGuard_tt, ↓xGuard_ff, ↓xGuard_tf, ↓xGuard_ft, ↓xIf_t, tick_eq, tickV_eq, ne_eq, not_true_eq_false, Int.reduceEq, Int.reduceLT, Int.reduceLE, 
      Bool.false_and, Bool.true_and, Bool.and_true, Bool.and_false, ↓xBin_add', ↓xBin_sub', ↓xBin_mul', ↓xBin_quo', ↓xBin_rem', wrap_in, ↓xIf_f, ↓xIf_tt, ↓xEx0, ↓xEx1, ↓xEx2, ↓xEx3, ↓xBin_eqs, ↓xBin_nes, ↓xUn_not, ↓u8_rem, 
      ↓u8_neq, ↓u8_lss, ↓u8_gtr, ↓u16_rem, ↓u16_neq, ↓u16_lss, ↓u16_gtr, ↓u32_rem, ↓u32_neq, ↓u32_lss, ↓u32_gtr, ↓u64_rem, ↓u64_neq, ↓u64_lss, ↓u64_gtr, ↓i64_lss, ↓i64_gtr, ↓i64_neq, ↓i64_neg, Int.toNat_natCast, Int.reduceToNat, 
      Nat.reduceMul, Nat.reduceAdd, Nat.reduceSub, Nat.mul_one, List.nil_append, List.cons_append, List.getElem?_toArray, List.getElem?_cons_zero, List.getElem?_cons_succ, cells_int, cells_bool, cells_string, cells_slice, 
      cells_pointer, cells_agg, one_int, one_bool, one_string, one_slice, one_pointer, List.setIfInBounds_toArray, List.set_cons_zero, List.set_cons_succ, ↓xDet_s, ↓xDet_ld, ↓xDet_ld2, ↓xDet_ld3, ↓xDet_ld4, World.size_drew, 
      Nat.zero_add, cell_drew, frozen_drew, cell_set_eq, cell_set_o, cell_set_b, Option.map_some, World.frozen?_setCell, decide_true, decide_false, List.not_mem_nil, not_false_eq_true, ↓xGuard_tt, Bool.not_true, Bool.not_false, 
      ←decide_not, ↓ld_3, ↓ld_23, ↓fa_23_0, ↓fa_23_1, ↓fa_23_2, eq_self]
  refine xIf_d (fun h4 => ⟨by rw [checkV_1 (by unfold badGeom; omega)], e0 _⟩) fun h4 => ?_
  simp (disch := (first | omega | (simp only [World.size_alloc, World.size_setCell, World.size_drew, List.mem_cons, List.not_mem_nil, or_false, not_false_eq_true] <;> omega) | fail)) only [↓xBox_r, ↓loadK_some, ↓loadsK_s, ↓loadsK_n, ↓loadsR_s, ↓loadsR_n, ↓storesK_s, ↓storesK_n, setCells_c, setCells_n, World.setCell_alloc_at, World.setCell_alloc_past, World.cell?_alloc_at, World.cell?_alloc_past, 
      World.frozen?_alloc_at, World.frozen?_alloc_past, World.size_alloc, ↓xPick_t, ↓xPick_f, ↓xGuard_tt, ↓xGuard_ff, ↓xGuard_tf, ↓xGuard_ft, ↓xIf_t, tick_eq, tickV_eq, ne_eq, not_true_eq_false, Int.reduceEq, Int.reduceLT, Int.reduceLE, 
      Bool.false_and, Bool.true_and, Bool.and_true, Bool.and_false, ↓xBin_add', ↓xBin_sub', ↓xBin_mul', ↓xBin_quo', ↓xBin_rem', wrap_in, ↓xIf_f, ↓xIf_tt, ↓xEx0, ↓xEx1, ↓xEx2, ↓xEx3, ↓xBin_eqs, ↓xBin_nes, ↓xUn_not, ↓u8_rem, 
      ↓u8_neq, ↓u8_lss, ↓u8_gtr, ↓u16_rem, ↓u16_neq, ↓u16_lss, ↓u16_gtr, ↓u32_rem, ↓u32_neq, ↓u32_lss, ↓u32_gtr, ↓u64_rem, ↓u64_neq, ↓u64_lss, ↓u64_gtr, ↓i64_lss, ↓i64_gtr, ↓i64_neq, ↓i64_neg, Int.toNat_natCast, Int.reduceToNat, 
      Nat.reduceMul, Nat.reduceAdd, Nat.reduceSub, Nat.mul_one, List.nil_append, List.cons_append, List.getElem?_toArray, List.getElem?_cons_zero, List.getElem?_cons_succ, cells_int, cells_bool, cells_string, cells_slice, 
      cells_pointer, cells_agg, one_int, one_bool, one_string, one_slice, one_pointer, List.setIfInBounds_toArray, List.set_cons_zero, List.set_cons_succ, ↓xDet_s, ↓xDet_ld, ↓xDet_ld2, ↓xDet_ld3, ↓xDet_ld4, World.size_drew, 
      Nat.zero_add, cell_drew, frozen_drew, cell_set_eq, cell_set_o, cell_set_b, Option.map_some, World.frozen?_setCell, decide_true, decide_false, List.not_mem_nil, not_false_eq_true, ↓xGuard_tt, Bool.not_true, Bool.not_false, 
      ←decide_not, ↓ld_3, ↓ld_23, ↓fa_23_0, ↓fa_23_1, ↓fa_23_2, eq_self]
  refine xIf_d (fun h5 => ⟨by rw [checkV_1 (by unfold badGeom; omega)], e0 _⟩) fun h5 => ?_
  simp (disch := (first | omega | (simp only [World.size_alloc, World.size_setCell, World.size_drew, List.mem_cons, List.not_mem_nil, or_false, not_false_eq_true] <;> omega) | fail)) only [↓xBox_r, ↓loadK_some, ↓loadsK_s, ↓loadsK_n, ↓loadsR_s, ↓loadsR_n, ↓storesK_s, ↓storesK_n, setCells_c, setCells_n, World.setCell_alloc_at, World.setCell_alloc_past, World.cell?_alloc_at, World.cell?_alloc_past, 
      World.frozen?_alloc_at, World.frozen?_alloc_past, World.size_alloc, ↓xPick_t, ↓xPick_f, ↓xGuard_tt, ↓xGuard_ff, ↓xGuard_tf, ↓xGuard_ft, ↓xIf_t, tick_eq, tickV_eq, ne_eq, not_true_eq_false, Int.reduceEq, Int.reduceLT, Int.reduceLE, 
      Bool.false_and, Bool.true_and, Bool.and_true, Bool.and_false, ↓xBin_add', ↓xBin_sub', ↓xBin_mul', ↓xBin_quo', ↓xBin_rem', wrap_in, ↓xIf_f, ↓xIf_tt, ↓xEx0, ↓xEx1, ↓xEx2, ↓xEx3, ↓xBin_eqs, ↓xBin_nes, ↓xUn_not, ↓u8_rem, 
      ↓u8_neq, ↓u8_lss, ↓u8_gtr, ↓u16_rem, ↓u16_neq, ↓u16_lss, ↓u16_gtr, ↓u32_rem, ↓u32_neq, ↓u32_lss, ↓u32_gtr, ↓u64_rem, ↓u64_neq, ↓u64_lss, ↓u64_gtr, ↓i64_lss, ↓i64_gtr, ↓i64_neq, ↓i64_neg, Int.toNat_natCast, Int.reduceToNat, 
      Nat.reduceMul, Nat.reduceAdd, Nat.reduceSub, Nat.mul_one, List.nil_append, List.cons_append, List.getElem?_toArray, List.getElem?_cons_zero, List.getElem?_cons_succ, cells_int, cells_bool, cells_string, cells_slice, 
      cells_pointer, cells_agg, one_int, one_bool, one_string, one_slice, one_pointer, List.setIfInBounds_toArray, List.set_cons_zero, List.set_cons_succ, ↓xDet_s, ↓xDet_ld, ↓xDet_ld2, ↓xDet_ld3, ↓xDet_ld4, World.size_drew, 
      Nat.zero_add, cell_drew, frozen_drew, cell_set_eq, cell_set_o, cell_set_b, Option.map_some, World.frozen?_setCell, decide_true, decide_false, List.not_mem_nil, not_false_eq_true, ↓xGuard_tt, Bool.not_true, Bool.not_false, 
      ←decide_not, ↓ld_3, ↓ld_23, ↓fa_23_0, ↓fa_23_1, ↓fa_23_2, eq_self]
  refine xIf_d (fun h6 => ⟨by rw [checkV_1 (by unfold badGeom; omega)], e0 _⟩) fun h6 => ?_
  simp (disch := (first | omega | (simp only [World.size_alloc, World.size_setCell, World.size_drew, List.mem_cons, List.not_mem_nil, or_false, not_false_eq_true] <;> omega) | fail)) only [↓xBox_r, ↓loadK_some, ↓loadsK_s, ↓loadsK_n, ↓loadsR_s, ↓loadsR_n, ↓storesK_s, ↓storesK_n, setCells_c, setCells_n, World.setCell_alloc_at, World.setCell_alloc_past, World.cell?_alloc_at, World.cell?_alloc_past, 
      World.frozen?_alloc_at, World.frozen?_alloc_past, World.size_alloc, ↓xPick_t, ↓xPick_f, ↓xGuard_tt, ↓xGuard_ff, ↓xGuard_tf, ↓xGuard_ft, ↓xIf_t, tick_eq, tickV_eq, ne_eq, not_true_eq_false, Int.reduceEq, Int.reduceLT, Int.reduceLE, 
      Bool.false_and, Bool.true_and, Bool.and_true, Bool.and_false, ↓xBin_add', ↓xBin_sub', ↓xBin_mul', ↓xBin_quo', ↓xBin_rem', wrap_in, ↓xIf_f, ↓xIf_tt, ↓xEx0, ↓xEx1, ↓xEx2, ↓xEx3, ↓xBin_eqs, ↓xBin_nes, ↓xUn_not, ↓u8_rem, 
      ↓u8_neq, ↓u8_lss, ↓u8_gtr, ↓u16_rem, ↓u16_neq, ↓u16_lss, ↓u16_gtr, ↓u32_rem, ↓u32_neq, ↓u32_lss, ↓u32_gtr, ↓u64_rem, ↓u64_neq, ↓u64_lss, ↓u64_gtr, ↓i64_lss, ↓i64_gtr, ↓i64_neq, ↓i64_neg, Int.toNat_natCast, Int.reduceToNat, 
      Nat.reduceMul, Nat.reduceAdd, Nat.reduceSub, Nat.mul_one, List.nil_append, List.cons_append, List.getElem?_toArray, List.getElem?_cons_zero, List.getElem?_cons_succ, cells_int, cells_bool, cells_string, cells_slice, 
      cells_pointer, cells_agg, one_int, one_bool, one_string, one_slice, one_pointer, List.setIfInBounds_toArray, List.set_cons_zero, List.set_cons_succ, ↓xDet_s, ↓xDet_ld, ↓xDet_ld2, ↓xDet_ld3, ↓xDet_ld4, World.size_drew, 
      Nat.zero_add, cell_drew, frozen_drew, cell_set_eq, cell_set_o, cell_set_b, Option.map_some, World.frozen?_setCell, decide_true, decide_false, List.not_mem_nil, not_false_eq_true, ↓xGuard_tt, Bool.not_true, Bool.not_false, 
      ←decide_not, ↓ld_3, ↓ld_23, ↓fa_23_0, ↓fa_23_1, ↓fa_23_2, eq_self]
  refine xIf_d (fun h7 => ⟨by rw [checkV_1 (by unfold badGeom; omega)], e0 _⟩) fun h7 => ?_
  simp (disch := (first | omega | (simp only [World.size_alloc, World.size_setCell, World.size_drew, List.mem_cons, List.not_mem_nil, or_false, not_false_eq_true] <;> omega) | fail)) only [↓xBox_r, ↓loadK_some, ↓loadsK_s, ↓loadsK_n, ↓loadsR_s, ↓loadsR_n, ↓storesK_s, ↓storesK_n, setCells_c, setCells_n, World.setCell_alloc_at, World.setCell_alloc_past, World.cell?_alloc_at, World.cell?_alloc_past, 
      World.frozen?_alloc_at, World.frozen?_alloc_past, World.size_alloc, ↓xPick_t, ↓xPick_f, ↓xGuard_tt, ↓xGuard_ff, ↓xGuard_tf, ↓xGuard_ft, ↓xIf_t, tick_eq, tickV_eq, ne_eq, not_true_eq_false, Int.reduceEq, Int.reduceLT, Int.reduceLE, 
      Bool.false_and, Bool.true_and, Bool.and_true, Bool.and_false, ↓xBin_add', ↓xBin_sub', ↓xBin_mul', ↓xBin_quo', ↓xBin_rem', wrap_in, ↓xIf_f, ↓xIf_tt, ↓xEx0, ↓xEx1, ↓xEx2, ↓xEx3, ↓xBin_eqs, ↓xBin_nes, ↓xUn_not, ↓u8_rem, 
      ↓u8_neq, ↓u8_lss, ↓u8_gtr, ↓u16_rem, ↓u16_neq, ↓u16_lss, ↓u16_gtr, ↓u32_rem, ↓u32_neq, ↓u32_lss, ↓u32_gtr, ↓u64_rem, ↓u64_neq, ↓u64_lss, ↓u64_gtr, ↓i64_lss, ↓i64_gtr, ↓i64_neq, ↓i64_neg, Int.toNat_natCast, Int.reduceToNat, 
      Nat.reduceMul, Nat.reduceAdd, Nat.reduceSub, Nat.mul_one, List.nil_append, List.cons_append, List.getElem?_toArray, List.getElem?_cons_zero, List.getElem?_cons_succ, cells_int, cells_bool, cells_string, cells_slice, 
      cells_pointer, cells_agg, one_int, one_bool, one_string, one_slice, one_pointer, List.setIfInBounds_toArray, List.set_cons_zero, List.set_cons_succ, ↓xDet_s, ↓xDet_ld, ↓xDet_ld2, ↓xDet_ld3, ↓xDet_ld4, World.size_drew, 
      Nat.zero_add, cell_drew, frozen_drew, cell_set_eq, cell_set_o, cell_set_b, Option.map_some, World.frozen?_setCell, decide_true, decide_false, List.not_mem_nil, not_false_eq_true, ↓xGuard_tt, Bool.not_true, Bool.not_false, 
      ←decide_not, ↓ld_3, ↓ld_23, ↓fa_23_0, ↓fa_23_1, ↓fa_23_2, eq_self]
  refine geom_Sectors_call (Gives.to (Sectors_spec _ _ _ _ (by omega) (by omega) (by omega) (by omega) (by omega) (by omega)) fun w1 E1 => ?_)
  simp only [↓xBox_r, ↓loadK_some, ↓loadsK_s, ↓loadsK_n, ↓loadsR_s, ↓loadsR_n, ↓storesK_s, ↓storesK_n, setCells_c, setCells_n, World.setCell_alloc_at, World.setCell_alloc_past, World.cell?_alloc_at, World.cell?_alloc_past, 
      World.frozen?_alloc_at, World.frozen?_alloc_past, World.size_alloc, ↓xPick_t, ↓xPick_f, ↓xGuard_tt, ↓xGuard_ff, ↓xGuard_tf, ↓xGuard_ft, ↓xIf_t, tick_eq, tickV_eq, ne_eq, not_true_eq_false, Int.reduceEq, Int.reduceLT, Int.reduceLE, 
      Bool.false_and, Bool.true_and, Bool.and_true, Bool.and_false, ↓xBin_add', ↓xBin_sub', ↓xBin_mul', ↓xBin_quo', ↓xBin_rem', wrap_in, ↓xIf_f, ↓xIf_tt, ↓xEx0, ↓xEx1, ↓xEx2, ↓xEx3, ↓xBin_eqs, ↓xBin_nes, ↓xUn_not, ↓u8_rem, 
      ↓u8_neq, ↓u8_lss, ↓u8_gtr, ↓u16_rem, ↓u16_neq, ↓u16_lss, ↓u16_gtr, ↓u32_rem, ↓u32_neq, ↓u32_lss, ↓u32_gtr, ↓u64_rem, ↓u64_neq, ↓u64_lss, ↓u64_gtr, ↓i64_lss, ↓i64_gtr, ↓i64_neq, ↓i64_neg, Int.toNat_natCast, Int.reduceToNat, 
      Nat.reduceMul, Nat.reduceAdd, Nat.reduceSub, Nat.mul_one, List.nil_append, List.cons_append, List.getElem?_toArray, List.getElem?_cons_zero, List.getElem?_cons_succ, cells_int, cells_bool, cells_string, cells_slice, 
      cells_pointer, cells_agg, one_int, one_bool, one_string, one_slice, one_pointer, List.setIfInBounds_toArray, List.set_cons_zero, List.set_cons_succ, ↓xDet_s, ↓xDet_ld, ↓xDet_ld2, ↓xDet_ld3, ↓xDet_ld4, World.size_drew, 
      Nat.zero_add, cell_drew, frozen_drew, cell_set_eq, cell_set_o, cell_set_b, Option.map_some, World.frozen?_setCell, decide_true, decide_false, List.not_mem_nil, not_false_eq_true, ↓xGuard_tt, Bool.not_true, Bool.not_false, 
      ←decide_not]
  refine xIf_d (fun h8 => ⟨by rw [checkV_1 (by unfold badGeom one; omega)], (e0 _).trans E1⟩) fun h8 => ⟨?_, (e0 _).trans E1⟩
  rw [checkV_0]
  unfold badGeom one; omega

theorem Slots_spec (s l n : Int) (w : World) : Gives Try.prog n_geom_Slots #[gm s l n] w (.agg #[i64 0, i64 1, i64 1, i64 1]) := by
  refine geom_Slots_of ?_
  unfold geom_Slots
  simp (disch := (first | omega | (simp only [World.size_alloc, World.size_setCell, World.size_drew, List.mem_cons, List.not_mem_nil, or_false, not_false_eq_true] <;> omega) | fail)) only [↓xBox_r, ↓loadK_some, ↓loadsK_s, ↓loadsK_n, ↓loadsR_s, ↓loadsR_n, ↓storesK_s, ↓storesK_n, setCells_c, setCells_n, World.setCell_alloc_at, World.setCell_alloc_past, World.cell?_alloc_at, World.cell?_alloc_past, 
      World.frozen?_alloc_at, World.frozen?_alloc_past, World.size_alloc, ↓xPick_t, ↓xPick_f, ↓xGuard_tt, ↓xGuard_ff, ↓xGuard_tf, ↓xGuard_ft, ↓xIf_t, tick_eq, tickV_eq, ne_eq, not_true_eq_false, Int.reduceEq, Int.reduceLT, Int.reduceLE, 
      Bool.false_and, Bool.true_and, Bool.and_true, Bool.and_false, ↓xBin_add', ↓xBin_sub', ↓xBin_mul', ↓xBin_quo', ↓xBin_rem', wrap_in, ↓xIf_f, ↓xIf_tt, ↓xEx0, ↓xEx1, ↓xEx2, ↓xEx3, ↓xBin_eqs, ↓xBin_nes, ↓xUn_not, Int.toNat_natCast, 
      Int.reduceToNat, Nat.reduceMul, Nat.reduceAdd, Nat.reduceSub, Nat.mul_one, List.nil_append, List.cons_append, List.getElem?_toArray, List.getElem?_cons_zero, List.getElem?_cons_succ, cells_int, cells_bool, cells_string, 
      cells_slice, cells_pointer, cells_agg, one_int, one_bool, one_string, one_slice, one_pointer, List.setIfInBounds_toArray, List.set_cons_zero, List.set_cons_succ, ↓xDet_s, ↓xDet_ld, ↓xDet_ld2, ↓xDet_ld3, ↓xDet_ld4, 
      World.size_drew, Nat.zero_add, cell_drew, frozen_drew, cell_set_eq, cell_set_o, cell_set_b, Option.map_some, World.frozen?_setCell, decide_true, decide_false, List.not_mem_nil, not_false_eq_true, ↓xGuard_tt, Bool.not_true, 
      Bool.not_false, ←decide_not, ↓lr_35, ↓al_35, ↓st_35, ↓bd_34_0_1, ↓bd_34, ↓bd_35_0_1, eq_self]
  exact ⟨trivial, (Ext.alloc _ _ _).alloc' _⟩
theorem Log_spec (s l n : Int) (w : World) : Gives Try.prog n_geom_Log #[gm s l n] w (.agg #[i64 2, i64 l]) := by
  refine geom_Log_of ?_
  unfold geom_Log
  simp (disch := (first | omega | (simp only [World.size_alloc, World.size_setCell, World.size_drew, List.mem_cons, List.not_mem_nil, or_false, not_false_eq_true] <;> omega) | fail)) only [↓xBox_r, ↓loadK_some, ↓loadsK_s, ↓loadsK_n, ↓loadsR_s, ↓loadsR_n, ↓storesK_s, ↓storesK_n, setCells_c, setCells_n, World.setCell_alloc_at, World.setCell_alloc_past, World.cell?_alloc_at, World.cell?_alloc_past, 
      World.frozen?_alloc_at, World.frozen?_alloc_past, World.size_alloc, ↓xPick_t, ↓xPick_f, ↓xGuard_tt, ↓xGuard_ff, ↓xGuard_tf, ↓xGuard_ft, ↓xIf_t, tick_eq, tickV_eq, ne_eq, not_true_eq_false, Int.reduceEq, Int.reduceLT, Int.reduceLE, 
      Bool.false_and, Bool.true_and, Bool.and_true, Bool.and_false, ↓xBin_add', ↓xBin_sub', ↓xBin_mul', ↓xBin_quo', ↓xBin_rem', wrap_in, ↓xIf_f, ↓xIf_tt, ↓xEx0, ↓xEx1, ↓xEx2, ↓xEx3, ↓xBin_eqs, ↓xBin_nes, ↓xUn_not, Int.toNat_natCast, 
      Int.reduceToNat, Nat.reduceMul, Nat.reduceAdd, Nat.reduceSub, Nat.mul_one, List.nil_append, List.cons_append, List.getElem?_toArray, List.getElem?_cons_zero, List.getElem?_cons_succ, cells_int, cells_bool, cells_string, 
      cells_slice, cells_pointer, cells_agg, one_int, one_bool, one_string, one_slice, one_pointer, List.setIfInBounds_toArray, List.set_cons_zero, List.set_cons_succ, ↓xDet_s, ↓xDet_ld, ↓xDet_ld2, ↓xDet_ld3, ↓xDet_ld4, 
      World.size_drew, Nat.zero_add, cell_drew, frozen_drew, cell_set_eq, cell_set_o, cell_set_b, Option.map_some, World.frozen?_setCell, decide_true, decide_false, List.not_mem_nil, not_false_eq_true, ↓xGuard_tt, Bool.not_true, 
      Bool.not_false, ←decide_not, ↓ld_3, ↓lr_34, ↓fa_23_1, ↓al_34, ↓st_34, ↓bd_34_0_1, ↓bd_34, eq_self]
  exact ⟨trivial, (Ext.alloc _ _ _).alloc' _⟩
def spaceAt (s l n i : Int) : Int := if i = 0 ∨ i = 1 then 2 + l + i * one s n else 0
def spaceN (s n i : Int) : Int := if i = 0 ∨ i = 1 then one s n else 0
theorem one_le (s n : Int) (h0 : 0 < s) (h2 : 0 ≤ n) : 0 ≤ one s n ∧ one s n ≤ 9 * n + s + 31 := by
  have h4 : 0 ≤ (n * 8 + s - 1) / s := Int.ediv_nonneg (by omega) (by omega)
  have h5 : (n * 8 + s - 1) / s ≤ n * 8 + s - 1 := Int.ediv_le_self _ (by omega)
  unfold one
  omega
/-- bounds within which nothing wraps -/
structure Fit (s l n : Int) : Prop where
  s0 : 64 ≤ s
  s1 : s ≤ 1024
  l0 : 0 ≤ l
  l1 : l ≤ 4096
  n0 : 0 ≤ n
  n1 : n ≤ 16384
theorem Space_spec (s l n i : Int) (w : World) (hf : Fit s l n) :
    Gives Try.prog n_geom_Space #[gm s l n, i64 i] w (.agg #[i64 (spaceAt s l n i), i64 (spaceN s n i)]) := by
  obtain ⟨s0, s1, l0, l1, n0, n1⟩ := hf
  refine geom_Space_of ?_
  unfold geom_Space
  simp (disch := (first | omega | (simp only [World.size_alloc, World.size_setCell, World.size_drew, List.mem_cons, List.not_mem_nil, or_false, not_false_eq_true] <;> omega) | fail)) only [↓xBox_r, ↓loadK_some, ↓loadsK_s, ↓loadsK_n, ↓loadsR_s, ↓loadsR_n, ↓storesK_s, ↓storesK_n, setCells_c, setCells_n, World.setCell_alloc_at, World.setCell_alloc_past, World.cell?_alloc_at, World.cell?_alloc_past, 
      World.frozen?_alloc_at, World.frozen?_alloc_past, World.size_alloc, ↓xPick_t, ↓xPick_f, ↓xGuard_tt, ↓xGuard_ff, ↓xGuard_tf, ↓xGuard_ft, ↓xIf_t, tick_eq, tickV_eq, ne_eq, not_true_eq_false, Int.reduceEq, Int.reduceLT, Int.reduceLE, 
      Bool.false_and, Bool.true_and, Bool.and_true, Bool.and_false, ↓xBin_add', ↓xBin_sub', ↓xBin_mul', ↓xBin_quo', ↓xBin_rem', wrap_in, ↓xIf_f, ↓xIf_tt, ↓xEx0, ↓xEx1, ↓xEx2, ↓xEx3, ↓xBin_eqs, ↓xBin_nes, ↓xUn_not, ↓u8_add, 
      ↓u8_mul, ↓u8_neq, ↓u16_add, ↓u16_mul, ↓u16_neq, ↓u32_add, ↓u32_mul, ↓u32_neq, ↓u64_add, ↓u64_mul, ↓u64_neq, ↓i64_neq, ↓i64_neg, Int.toNat_natCast, Int.reduceToNat, Nat.reduceMul, Nat.reduceAdd, Nat.reduceSub, Nat.mul_one, 
      List.nil_append, List.cons_append, List.getElem?_toArray, List.getElem?_cons_zero, List.getElem?_cons_succ, cells_int, cells_bool, cells_string, cells_slice, cells_pointer, cells_agg, one_int, one_bool, one_string, one_slice, 
      one_pointer, List.setIfInBounds_toArray, List.set_cons_zero, List.set_cons_succ, ↓xDet_s, ↓xDet_ld, ↓xDet_ld2, ↓xDet_ld3, ↓xDet_ld4, World.size_drew, Nat.zero_add, cell_drew, frozen_drew, cell_set_eq, cell_set_o, cell_set_b, 
      Option.map_some, World.frozen?_setCell, decide_true, decide_false, List.not_mem_nil, not_false_eq_true, ↓xGuard_tt, Bool.not_true, Bool.not_false, ←decide_not, ↓ld_3, ↓ld_23, ↓lr_34, ↓fa_23_1, ↓al_34, ↓st_34, ↓bd_34_0_1, ↓bd_34, eq_self]
  have ho := one_le s n (by omega) n0
  by_cases h : i = 0 ∨ i = 1
  · rcases h with rfl | rfl
    all_goals
      simp (disch := (first | omega | (simp only [World.size_alloc, World.size_setCell, World.size_drew, List.mem_cons, List.not_mem_nil, or_false, not_false_eq_true] <;> omega) | fail)) only [↓xBox_r, ↓loadK_some, ↓loadsK_s, ↓loadsK_n, ↓loadsR_s, ↓loadsR_n, ↓storesK_s, ↓storesK_n, setCells_c, setCells_n, World.setCell_alloc_at, World.setCell_alloc_past, World.cell?_alloc_at, World.cell?_alloc_past, 
      World.frozen?_alloc_at, World.frozen?_alloc_past, World.size_alloc, ↓xPick_t, ↓xPick_f, ↓xGuard_tt, ↓xGuard_ff, ↓xGuard_tf, ↓xGuard_ft, ↓xIf_t, tick_eq, tickV_eq, ne_eq, not_true_eq_false, Int.reduceEq, Int.reduceLT, Int.reduceLE, 
      Bool.false_and, Bool.true_and, Bool.and_true, Bool.and_false, ↓xBin_add', ↓xBin_sub', ↓xBin_mul', ↓xBin_quo', ↓xBin_rem', wrap_in, ↓xIf_f, ↓xIf_tt, ↓xEx0, ↓xEx1, ↓xEx2, ↓xEx3, ↓xBin_eqs, ↓xBin_nes, ↓xUn_not, ↓u8_add, 
      ↓u8_mul, ↓u8_neq, ↓u16_add, ↓u16_mul, ↓u16_neq, ↓u32_add, ↓u32_mul, ↓u32_neq, ↓u64_add, ↓u64_mul, ↓u64_neq, ↓i64_neq, ↓i64_neg, Int.toNat_natCast, Int.reduceToNat, Nat.reduceMul, Nat.reduceAdd, Nat.reduceSub, Nat.mul_one, 
      List.nil_append, List.cons_append, List.getElem?_toArray, List.getElem?_cons_zero, List.getElem?_cons_succ, cells_int, cells_bool, cells_string, cells_slice, cells_pointer, cells_agg, one_int, one_bool, one_string, one_slice, 
      one_pointer, List.setIfInBounds_toArray, List.set_cons_zero, List.set_cons_succ, ↓xDet_s, ↓xDet_ld, ↓xDet_ld2, ↓xDet_ld3, ↓xDet_ld4, World.size_drew, Nat.zero_add, cell_drew, frozen_drew, cell_set_eq, cell_set_o, cell_set_b, 
      Option.map_some, World.frozen?_setCell, decide_true, decide_false, List.not_mem_nil, not_false_eq_true, ↓xGuard_tt, Bool.not_true, Bool.not_false, ←decide_not, ↓ld_3, ↓ld_23, ↓lr_34, ↓fa_23_1, ↓al_34, ↓st_34, ↓bd_34_0_1, ↓bd_34, ne_eq, not_true_eq_false, not_false_eq_true, Int.reduceEq, Int.reduceNeg]
      refine geom_Geom_sectors_call (Gives.to (sectors_spec _ _ _ _ (by omega) (by omega) (by omega) (by omega)) fun w1 E1 => ?_)
      change Ext [] _ w1 at E1
      have z1 := E1.size
      simp only [World.size_alloc] at z1
      rw [show (n * 8 + s - 1) / s + (n + 32 - 1) / 32 = one s n from rfl]
      have e : ∀ o, w1.cell? ⟨w.heap.size, o, none⟩ = _ := fun o => E1.cell_o (by simp; omega)
      have e' : ∀ o, w1.cell? ⟨w.heap.size + 1, o, none⟩ = _ := fun o => E1.cell_o (by simp)
      have f' : ∀ o, w1.frozen? ⟨w.heap.size + 1, o, none⟩ = _ := fun o => E1.frozen_o (by simp)
      simp (disch := (first | omega | (simp only [World.size_alloc, World.size_setCell, World.size_drew, List.mem_cons, List.not_mem_nil, or_false, not_false_eq_true] <;> omega) | fail)) only [↓xBox_r, ↓loadK_some, ↓loadsK_s, ↓loadsK_n, ↓loadsR_s, ↓loadsR_n, ↓storesK_s, ↓storesK_n, setCells_c, setCells_n, World.setCell_alloc_at, World.setCell_alloc_past, World.cell?_alloc_at, World.cell?_alloc_past, 
      World.frozen?_alloc_at, World.frozen?_alloc_past, World.size_alloc, ↓xPick_t, ↓xPick_f, ↓xGuard_tt, ↓xGuard_ff, ↓xGuard_tf, ↓xGuard_ft, ↓xIf_t, tick_eq, tickV_eq, ne_eq, not_true_eq_false, Int.reduceEq, Int.reduceLT, Int.reduceLE, 
      Bool.false_and, Bool.true_and, Bool.and_true, Bool.and_false, ↓xBin_add', ↓xBin_sub', ↓xBin_mul', ↓xBin_quo', ↓xBin_rem', wrap_in, ↓xIf_f, ↓xIf_tt, ↓xEx0, ↓xEx1, ↓xEx2, ↓xEx3, ↓xBin_eqs, ↓xBin_nes, ↓xUn_not, ↓u8_add, 
      ↓u8_mul, ↓u8_neq, ↓u16_add, ↓u16_mul, ↓u16_neq, ↓u32_add, ↓u32_mul, ↓u32_neq, ↓u64_add, ↓u64_mul, ↓u64_neq, ↓i64_neq, ↓i64_neg, Int.toNat_natCast, Int.reduceToNat, Nat.reduceMul, Nat.reduceAdd, Nat.reduceSub, Nat.mul_one, 
      List.nil_append, List.cons_append, List.getElem?_toArray, List.getElem?_cons_zero, List.getElem?_cons_succ, cells_int, cells_bool, cells_string, cells_slice, cells_pointer, cells_agg, one_int, one_bool, one_string, one_slice, 
      one_pointer, List.setIfInBounds_toArray, List.set_cons_zero, List.set_cons_succ, ↓xDet_s, ↓xDet_ld, ↓xDet_ld2, ↓xDet_ld3, ↓xDet_ld4, World.size_drew, Nat.zero_add, cell_drew, frozen_drew, cell_set_eq, cell_set_o, cell_set_b, 
      Option.map_some, World.frozen?_setCell, decide_true, decide_false, List.not_mem_nil, not_false_eq_true, ↓xGuard_tt, Bool.not_true, Bool.not_false, ←decide_not, ↓ld_3, ↓ld_23, ↓lr_34, ↓fa_23_1, ↓al_34, ↓st_34, ↓bd_34_0_1, ↓bd_34, e, e', f']
      refine ⟨by simp [spaceAt, spaceN], ?_⟩
      (repeat (first | exact Ext.refl _ _ | refine Ext.alloc' ?_ _ | refine Ext.drew' ?_ | refine Ext.set' ?_ (.inr (by first | omega | (simp only [World.size_alloc, World.size_drew, World.size_setCell] <;> omega))) | assumption | refine Ext.trans ?_ (by assumption)))
  · have h1 : i ≠ 0 := by omega
    have h2 : i ≠ 1 := by omega
    simp (disch := (first | omega | (simp only [World.size_alloc, World.size_setCell, World.size_drew, List.mem_cons, List.not_mem_nil, or_false, not_false_eq_true] <;> omega) | fail)) only [↓xBox_r, ↓loadK_some, ↓loadsK_s, ↓loadsK_n, ↓loadsR_s, ↓loadsR_n, ↓storesK_s, ↓storesK_n, setCells_c, setCells_n, World.setCell_alloc_at, World.setCell_alloc_past, World.cell?_alloc_at, World.cell?_alloc_past, 
      World.frozen?_alloc_at, World.frozen?_alloc_past, World.size_alloc, ↓xPick_t, ↓xPick_f, ↓xGuard_tt, ↓xGuard_ff, ↓xGuard_tf, ↓xGuard_ft, ↓xIf_t, tick_eq, tickV_eq, ne_eq, not_true_eq_false, Int.reduceEq, Int.reduceLT, Int.reduceLE, 
      Bool.false_and, Bool.true_and, Bool.and_true, Bool.and_false, ↓xBin_add', ↓xBin_sub', ↓xBin_mul', ↓xBin_quo', ↓xBin_rem', wrap_in, ↓xIf_f, ↓xIf_tt, ↓xEx0, ↓xEx1, ↓xEx2, ↓xEx3, ↓xBin_eqs, ↓xBin_nes, ↓xUn_not, ↓u8_add, 
      ↓u8_mul, ↓u8_neq, ↓u16_add, ↓u16_mul, ↓u16_neq, ↓u32_add, ↓u32_mul, ↓u32_neq, ↓u64_add, ↓u64_mul, ↓u64_neq, ↓i64_neq, ↓i64_neg, Int.toNat_natCast, Int.reduceToNat, Nat.reduceMul, Nat.reduceAdd, Nat.reduceSub, Nat.mul_one, 
      List.nil_append, List.cons_append, List.getElem?_toArray, List.getElem?_cons_zero, List.getElem?_cons_succ, cells_int, cells_bool, cells_string, cells_slice, cells_pointer, cells_agg, one_int, one_bool, one_string, one_slice, 
      one_pointer, List.setIfInBounds_toArray, List.set_cons_zero, List.set_cons_succ, ↓xDet_s, ↓xDet_ld, ↓xDet_ld2, ↓xDet_ld3, ↓xDet_ld4, World.size_drew, Nat.zero_add, cell_drew, frozen_drew, cell_set_eq, cell_set_o, cell_set_b, 
      Option.map_some, World.frozen?_setCell, decide_true, decide_false, List.not_mem_nil, not_false_eq_true, ↓xGuard_tt, Bool.not_true, Bool.not_false, ←decide_not, ↓ld_3, ↓ld_23, ↓lr_34, ↓fa_23_1, ↓al_34, ↓st_34, ↓bd_34_0_1, ↓bd_34, h1, h2, ne_eq, not_true_eq_false, not_false_eq_true]
    refine ⟨by simp [spaceAt, spaceN, h1, h2], ?_⟩
    (repeat (first | exact Ext.refl _ _ | refine Ext.alloc' ?_ _ | refine Ext.drew' ?_ | refine Ext.set' ?_ (.inr (by first | omega | (simp only [World.size_alloc, World.size_drew, World.size_setCell] <;> omega))) | assumption | refine Ext.trans ?_ (by assumption)))

def wordAt (s l n i x : Int) : Int := if (i = 0 ∨ i = 1) ∧ 0 ≤ x ∧ x < n then spaceAt s l n i + x * 8 / s else 0
def wordOff (s n i x : Int) : Int := if (i = 0 ∨ i = 1) ∧ 0 ≤ x ∧ x < n then x * 8 % s else 0
theorem spaceAt_le (s l n i : Int) (hf : Fit s l n) : 0 ≤ spaceAt s l n i ∧ spaceAt s l n i ≤ 1000000 ∧ ((i = 0 ∨ i = 1) → 2 ≤ spaceAt s l n i) := by
  obtain ⟨s0, s1, l0, l1, n0, n1⟩ := hf
  have ho := one_le s n (by omega) n0
  unfold spaceAt
  split
  · rename_i h
    rcases h with rfl | rfl <;> omega
  · omega
theorem Word_spec (s l n i x : Int) (w : World) (hf : Fit s l n) :
    Gives Try.prog n_geom_Word #[gm s l n, i64 i, i64 x] w (.tuple #[i64 (wordAt s l n i x), i64 (wordOff s n i x)]) := by
  have hf' := hf
  obtain ⟨s0, s1, l0, l1, n0, n1⟩ := hf
  refine geom_Word_of ?_
  unfold geom_Word
  simp (disch := (first | omega | (simp only [World.size_alloc, World.size_setCell, World.size_drew, List.mem_cons, List.not_mem_nil, or_false, not_false_eq_true] <;> omega) | fail)) only [↓xBox_r, ↓loadK_some, ↓loadsK_s, ↓loadsK_n, ↓loadsR_s, ↓loadsR_n, ↓storesK_s, ↓storesK_n, setCells_c, setCells_n, World.setCell_alloc_at, World.setCell_alloc_past, World.cell?_alloc_at, World.cell?_alloc_past, 
      World.frozen?_alloc_at, World.frozen?_alloc_past, World.size_alloc, ↓xPick_t, ↓xPick_f, ↓xGuard_tt, ↓xGuard_ff, ↓xGuard_tf, ↓xGuard_ft, ↓xIf_t, tick_eq, tickV_eq, ne_eq, not_true_eq_false, Int.reduceEq, Int.reduceLT, Int.reduceLE, 
      Bool.false_and, Bool.true_and, Bool.and_true, Bool.and_false, ↓xBin_add', ↓xBin_sub', ↓xBin_mul', ↓xBin_quo', ↓xBin_rem', wrap_in, ↓xIf_f, ↓xIf_tt, ↓xEx0, ↓xEx1, ↓xEx2, ↓xEx3, ↓xBin_eqs, ↓xBin_nes, ↓xUn_not, ↓u8_add, 
      ↓u8_mul, ↓u8_rem, ↓u8_quo, ↓u8_eql, ↓u8_lss, ↓u8_geq, ↓u16_add, ↓u16_mul, ↓u16_rem, ↓u16_quo, ↓u16_eql, ↓u16_lss, ↓u16_geq, ↓u32_add, ↓u32_mul, ↓u32_rem, ↓u32_quo, ↓u32_eql, ↓u32_lss, ↓u32_geq, ↓u64_add, ↓u64_mul, 
      ↓u64_rem, ↓u64_quo, ↓u64_eql, ↓u64_lss, ↓u64_geq, ↓i64_lss, ↓i64_geq, ↓i64_eql, Int.toNat_natCast, Int.reduceToNat, Nat.reduceMul, Nat.reduceAdd, Nat.reduceSub, Nat.mul_one, List.nil_append, List.cons_append, List.getElem?_toArray, 
      List.getElem?_cons_zero, List.getElem?_cons_succ, cells_int, cells_bool, cells_string, cells_slice, cells_pointer, cells_agg, one_int, one_bool, one_string, one_slice, one_pointer, List.setIfInBounds_toArray, List.set_cons_zero, 
      List.set_cons_succ, ↓xDet_s, ↓xDet_ld, ↓xDet_ld2, ↓xDet_ld3, ↓xDet_ld4, World.size_drew, Nat.zero_add, cell_drew, frozen_drew, cell_set_eq, cell_set_o, cell_set_b, Option.map_some, World.frozen?_setCell, decide_true, decide_false, 
      List.not_mem_nil, not_false_eq_true, ↓xGuard_tt, Bool.not_true, Bool.not_false, ←decide_not, ↓ld_3, ↓ld_23, ↓ld_34, ↓fa_23_0, ↓fa_23_2, ↓fa_34_0, ↓al_34, ↓st_34, ↓bd_34_0_1, ↓bd_34, ↓es_34, eq_self]
  refine geom_Space_call (Gives.to (Space_spec _ _ _ _ _ hf') fun w1 E1 => ?_)
  change Ext [] _ w1 at E1
  have z1 := E1.size
  simp only [World.size_alloc] at z1
  have e : ∀ o, w1.cell? ⟨w.heap.size, o, none⟩ = _ := fun o => E1.cell_o (by simp)
  have hs := spaceAt_le s l n i hf'
  simp (disch := (first | omega | (simp only [World.size_alloc, World.size_setCell, World.size_drew, List.mem_cons, List.not_mem_nil, or_false, not_false_eq_true] <;> omega) | fail)) only [↓xBox_r, ↓loadK_some, ↓loadsK_s, ↓loadsK_n, ↓loadsR_s, ↓loadsR_n, ↓storesK_s, ↓storesK_n, setCells_c, setCells_n, World.setCell_alloc_at, World.setCell_alloc_past, World.cell?_alloc_at, World.cell?_alloc_past, 
      World.frozen?_alloc_at, World.frozen?_alloc_past, World.size_alloc, ↓xPick_t, ↓xPick_f, ↓xGuard_tt, ↓xGuard_ff, ↓xGuard_tf, ↓xGuard_ft, ↓xIf_t, tick_eq, tickV_eq, ne_eq, not_true_eq_false, Int.reduceEq, Int.reduceLT, Int.reduceLE, 
      Bool.false_and, Bool.true_and, Bool.and_true, Bool.and_false, ↓xBin_add', ↓xBin_sub', ↓xBin_mul', ↓xBin_quo', ↓xBin_rem', wrap_in, ↓xIf_f, ↓xIf_tt, ↓xEx0, ↓xEx1, ↓xEx2, ↓xEx3, ↓xBin_eqs, ↓xBin_nes, ↓xUn_not, ↓u8_add, 
      ↓u8_mul, ↓u8_rem, ↓u8_quo, ↓u8_eql, ↓u8_lss, ↓u8_geq, ↓u16_add, ↓u16_mul, ↓u16_rem, ↓u16_quo, ↓u16_eql, ↓u16_lss, ↓u16_geq, ↓u32_add, ↓u32_mul, ↓u32_rem, ↓u32_quo, ↓u32_eql, ↓u32_lss, ↓u32_geq, ↓u64_add, ↓u64_mul, 
      ↓u64_rem, ↓u64_quo, ↓u64_eql, ↓u64_lss, ↓u64_geq, ↓i64_lss, ↓i64_geq, ↓i64_eql, Int.toNat_natCast, Int.reduceToNat, Nat.reduceMul, Nat.reduceAdd, Nat.reduceSub, Nat.mul_one, List.nil_append, List.cons_append, List.getElem?_toArray, 
      List.getElem?_cons_zero, List.getElem?_cons_succ, cells_int, cells_bool, cells_string, cells_slice, cells_pointer, cells_agg, one_int, one_bool, one_string, one_slice, one_pointer, List.setIfInBounds_toArray, List.set_cons_zero, 
      List.set_cons_succ, ↓xDet_s, ↓xDet_ld, ↓xDet_ld2, ↓xDet_ld3, ↓xDet_ld4, World.size_drew, Nat.zero_add, cell_drew, frozen_drew, cell_set_eq, cell_set_o, cell_set_b, Option.map_some, World.frozen?_setCell, decide_true, decide_false, 
      List.not_mem_nil, not_false_eq_true, ↓xGuard_tt, Bool.not_true, Bool.not_false, ←decide_not, ↓ld_3, ↓ld_23, ↓ld_34, ↓fa_23_0, ↓fa_23_2, ↓fa_34_0, ↓al_34, ↓st_34, ↓bd_34_0_1, ↓bd_34, ↓es_34, e]
  by_cases h : i = 0 ∨ i = 1
  · have hz : ¬ spaceAt s l n i = 0 := by omega
    by_cases hx : 0 ≤ x ∧ x < n
    · have hx1 : ¬ x < 0 := by omega
      have hx2 : ¬ n ≤ x := by omega
      have hq : 0 ≤ x * 8 / s := Int.ediv_nonneg (by omega) (by omega)
      have hq1 : x * 8 / s ≤ x * 8 := Int.ediv_le_self _ (by omega)
      simp (disch := (first | omega | (simp only [World.size_alloc, World.size_setCell, World.size_drew, List.mem_cons, List.not_mem_nil, or_false, not_false_eq_true] <;> omega) | fail)) only [↓xBox_r, ↓loadK_some, ↓loadsK_s, ↓loadsK_n, ↓loadsR_s, ↓loadsR_n, ↓storesK_s, ↓storesK_n, setCells_c, setCells_n, World.setCell_alloc_at, World.setCell_alloc_past, World.cell?_alloc_at, World.cell?_alloc_past, 
      World.frozen?_alloc_at, World.frozen?_alloc_past, World.size_alloc, ↓xPick_t, ↓xPick_f, ↓xGuard_tt, ↓xGuard_ff, ↓xGuard_tf, ↓xGuard_ft, ↓xIf_t, tick_eq, tickV_eq, ne_eq, not_true_eq_false, Int.reduceEq, Int.reduceLT, Int.reduceLE, 
      Bool.false_and, Bool.true_and, Bool.and_true, Bool.and_false, ↓xBin_add', ↓xBin_sub', ↓xBin_mul', ↓xBin_quo', ↓xBin_rem', wrap_in, ↓xIf_f, ↓xIf_tt, ↓xEx0, ↓xEx1, ↓xEx2, ↓xEx3, ↓xBin_eqs, ↓xBin_nes, ↓xUn_not, ↓u8_add, 
      ↓u8_mul, ↓u8_rem, ↓u8_quo, ↓u8_eql, ↓u8_lss, ↓u8_geq, ↓u16_add, ↓u16_mul, ↓u16_rem, ↓u16_quo, ↓u16_eql, ↓u16_lss, ↓u16_geq, ↓u32_add, ↓u32_mul, ↓u32_rem, ↓u32_quo, ↓u32_eql, ↓u32_lss, ↓u32_geq, ↓u64_add, ↓u64_mul, 
      ↓u64_rem, ↓u64_quo, ↓u64_eql, ↓u64_lss, ↓u64_geq, ↓i64_lss, ↓i64_geq, ↓i64_eql, Int.toNat_natCast, Int.reduceToNat, Nat.reduceMul, Nat.reduceAdd, Nat.reduceSub, Nat.mul_one, List.nil_append, List.cons_append, List.getElem?_toArray, 
      List.getElem?_cons_zero, List.getElem?_cons_succ, cells_int, cells_bool, cells_string, cells_slice, cells_pointer, cells_agg, one_int, one_bool, one_string, one_slice, one_pointer, List.setIfInBounds_toArray, List.set_cons_zero, 
      List.set_cons_succ, ↓xDet_s, ↓xDet_ld, ↓xDet_ld2, ↓xDet_ld3, ↓xDet_ld4, World.size_drew, Nat.zero_add, cell_drew, frozen_drew, cell_set_eq, cell_set_o, cell_set_b, Option.map_some, World.frozen?_setCell, decide_true, decide_false, 
      List.not_mem_nil, not_false_eq_true, ↓xGuard_tt, Bool.not_true, Bool.not_false, ←decide_not, ↓ld_3, ↓ld_23, ↓ld_34, ↓fa_23_0, ↓fa_23_2, ↓fa_34_0, ↓al_34, ↓st_34, ↓bd_34_0_1, ↓bd_34, ↓es_34, e, hz, hx1, hx2, Bool.false_and]
      refine xDraw_ext [] [] ?_
      simp (disch := (first | omega | (simp only [World.size_alloc, World.size_setCell, World.size_drew, List.mem_cons, List.not_mem_nil, or_false, not_false_eq_true] <;> omega) | fail)) only [↓xBox_r, ↓loadK_some, ↓loadsK_s, ↓loadsK_n, ↓loadsR_s, ↓loadsR_n, ↓storesK_s, ↓storesK_n, setCells_c, setCells_n, World.setCell_alloc_at, World.setCell_alloc_past, World.cell?_alloc_at, World.cell?_alloc_past, 
      World.frozen?_alloc_at, World.frozen?_alloc_past, World.size_alloc, ↓xPick_t, ↓xPick_f, ↓xGuard_tt, ↓xGuard_ff, ↓xGuard_tf, ↓xGuard_ft, ↓xIf_t, tick_eq, tickV_eq, ne_eq, not_true_eq_false, Int.reduceEq, Int.reduceLT, Int.reduceLE, 
      Bool.false_and, Bool.true_and, Bool.and_true, Bool.and_false, ↓xBin_add', ↓xBin_sub', ↓xBin_mul', ↓xBin_quo', ↓xBin_rem', wrap_in, ↓xIf_f, ↓xIf_tt, ↓xEx0, ↓xEx1, ↓xEx2, ↓xEx3, ↓xBin_eqs, ↓xBin_nes, ↓xUn_not, ↓u8_add, 
      ↓u8_mul, ↓u8_rem, ↓u8_quo, ↓u8_eql, ↓u8_lss, ↓u8_geq, ↓u16_add, ↓u16_mul, ↓u16_rem, ↓u16_quo, ↓u16_eql, ↓u16_lss, ↓u16_geq, ↓u32_add, ↓u32_mul, ↓u32_rem, ↓u32_quo, ↓u32_eql, ↓u32_lss, ↓u32_geq, ↓u64_add, ↓u64_mul, 
      ↓u64_rem, ↓u64_quo, ↓u64_eql, ↓u64_lss, ↓u64_geq, ↓i64_lss, ↓i64_geq, ↓i64_eql, Int.toNat_natCast, Int.reduceToNat, Nat.reduceMul, Nat.reduceAdd, Nat.reduceSub, Nat.mul_one, List.nil_append, List.cons_append, List.getElem?_toArray, 
      List.getElem?_cons_zero, List.getElem?_cons_succ, cells_int, cells_bool, cells_string, cells_slice, cells_pointer, cells_agg, one_int, one_bool, one_string, one_slice, one_pointer, List.setIfInBounds_toArray, List.set_cons_zero, 
      List.set_cons_succ, ↓xDet_s, ↓xDet_ld, ↓xDet_ld2, ↓xDet_ld3, ↓xDet_ld4, World.size_drew, Nat.zero_add, cell_drew, frozen_drew, cell_set_eq, cell_set_o, cell_set_b, Option.map_some, World.frozen?_setCell, decide_true, decide_false, 
      List.not_mem_nil, not_false_eq_true, ↓xGuard_tt, Bool.not_true, Bool.not_false, ←decide_not, ↓ld_3, ↓ld_23, ↓ld_34, ↓fa_23_0, ↓fa_23_2, ↓fa_34_0, ↓al_34, ↓st_34, ↓bd_34_0_1, ↓bd_34, ↓es_34, e]
      refine xEnd_i fun w2 hw => ⟨by simp [wordAt, wordOff, h, hx], ?_⟩
      refine Ext.trans ?_ hw.ext
      (repeat (first | exact Ext.refl _ _ | refine Ext.alloc' ?_ _ | refine Ext.drew' ?_ | refine Ext.set' ?_ (.inr (by first | omega | (simp only [World.size_alloc, World.size_drew, World.size_setCell] <;> omega))) | assumption | refine Ext.trans ?_ (by assumption)))
    · have hw : ((decide (x < 0)) || decide (n ≤ x)) = true := by simp; omega
      by_cases hx1 : x < 0
      · simp (disch := (first | omega | (simp only [World.size_alloc, World.size_setCell, World.size_drew, List.mem_cons, List.not_mem_nil, or_false, not_false_eq_true] <;> omega) | fail)) only [↓xBox_r, ↓loadK_some, ↓loadsK_s, ↓loadsK_n, ↓loadsR_s, ↓loadsR_n, ↓storesK_s, ↓storesK_n, setCells_c, setCells_n, World.setCell_alloc_at, World.setCell_alloc_past, World.cell?_alloc_at, World.cell?_alloc_past, 
      World.frozen?_alloc_at, World.frozen?_alloc_past, World.size_alloc, ↓xPick_t, ↓xPick_f, ↓xGuard_tt, ↓xGuard_ff, ↓xGuard_tf, ↓xGuard_ft, ↓xIf_t, tick_eq, tickV_eq, ne_eq, not_true_eq_false, Int.reduceEq, Int.reduceLT, Int.reduceLE, 
      Bool.false_and, Bool.true_and, Bool.and_true, Bool.and_false, ↓xBin_add', ↓xBin_sub', ↓xBin_mul', ↓xBin_quo', ↓xBin_rem', wrap_in, ↓xIf_f, ↓xIf_tt, ↓xEx0, ↓xEx1, ↓xEx2, ↓xEx3, ↓xBin_eqs, ↓xBin_nes, ↓xUn_not, ↓u8_add, 
      ↓u8_mul, ↓u8_rem, ↓u8_quo, ↓u8_eql, ↓u8_lss, ↓u8_geq, ↓u16_add, ↓u16_mul, ↓u16_rem, ↓u16_quo, ↓u16_eql, ↓u16_lss, ↓u16_geq, ↓u32_add, ↓u32_mul, ↓u32_rem, ↓u32_quo, ↓u32_eql, ↓u32_lss, ↓u32_geq, ↓u64_add, ↓u64_mul, 
      ↓u64_rem, ↓u64_quo, ↓u64_eql, ↓u64_lss, ↓u64_geq, ↓i64_lss, ↓i64_geq, ↓i64_eql, Int.toNat_natCast, Int.reduceToNat, Nat.reduceMul, Nat.reduceAdd, Nat.reduceSub, Nat.mul_one, List.nil_append, List.cons_append, List.getElem?_toArray, 
      List.getElem?_cons_zero, List.getElem?_cons_succ, cells_int, cells_bool, cells_string, cells_slice, cells_pointer, cells_agg, one_int, one_bool, one_string, one_slice, one_pointer, List.setIfInBounds_toArray, List.set_cons_zero, 
      List.set_cons_succ, ↓xDet_s, ↓xDet_ld, ↓xDet_ld2, ↓xDet_ld3, ↓xDet_ld4, World.size_drew, Nat.zero_add, cell_drew, frozen_drew, cell_set_eq, cell_set_o, cell_set_b, Option.map_some, World.frozen?_setCell, decide_true, decide_false, 
      List.not_mem_nil, not_false_eq_true, ↓xGuard_tt, Bool.not_true, Bool.not_false, ←decide_not, ↓ld_3, ↓ld_23, ↓ld_34, ↓fa_23_0, ↓fa_23_2, ↓fa_34_0, ↓al_34, ↓st_34, ↓bd_34_0_1, ↓bd_34, ↓es_34, e, hz, hx1, Bool.false_and]
        refine ⟨by simp [wordAt, wordOff, hx], ?_⟩
        (repeat (first | exact Ext.refl _ _ | refine Ext.alloc' ?_ _ | refine Ext.drew' ?_ | refine Ext.set' ?_ (.inr (by first | omega | (simp only [World.size_alloc, World.size_drew, World.size_setCell] <;> omega))) | assumption | refine Ext.trans ?_ (by assumption)))
      · have hx2 : n ≤ x := by omega
        simp (disch := (first | omega | (simp only [World.size_alloc, World.size_setCell, World.size_drew, List.mem_cons, List.not_mem_nil, or_false, not_false_eq_true] <;> omega) | fail)) only [↓xBox_r, ↓loadK_some, ↓loadsK_s, ↓loadsK_n, ↓loadsR_s, ↓loadsR_n, ↓storesK_s, ↓storesK_n, setCells_c, setCells_n, World.setCell_alloc_at, World.setCell_alloc_past, World.cell?_alloc_at, World.cell?_alloc_past, 
      World.frozen?_alloc_at, World.frozen?_alloc_past, World.size_alloc, ↓xPick_t, ↓xPick_f, ↓xGuard_tt, ↓xGuard_ff, ↓xGuard_tf, ↓xGuard_ft, ↓xIf_t, tick_eq, tickV_eq, ne_eq, not_true_eq_false, Int.reduceEq, Int.reduceLT, Int.reduceLE, 
      Bool.false_and, Bool.true_and, Bool.and_true, Bool.and_false, ↓xBin_add', ↓xBin_sub', ↓xBin_mul', ↓xBin_quo', ↓xBin_rem', wrap_in, ↓xIf_f, ↓xIf_tt, ↓xEx0, ↓xEx1, ↓xEx2, ↓xEx3, ↓xBin_eqs, ↓xBin_nes, ↓xUn_not, ↓u8_add, 
      ↓u8_mul, ↓u8_rem, ↓u8_quo, ↓u8_eql, ↓u8_lss, ↓u8_geq, ↓u16_add, ↓u16_mul, ↓u16_rem, ↓u16_quo, ↓u16_eql, ↓u16_lss, ↓u16_geq, ↓u32_add, ↓u32_mul, ↓u32_rem, ↓u32_quo, ↓u32_eql, ↓u32_lss, ↓u32_geq, ↓u64_add, ↓u64_mul, 
      ↓u64_rem, ↓u64_quo, ↓u64_eql, ↓u64_lss, ↓u64_geq, ↓i64_lss, ↓i64_geq, ↓i64_eql, Int.toNat_natCast, Int.reduceToNat, Nat.reduceMul, Nat.reduceAdd, Nat.reduceSub, Nat.mul_one, List.nil_append, List.cons_append, List.getElem?_toArray, 
      List.getElem?_cons_zero, List.getElem?_cons_succ, cells_int, cells_bool, cells_string, cells_slice, cells_pointer, cells_agg, one_int, one_bool, one_string, one_slice, one_pointer, List.setIfInBounds_toArray, List.set_cons_zero, 
      List.set_cons_succ, ↓xDet_s, ↓xDet_ld, ↓xDet_ld2, ↓xDet_ld3, ↓xDet_ld4, World.size_drew, Nat.zero_add, cell_drew, frozen_drew, cell_set_eq, cell_set_o, cell_set_b, Option.map_some, World.frozen?_setCell, decide_true, decide_false, 
      List.not_mem_nil, not_false_eq_true, ↓xGuard_tt, Bool.not_true, Bool.not_false, ←decide_not, ↓ld_3, ↓ld_23, ↓ld_34, ↓fa_23_0, ↓fa_23_2, ↓fa_34_0, ↓al_34, ↓st_34, ↓bd_34_0_1, ↓bd_34, ↓es_34, e, hz, hx1, hx2, Bool.false_and]
        refine ⟨by simp [wordAt, wordOff, hx], ?_⟩
        (repeat (first | exact Ext.refl _ _ | refine Ext.alloc' ?_ _ | refine Ext.drew' ?_ | refine Ext.set' ?_ (.inr (by first | omega | (simp only [World.size_alloc, World.size_drew, World.size_setCell] <;> omega))) | assumption | refine Ext.trans ?_ (by assumption)))
  · have h0 : spaceAt s l n i = 0 := by simp [spaceAt, h]
    have h1 : spaceN s n i = 0 := by simp [spaceN, h]
    simp (disch := (first | omega | (simp only [World.size_alloc, World.size_setCell, World.size_drew, List.mem_cons, List.not_mem_nil, or_false, not_false_eq_true] <;> omega) | fail)) only [↓xBox_r, ↓loadK_some, ↓loadsK_s, ↓loadsK_n, ↓loadsR_s, ↓loadsR_n, ↓storesK_s, ↓storesK_n, setCells_c, setCells_n, World.setCell_alloc_at, World.setCell_alloc_past, World.cell?_alloc_at, World.cell?_alloc_past, 
      World.frozen?_alloc_at, World.frozen?_alloc_past, World.size_alloc, ↓xPick_t, ↓xPick_f, ↓xGuard_tt, ↓xGuard_ff, ↓xGuard_tf, ↓xGuard_ft, ↓xIf_t, tick_eq, tickV_eq, ne_eq, not_true_eq_false, Int.reduceEq, Int.reduceLT, Int.reduceLE, 
      Bool.false_and, Bool.true_and, Bool.and_true, Bool.and_false, ↓xBin_add', ↓xBin_sub', ↓xBin_mul', ↓xBin_quo', ↓xBin_rem', wrap_in, ↓xIf_f, ↓xIf_tt, ↓xEx0, ↓xEx1, ↓xEx2, ↓xEx3, ↓xBin_eqs, ↓xBin_nes, ↓xUn_not, ↓u8_add, 
      ↓u8_mul, ↓u8_rem, ↓u8_quo, ↓u8_eql, ↓u8_lss, ↓u8_geq, ↓u16_add, ↓u16_mul, ↓u16_rem, ↓u16_quo, ↓u16_eql, ↓u16_lss, ↓u16_geq, ↓u32_add, ↓u32_mul, ↓u32_rem, ↓u32_quo, ↓u32_eql, ↓u32_lss, ↓u32_geq, ↓u64_add, ↓u64_mul, 
      ↓u64_rem, ↓u64_quo, ↓u64_eql, ↓u64_lss, ↓u64_geq, ↓i64_lss, ↓i64_geq, ↓i64_eql, Int.toNat_natCast, Int.reduceToNat, Nat.reduceMul, Nat.reduceAdd, Nat.reduceSub, Nat.mul_one, List.nil_append, List.cons_append, List.getElem?_toArray, 
      List.getElem?_cons_zero, List.getElem?_cons_succ, cells_int, cells_bool, cells_string, cells_slice, cells_pointer, cells_agg, one_int, one_bool, one_string, one_slice, one_pointer, List.setIfInBounds_toArray, List.set_cons_zero, 
      List.set_cons_succ, ↓xDet_s, ↓xDet_ld, ↓xDet_ld2, ↓xDet_ld3, ↓xDet_ld4, World.size_drew, Nat.zero_add, cell_drew, frozen_drew, cell_set_eq, cell_set_o, cell_set_b, Option.map_some, World.frozen?_setCell, decide_true, decide_false, 
      List.not_mem_nil, not_false_eq_true, ↓xGuard_tt, Bool.not_true, Bool.not_false, ←decide_not, ↓ld_3, ↓ld_23, ↓ld_34, ↓fa_23_0, ↓fa_23_2, ↓fa_34_0, ↓al_34, ↓st_34, ↓bd_34_0_1, ↓bd_34, ↓es_34, e, h0, h1, Bool.true_and]
    refine ⟨by simp [wordAt, wordOff, h], ?_⟩
    (repeat (first | exact Ext.refl _ _ | refine Ext.alloc' ?_ _ | refine Ext.drew' ?_ | refine Ext.set' ?_ (.inr (by first | omega | (simp only [World.size_alloc, World.size_drew, World.size_setCell] <;> omega))) | assumption | refine Ext.trans ?_ (by assumption)))

theorem has_spec (a n x : Int) (w : World) (h0 : 0 ≤ a) (h1 : a ≤ 10000000) (h2 : 0 ≤ n) (h3 : n ≤ 10000000) :
    Gives Try.prog n_geom_Place_has #[.agg #[i64 a, i64 n], i64 x] w (.bool (decide (a ≤ x ∧ x < a + n))) := by
  refine geom_Place_has_of ?_
  unfold geom_Place_has
  simp (disch := (first | omega | (simp only [World.size_alloc, World.size_setCell, World.size_drew, List.mem_cons, List.not_mem_nil, or_false, not_false_eq_true] <;> omega) | fail)) only [↓xBox_r, ↓loadK_some, ↓loadsK_s, ↓loadsK_n, ↓loadsR_s, ↓loadsR_n, ↓storesK_s, ↓storesK_n, setCells_c, setCells_n, World.setCell_alloc_at, World.setCell_alloc_past, World.cell?_alloc_at, World.cell?_alloc_past, 
      World.frozen?_alloc_at, World.frozen?_alloc_past, World.size_alloc, ↓xPick_t, ↓xPick_f, ↓xGuard_tt, ↓xGuard_ff, ↓xGuard_tf, ↓xGuard_ft, ↓xIf_t, tick_eq, tickV_eq, ne_eq, not_true_eq_false, Int.reduceEq, Int.reduceLT, Int.reduceLE, 
      Bool.false_and, Bool.true_and, Bool.and_true, Bool.and_false, ↓xBin_add', ↓xBin_sub', ↓xBin_mul', ↓xBin_quo', ↓xBin_rem', wrap_in, ↓xIf_f, ↓xIf_tt, ↓xEx0, ↓xEx1, ↓xEx2, ↓xEx3, ↓xBin_eqs, ↓xBin_nes, ↓xUn_not, ↓u8_add, 
      ↓u8_lss, ↓u8_geq, ↓u16_add, ↓u16_lss, ↓u16_geq, ↓u32_add, ↓u32_lss, ↓u32_geq, ↓u64_add, ↓u64_lss, ↓u64_geq, ↓i64_lss, ↓i64_geq, Int.toNat_natCast, Int.reduceToNat, Nat.reduceMul, Nat.reduceAdd, Nat.reduceSub, Nat.mul_one, 
      List.nil_append, List.cons_append, List.getElem?_toArray, List.getElem?_cons_zero, List.getElem?_cons_succ, cells_int, cells_bool, cells_string, cells_slice, cells_pointer, cells_agg, one_int, one_bool, one_string, one_slice, 
      one_pointer, List.setIfInBounds_toArray, List.set_cons_zero, List.set_cons_succ, ↓xDet_s, ↓xDet_ld, ↓xDet_ld2, ↓xDet_ld3, ↓xDet_ld4, World.size_drew, Nat.zero_add, cell_drew, frozen_drew, cell_set_eq, cell_set_o, cell_set_b, 
      Option.map_some, World.frozen?_setCell, decide_true, decide_false, List.not_mem_nil, not_false_eq_true, ↓xGuard_tt, Bool.not_true, Bool.not_false, ←decide_not, ↓ld_3, ↓fa_34_0, ↓fa_34_1, eq_self]
  by_cases h : a ≤ x
  · simp (disch := (first | omega | (simp only [World.size_alloc, World.size_setCell, World.size_drew, List.mem_cons, List.not_mem_nil, or_false, not_false_eq_true] <;> omega) | fail)) only [↓xBox_r, ↓loadK_some, ↓loadsK_s, ↓loadsK_n, ↓loadsR_s, ↓loadsR_n, ↓storesK_s, ↓storesK_n, setCells_c, setCells_n, World.setCell_alloc_at, World.setCell_alloc_past, World.cell?_alloc_at, World.cell?_alloc_past, 
      World.frozen?_alloc_at, World.frozen?_alloc_past, World.size_alloc, ↓xPick_t, ↓xPick_f, ↓xGuard_tt, ↓xGuard_ff, ↓xGuard_tf, ↓xGuard_ft, ↓xIf_t, tick_eq, tickV_eq, ne_eq, not_true_eq_false, Int.reduceEq, Int.reduceLT, Int.reduceLE, 
      Bool.false_and, Bool.true_and, Bool.and_true, Bool.and_false, ↓xBin_add', ↓xBin_sub', ↓xBin_mul', ↓xBin_quo', ↓xBin_rem', wrap_in, ↓xIf_f, ↓xIf_tt, ↓xEx0, ↓xEx1, ↓xEx2, ↓xEx3, ↓xBin_eqs, ↓xBin_nes, ↓xUn_not, ↓u8_add, 
      ↓u8_lss, ↓u8_geq, ↓u16_add, ↓u16_lss, ↓u16_geq, ↓u32_add, ↓u32_lss, ↓u32_geq, ↓u64_add, ↓u64_lss, ↓u64_geq, ↓i64_lss, ↓i64_geq, Int.toNat_natCast, Int.reduceToNat, Nat.reduceMul, Nat.reduceAdd, Nat.reduceSub, Nat.mul_one, 
      List.nil_append, List.cons_append, List.getElem?_toArray, List.getElem?_cons_zero, List.getElem?_cons_succ, cells_int, cells_bool, cells_string, cells_slice, cells_pointer, cells_agg, one_int, one_bool, one_string, one_slice, 
      one_pointer, List.setIfInBounds_toArray, List.set_cons_zero, List.set_cons_succ, ↓xDet_s, ↓xDet_ld, ↓xDet_ld2, ↓xDet_ld3, ↓xDet_ld4, World.size_drew, Nat.zero_add, cell_drew, frozen_drew, cell_set_eq, cell_set_o, cell_set_b, 
      Option.map_some, World.frozen?_setCell, decide_true, decide_false, List.not_mem_nil, not_false_eq_true, ↓xGuard_tt, Bool.not_true, Bool.not_false, ←decide_not, ↓ld_3, ↓fa_34_0, ↓fa_34_1, h]
    refine ⟨by simp, ?_⟩
    (repeat (first | exact Ext.refl _ _ | refine Ext.alloc' ?_ _ | refine Ext.drew' ?_ | refine Ext.set' ?_ (.inr (by first | omega | (simp only [World.size_alloc, World.size_drew, World.size_setCell] <;> omega))) | assumption | refine Ext.trans ?_ (by assumption)))
  · simp (disch := (first | omega | (simp only [World.size_alloc, World.size_setCell, World.size_drew, List.mem_cons, List.not_mem_nil, or_false, not_false_eq_true] <;> omega) | fail)) only [↓xBox_r, ↓loadK_some, ↓loadsK_s, ↓loadsK_n, ↓loadsR_s, ↓loadsR_n, ↓storesK_s, ↓storesK_n, setCells_c, setCells_n, World.setCell_alloc_at, World.setCell_alloc_past, World.cell?_alloc_at, World.cell?_alloc_past, 
      World.frozen?_alloc_at, World.frozen?_alloc_past, World.size_alloc, ↓xPick_t, ↓xPick_f, ↓xGuard_tt, ↓xGuard_ff, ↓xGuard_tf, ↓xGuard_ft, ↓xIf_t, tick_eq, tickV_eq, ne_eq, not_true_eq_false, Int.reduceEq, Int.reduceLT, Int.reduceLE, 
      Bool.false_and, Bool.true_and, Bool.and_true, Bool.and_false, ↓xBin_add', ↓xBin_sub', ↓xBin_mul', ↓xBin_quo', ↓xBin_rem', wrap_in, ↓xIf_f, ↓xIf_tt, ↓xEx0, ↓xEx1, ↓xEx2, ↓xEx3, ↓xBin_eqs, ↓xBin_nes, ↓xUn_not, ↓u8_add, 
      ↓u8_lss, ↓u8_geq, ↓u16_add, ↓u16_lss, ↓u16_geq, ↓u32_add, ↓u32_lss, ↓u32_geq, ↓u64_add, ↓u64_lss, ↓u64_geq, ↓i64_lss, ↓i64_geq, Int.toNat_natCast, Int.reduceToNat, Nat.reduceMul, Nat.reduceAdd, Nat.reduceSub, Nat.mul_one, 
      List.nil_append, List.cons_append, List.getElem?_toArray, List.getElem?_cons_zero, List.getElem?_cons_succ, cells_int, cells_bool, cells_string, cells_slice, cells_pointer, cells_agg, one_int, one_bool, one_string, one_slice, 
      one_pointer, List.setIfInBounds_toArray, List.set_cons_zero, List.set_cons_succ, ↓xDet_s, ↓xDet_ld, ↓xDet_ld2, ↓xDet_ld3, ↓xDet_ld4, World.size_drew, Nat.zero_add, cell_drew, frozen_drew, cell_set_eq, cell_set_o, cell_set_b, 
      Option.map_some, World.frozen?_setCell, decide_true, decide_false, List.not_mem_nil, not_false_eq_true, ↓xGuard_tt, Bool.not_true, Bool.not_false, ←decide_not, ↓ld_3, ↓fa_34_0, ↓fa_34_1, h]
    refine ⟨by simp, ?_⟩
    (repeat (first | exact Ext.refl _ _ | refine Ext.alloc' ?_ _ | refine Ext.drew' ?_ | refine Ext.set' ?_ (.inr (by first | omega | (simp only [World.size_alloc, World.size_drew, World.size_setCell] <;> omega))) | assumption | refine Ext.trans ?_ (by assumption)))
end Go.Proofs.Ytohonkbneimkoaa
