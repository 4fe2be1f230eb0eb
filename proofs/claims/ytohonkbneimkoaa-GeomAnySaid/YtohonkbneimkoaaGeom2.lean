/- What the reference of geom computes, and what the first statement's small example says. -/
import Derived.Test.YtohonkbneimkoaaGeom
set_option linter.unusedVariables false
set_option linter.unusedSimpArgs false
namespace Go.Proofs.Ytohonkbneimkoaa
open Go.Sh Go.RowKit

abbrev str (l : List UInt8) : Value := .string ⟨l.toArray⟩
def ownerV (s l n x : Int) : ByteArray := if x < 0 then ⟨#[]⟩ else if x < 2 then ⟨#[115, 108, 111, 116]⟩ else if x < 2 + l then ⟨#[108, 111, 103]⟩ else if x < 2 + l + 2 * one s n then ⟨#[115, 112, 97, 99, 101]⟩ else ⟨#[]⟩
theorem Owner_spec (s l n x : Int) (w : World) (hf : Fit s l n) : Gives Try.prog n_geom_Owner #[gm s l n, i64 x] w (.string (ownerV s l n x)) := by
  have hf' := hf
  obtain ⟨s0, s1, l0, l1, n0, n1⟩ := hf
  have ho := one_le s n (by omega) n0
  refine geom_Owner_of ?_
  unfold geom_Owner geom_Owner_j1
  simp (disch := (first | omega | (simp only [World.size_alloc, World.size_setCell, World.size_drew, List.mem_cons, List.not_mem_nil, or_false, not_false_eq_true] <;> omega) | fail)) only [↓xBox_r, ↓loadK_some, ↓loadsK_s, ↓loadsK_n, ↓loadsR_s, ↓loadsR_n, ↓storesK_s, ↓storesK_n, setCells_c, setCells_n, World.setCell_alloc_at, World.setCell_alloc_past, World.cell?_alloc_at, World.cell?_alloc_past, 
      World.frozen?_alloc_at, World.frozen?_alloc_past, World.size_alloc, ↓xPick_t, ↓xPick_f, ↓xGuard_tt, ↓xGuard_ff, ↓xGuard_tf, ↓xGuard_ft, ↓xIf_t, tick_eq, tickV_eq, ne_eq, not_true_eq_false, Int.reduceEq, Int.reduceLT, Int.reduceLE, 
      Bool.false_and, Bool.true_and, Bool.and_true, Bool.and_false, ↓xBin_add', ↓xBin_sub', ↓xBin_mul', ↓xBin_quo', ↓xBin_rem', wrap_in, ↓xIf_f, ↓xIf_tt, ↓xEx0, ↓xEx1, ↓xEx2, ↓xEx3, ↓xBin_eqs, ↓xBin_nes, ↓xUn_not, ↓u8_lss, 
      ↓u16_lss, ↓u32_lss, ↓u64_lss, ↓i64_lss, Int.toNat_natCast, Int.reduceToNat, Nat.reduceMul, Nat.reduceAdd, Nat.reduceSub, Nat.mul_one, List.nil_append, List.cons_append, List.getElem?_toArray, List.getElem?_cons_zero, 
      List.getElem?_cons_succ, cells_int, cells_bool, cells_string, cells_slice, cells_pointer, cells_agg, one_int, one_bool, one_string, one_slice, one_pointer, List.setIfInBounds_toArray, List.set_cons_zero, List.set_cons_succ, ↓xDet_s, 
      ↓xDet_ld, ↓xDet_ld2, ↓xDet_ld3, ↓xDet_ld4, World.size_drew, Nat.zero_add, cell_drew, frozen_drew, cell_set_eq, cell_set_o, cell_set_b, Option.map_some, World.frozen?_setCell, decide_true, decide_false, List.not_mem_nil, 
      not_false_eq_true, ↓xGuard_tt, Bool.not_true, Bool.not_false, ←decide_not, ↓ld_23, eq_self]
  refine xIf_d (fun h1 => ⟨by simp [ownerV, h1], by (repeat (first | exact Ext.refl _ _ | refine Ext.alloc' ?_ _ | refine Ext.drew' ?_ | refine Ext.set' ?_ (.inr (by first | omega | (simp only [World.size_alloc, World.size_drew, World.size_setCell] <;> omega))) | assumption | refine Ext.trans ?_ (by assumption)))⟩) fun h1 => ?_
  simp (disch := (first | omega | (simp only [World.size_alloc, World.size_setCell, World.size_drew, List.mem_cons, List.not_mem_nil, or_false, not_false_eq_true] <;> omega) | fail)) only [↓xBox_r, ↓loadK_some, ↓loadsK_s, ↓loadsK_n, ↓loadsR_s, ↓loadsR_n, ↓storesK_s, ↓storesK_n, setCells_c, setCells_n, World.setCell_alloc_at, World.setCell_alloc_past, World.cell?_alloc_at, World.cell?_alloc_past, 
      World.frozen?_alloc_at, World.frozen?_alloc_past, World.size_alloc, ↓xPick_t, ↓xPick_f, ↓xGuard_tt, ↓xGuard_ff, ↓xGuard_tf, ↓xGuard_ft, ↓xIf_t, tick_eq, tickV_eq, ne_eq, not_true_eq_false, Int.reduceEq, Int.reduceLT, Int.reduceLE, 
      Bool.false_and, Bool.true_and, Bool.and_true, Bool.and_false, ↓xBin_add', ↓xBin_sub', ↓xBin_mul', ↓xBin_quo', ↓xBin_rem', wrap_in, ↓xIf_f, ↓xIf_tt, ↓xEx0, ↓xEx1, ↓xEx2, ↓xEx3, ↓xBin_eqs, ↓xBin_nes, ↓xUn_not, ↓u8_lss, 
      ↓u16_lss, ↓u32_lss, ↓u64_lss, ↓i64_lss, Int.toNat_natCast, Int.reduceToNat, Nat.reduceMul, Nat.reduceAdd, Nat.reduceSub, Nat.mul_one, List.nil_append, List.cons_append, List.getElem?_toArray, List.getElem?_cons_zero, 
      List.getElem?_cons_succ, cells_int, cells_bool, cells_string, cells_slice, cells_pointer, cells_agg, one_int, one_bool, one_string, one_slice, one_pointer, List.setIfInBounds_toArray, List.set_cons_zero, List.set_cons_succ, ↓xDet_s, 
      ↓xDet_ld, ↓xDet_ld2, ↓xDet_ld3, ↓xDet_ld4, World.size_drew, Nat.zero_add, cell_drew, frozen_drew, cell_set_eq, cell_set_o, cell_set_b, Option.map_some, World.frozen?_setCell, decide_true, decide_false, List.not_mem_nil, 
      not_false_eq_true, ↓xGuard_tt, Bool.not_true, Bool.not_false, ←decide_not, ↓ld_23, eq_self]
  refine xIf_d (fun h2 => ⟨by simp [ownerV, h1, h2], by (repeat (first | exact Ext.refl _ _ | refine Ext.alloc' ?_ _ | refine Ext.drew' ?_ | refine Ext.set' ?_ (.inr (by first | omega | (simp only [World.size_alloc, World.size_drew, World.size_setCell] <;> omega))) | assumption | refine Ext.trans ?_ (by assumption)))⟩) fun h2 => ?_
  simp (disch := (first | omega | (simp only [World.size_alloc, World.size_setCell, World.size_drew, List.mem_cons, List.not_mem_nil, or_false, not_false_eq_true] <;> omega) | fail)) only [↓xBox_r, ↓loadK_some, ↓loadsK_s, ↓loadsK_n, ↓loadsR_s, ↓loadsR_n, ↓storesK_s, ↓storesK_n, setCells_c, setCells_n, World.setCell_alloc_at, World.setCell_alloc_past, World.cell?_alloc_at, World.cell?_alloc_past, 
      World.frozen?_alloc_at, World.frozen?_alloc_past, World.size_alloc, ↓xPick_t, ↓xPick_f, ↓xGuard_tt, ↓xGuard_ff, ↓xGuard_tf, ↓xGuard_ft, ↓xIf_t, tick_eq, tickV_eq, ne_eq, not_true_eq_false, Int.reduceEq, Int.reduceLT, Int.reduceLE, 
      Bool.false_and, Bool.true_and, Bool.and_true, Bool.and_false, ↓xBin_add', ↓xBin_sub', ↓xBin_mul', ↓xBin_quo', ↓xBin_rem', wrap_in, ↓xIf_f, ↓xIf_tt, ↓xEx0, ↓xEx1, ↓xEx2, ↓xEx3, ↓xBin_eqs, ↓xBin_nes, ↓xUn_not, ↓u8_lss, 
      ↓u16_lss, ↓u32_lss, ↓u64_lss, ↓i64_lss, Int.toNat_natCast, Int.reduceToNat, Nat.reduceMul, Nat.reduceAdd, Nat.reduceSub, Nat.mul_one, List.nil_append, List.cons_append, List.getElem?_toArray, List.getElem?_cons_zero, 
      List.getElem?_cons_succ, cells_int, cells_bool, cells_string, cells_slice, cells_pointer, cells_agg, one_int, one_bool, one_string, one_slice, one_pointer, List.setIfInBounds_toArray, List.set_cons_zero, List.set_cons_succ, ↓xDet_s, 
      ↓xDet_ld, ↓xDet_ld2, ↓xDet_ld3, ↓xDet_ld4, World.size_drew, Nat.zero_add, cell_drew, frozen_drew, cell_set_eq, cell_set_o, cell_set_b, Option.map_some, World.frozen?_setCell, decide_true, decide_false, List.not_mem_nil, 
      not_false_eq_true, ↓xGuard_tt, Bool.not_true, Bool.not_false, ←decide_not, ↓ld_23, eq_self]
  refine geom_Log_call (Gives.to (Log_spec _ _ _ _) fun w1 E1 => ?_)
  change Ext [] _ w1 at E1
  have z1 := E1.size
  simp only [World.size_alloc] at z1
  have e : ∀ o, w1.cell? ⟨w.heap.size, o, none⟩ = _ := fun o => E1.cell_o (by simp)
  refine geom_Place_has_call (Gives.to (has_spec _ _ _ _ (by omega) (by omega) (by omega) (by omega)) fun w2 E2 => ?_)
  change Ext [] _ w2 at E2
  have z2 := E2.size
  have e2 : ∀ o, w2.cell? ⟨w.heap.size, o, none⟩ = _ := fun o => (E2.cell_o (by omega)).trans (e o)
  refine xIf_d (fun h3 => ⟨by simp [ownerV, h1, h2, h3], by (repeat (first | exact Ext.refl _ _ | refine Ext.alloc' ?_ _ | refine Ext.drew' ?_ | refine Ext.set' ?_ (.inr (by first | omega | (simp only [World.size_alloc, World.size_drew, World.size_setCell] <;> omega))) | assumption | refine Ext.trans ?_ (by assumption)))⟩) fun h3 => ?_
  simp (disch := (first | omega | (simp only [World.size_alloc, World.size_setCell, World.size_drew, List.mem_cons, List.not_mem_nil, or_false, not_false_eq_true] <;> omega) | fail)) only [↓xBox_r, ↓loadK_some, ↓loadsK_s, ↓loadsK_n, ↓loadsR_s, ↓loadsR_n, ↓storesK_s, ↓storesK_n, setCells_c, setCells_n, World.setCell_alloc_at, World.setCell_alloc_past, World.cell?_alloc_at, World.cell?_alloc_past, 
      World.frozen?_alloc_at, World.frozen?_alloc_past, World.size_alloc, ↓xPick_t, ↓xPick_f, ↓xGuard_tt, ↓xGuard_ff, ↓xGuard_tf, ↓xGuard_ft, ↓xIf_t, tick_eq, tickV_eq, ne_eq, not_true_eq_false, Int.reduceEq, Int.reduceLT, Int.reduceLE, 
      Bool.false_and, Bool.true_and, Bool.and_true, Bool.and_false, ↓xBin_add', ↓xBin_sub', ↓xBin_mul', ↓xBin_quo', ↓xBin_rem', wrap_in, ↓xIf_f, ↓xIf_tt, ↓xEx0, ↓xEx1, ↓xEx2, ↓xEx3, ↓xBin_eqs, ↓xBin_nes, ↓xUn_not, ↓u8_lss, 
      ↓u16_lss, ↓u32_lss, ↓u64_lss, ↓i64_lss, Int.toNat_natCast, Int.reduceToNat, Nat.reduceMul, Nat.reduceAdd, Nat.reduceSub, Nat.mul_one, List.nil_append, List.cons_append, List.getElem?_toArray, List.getElem?_cons_zero, 
      List.getElem?_cons_succ, cells_int, cells_bool, cells_string, cells_slice, cells_pointer, cells_agg, one_int, one_bool, one_string, one_slice, one_pointer, List.setIfInBounds_toArray, List.set_cons_zero, List.set_cons_succ, ↓xDet_s, 
      ↓xDet_ld, ↓xDet_ld2, ↓xDet_ld3, ↓xDet_ld4, World.size_drew, Nat.zero_add, cell_drew, frozen_drew, cell_set_eq, cell_set_o, cell_set_b, Option.map_some, World.frozen?_setCell, decide_true, decide_false, List.not_mem_nil, 
      not_false_eq_true, ↓xGuard_tt, Bool.not_true, Bool.not_false, ←decide_not, ↓ld_23, e2]
  refine geom_Space_call (Gives.to (Space_spec _ _ _ _ _ hf') fun w3 E3 => ?_)
  change Ext [] _ w3 at E3
  have z3 := E3.size
  have e3 : ∀ o, w3.cell? ⟨w.heap.size, o, none⟩ = _ := fun o => (E3.cell_o (by omega)).trans (e2 o)
  rw [show spaceAt s l n 0 = 2 + l by simp [spaceAt], show spaceN s n 0 = one s n by simp [spaceN]]
  refine geom_Place_has_call (Gives.to (has_spec _ _ _ _ (by omega) (by omega) (by omega) (by omega)) fun w4 E4 => ?_)
  change Ext [] _ w4 at E4
  have z4 := E4.size
  have e4 : ∀ o, w4.cell? ⟨w.heap.size, o, none⟩ = _ := fun o => (E4.cell_o (by omega)).trans (e3 o)
  simp (disch := (first | omega | (simp only [World.size_alloc, World.size_setCell, World.size_drew, List.mem_cons, List.not_mem_nil, or_false, not_false_eq_true] <;> omega) | fail)) only [↓xBox_r, ↓loadK_some, ↓loadsK_s, ↓loadsK_n, ↓loadsR_s, ↓loadsR_n, ↓storesK_s, ↓storesK_n, setCells_c, setCells_n, World.setCell_alloc_at, World.setCell_alloc_past, World.cell?_alloc_at, World.cell?_alloc_past, 
      World.frozen?_alloc_at, World.frozen?_alloc_past, World.size_alloc, ↓xPick_t, ↓xPick_f, ↓xGuard_tt, ↓xGuard_ff, ↓xGuard_tf, ↓xGuard_ft, ↓xIf_t, tick_eq, tickV_eq, ne_eq, not_true_eq_false, Int.reduceEq, Int.reduceLT, Int.reduceLE, 
      Bool.false_and, Bool.true_and, Bool.and_true, Bool.and_false, ↓xBin_add', ↓xBin_sub', ↓xBin_mul', ↓xBin_quo', ↓xBin_rem', wrap_in, ↓xIf_f, ↓xIf_tt, ↓xEx0, ↓xEx1, ↓xEx2, ↓xEx3, ↓xBin_eqs, ↓xBin_nes, ↓xUn_not, ↓u8_lss, 
      ↓u16_lss, ↓u32_lss, ↓u64_lss, ↓i64_lss, Int.toNat_natCast, Int.reduceToNat, Nat.reduceMul, Nat.reduceAdd, Nat.reduceSub, Nat.mul_one, List.nil_append, List.cons_append, List.getElem?_toArray, List.getElem?_cons_zero, 
      List.getElem?_cons_succ, cells_int, cells_bool, cells_string, cells_slice, cells_pointer, cells_agg, one_int, one_bool, one_string, one_slice, one_pointer, List.setIfInBounds_toArray, List.set_cons_zero, List.set_cons_succ, ↓xDet_s, 
      ↓xDet_ld, ↓xDet_ld2, ↓xDet_ld3, ↓xDet_ld4, World.size_drew, Nat.zero_add, cell_drew, frozen_drew, cell_set_eq, cell_set_o, cell_set_b, Option.map_some, World.frozen?_setCell, decide_true, decide_false, List.not_mem_nil, 
      not_false_eq_true, ↓xGuard_tt, Bool.not_true, Bool.not_false, ←decide_not, ↓ld_23, e4]
  refine xIf_d (fun h4 => ⟨?_, by (repeat (first | exact Ext.refl _ _ | refine Ext.alloc' ?_ _ | refine Ext.drew' ?_ | refine Ext.set' ?_ (.inr (by first | omega | (simp only [World.size_alloc, World.size_drew, World.size_setCell] <;> omega))) | assumption | refine Ext.trans ?_ (by assumption)))⟩) fun h4 => ?_
  · have h5 : ¬ x < 2 + l := by omega
    have h6 : x < 2 + l + 2 * one s n := by omega
    simp [ownerV, h1, h2, h5, h6]
  simp (disch := (first | omega | (simp only [World.size_alloc, World.size_setCell, World.size_drew, List.mem_cons, List.not_mem_nil, or_false, not_false_eq_true] <;> omega) | fail)) only [↓xBox_r, ↓loadK_some, ↓loadsK_s, ↓loadsK_n, ↓loadsR_s, ↓loadsR_n, ↓storesK_s, ↓storesK_n, setCells_c, setCells_n, World.setCell_alloc_at, World.setCell_alloc_past, World.cell?_alloc_at, World.cell?_alloc_past, 
      World.frozen?_alloc_at, World.frozen?_alloc_past, World.size_alloc, ↓xPick_t, ↓xPick_f, ↓xGuard_tt, ↓xGuard_ff, ↓xGuard_tf, ↓xGuard_ft, ↓xIf_t, tick_eq, tickV_eq, ne_eq, not_true_eq_false, Int.reduceEq, Int.reduceLT, Int.reduceLE, 
      Bool.false_and, Bool.true_and, Bool.and_true, Bool.and_false, ↓xBin_add', ↓xBin_sub', ↓xBin_mul', ↓xBin_quo', ↓xBin_rem', wrap_in, ↓xIf_f, ↓xIf_tt, ↓xEx0, ↓xEx1, ↓xEx2, ↓xEx3, ↓xBin_eqs, ↓xBin_nes, ↓xUn_not, ↓u8_lss, 
      ↓u16_lss, ↓u32_lss, ↓u64_lss, ↓i64_lss, Int.toNat_natCast, Int.reduceToNat, Nat.reduceMul, Nat.reduceAdd, Nat.reduceSub, Nat.mul_one, List.nil_append, List.cons_append, List.getElem?_toArray, List.getElem?_cons_zero, 
      List.getElem?_cons_succ, cells_int, cells_bool, cells_string, cells_slice, cells_pointer, cells_agg, one_int, one_bool, one_string, one_slice, one_pointer, List.setIfInBounds_toArray, List.set_cons_zero, List.set_cons_succ, ↓xDet_s, 
      ↓xDet_ld, ↓xDet_ld2, ↓xDet_ld3, ↓xDet_ld4, World.size_drew, Nat.zero_add, cell_drew, frozen_drew, cell_set_eq, cell_set_o, cell_set_b, Option.map_some, World.frozen?_setCell, decide_true, decide_false, List.not_mem_nil, 
      not_false_eq_true, ↓xGuard_tt, Bool.not_true, Bool.not_false, ←decide_not, ↓ld_23, e4]
  refine geom_Space_call (Gives.to (Space_spec _ _ _ _ _ hf') fun w5 E5 => ?_)
  change Ext [] _ w5 at E5
  rw [show spaceAt s l n 1 = 2 + l + one s n by simp [spaceAt], show spaceN s n 1 = one s n by simp [spaceN]]
  refine geom_Place_has_call (Gives.to (has_spec _ _ _ _ (by omega) (by omega) (by omega) (by omega)) fun w6 E6 => ?_)
  change Ext [] _ w6 at E6
  have h5 : ¬ x < 2 + l := by omega
  refine xIf_d (fun h7 => ⟨?_, by (repeat (first | exact Ext.refl _ _ | refine Ext.alloc' ?_ _ | refine Ext.drew' ?_ | refine Ext.set' ?_ (.inr (by first | omega | (simp only [World.size_alloc, World.size_drew, World.size_setCell] <;> omega))) | assumption | refine Ext.trans ?_ (by assumption)))⟩) fun h7 => ⟨?_, by (repeat (first | exact Ext.refl _ _ | refine Ext.alloc' ?_ _ | refine Ext.drew' ?_ | refine Ext.set' ?_ (.inr (by first | omega | (simp only [World.size_alloc, World.size_drew, World.size_setCell] <;> omega))) | assumption | refine Ext.trans ?_ (by assumption)))⟩
  · have h6 : x < 2 + l + 2 * one s n := by omega
    simp [ownerV, h1, h2, h5, h6]
  · have h6 : ¬ x < 2 + l + 2 * one s n := by omega
    simp [ownerV, h1, h2, h5, h6]

theorem known4_spec (w : World) : Gives Try.prog n_loamlaw4_known #[] w (.bool true) := by
  have hf : Fit 64 8 64 := ⟨by decide, by decide, by decide, by decide, by decide, by decide⟩
  refine loamlaw4_known_of ?_
  unfold loamlaw4_known
  simp (disch := (first | omega | (simp only [World.size_alloc, World.size_setCell, World.size_drew, List.mem_cons, List.not_mem_nil, or_false, not_false_eq_true] <;> omega) | fail)) only [↓xBox_r, ↓loadK_some, ↓loadsK_s, ↓loadsK_n, ↓loadsR_s, ↓loadsR_n, ↓storesK_s, ↓storesK_n, setCells_c, setCells_n, World.setCell_alloc_at, World.setCell_alloc_past, World.cell?_alloc_at, World.cell?_alloc_past, 
      World.frozen?_alloc_at, World.frozen?_alloc_past, World.size_alloc, ↓xPick_t, ↓xPick_f, ↓xGuard_tt, ↓xGuard_ff, ↓xGuard_tf, ↓xGuard_ft, ↓xIf_t, tick_eq, tickV_eq, ne_eq, not_true_eq_false, Int.reduceEq, Int.reduceLT, Int.reduceLE, 
      Bool.false_and, Bool.true_and, Bool.and_true, Bool.and_false, ↓xBin_add', ↓xBin_sub', ↓xBin_mul', ↓xBin_quo', ↓xBin_rem', wrap_in, ↓xIf_f, ↓xIf_tt, ↓xEx0, ↓xEx1, ↓xEx2, ↓xEx3, ↓xBin_eqs, ↓xBin_nes, ↓xUn_not, ↓u8_eql, 
      ↓u16_eql, ↓u32_eql, ↓u64_eql, ↓i64_eql, Int.toNat_natCast, Int.reduceToNat, Nat.reduceMul, Nat.reduceAdd, Nat.reduceSub, Nat.mul_one, List.nil_append, List.cons_append, List.getElem?_toArray, List.getElem?_cons_zero, 
      List.getElem?_cons_succ, cells_int, cells_bool, cells_string, cells_slice, cells_pointer, cells_agg, one_int, one_bool, one_string, one_slice, one_pointer, List.setIfInBounds_toArray, List.set_cons_zero, List.set_cons_succ, ↓xDet_s, 
      ↓xDet_ld, ↓xDet_ld2, ↓xDet_ld3, ↓xDet_ld4, World.size_drew, Nat.zero_add, cell_drew, frozen_drew, cell_set_eq, cell_set_o, cell_set_b, Option.map_some, World.frozen?_setCell, decide_true, decide_false, List.not_mem_nil, 
      not_false_eq_true, ↓xGuard_tt, Bool.not_true, Bool.not_false, ←decide_not, ↓ld_23, ↓al_23, ↓st_23, ↓bd_23_0_1_2, ↓bd_23, ↓fd_34_0, ↓fd_34_1, ↓ix_35_1, eq_self]
  refine geom_Word_call (Gives.to (Word_spec _ _ _ _ _ _ hf) fun w1 E1 => ?_)
  have z1 := E1.size
  try simp only [World.size_alloc, World.size_setCell, World.size_drew] at z1
  have e1_0 : ∀ o, w1.cell? ⟨w.heap.size, o, none⟩ = _ := fun o => E1.cell_o (by first | omega | (simp only [World.size_alloc, World.size_setCell, World.size_drew] <;> omega))
  rw [show wordAt 64 8 64 1 9 = 21 by decide, show wordOff 64 64 1 9 = 8 by decide]
  simp (disch := (first | omega | (simp only [World.size_alloc, World.size_setCell, World.size_drew, List.mem_cons, List.not_mem_nil, or_false, not_false_eq_true] <;> omega) | fail)) only [↓xBox_r, ↓loadK_some, ↓loadsK_s, ↓loadsK_n, ↓loadsR_s, ↓loadsR_n, ↓storesK_s, ↓storesK_n, setCells_c, setCells_n, World.setCell_alloc_at, World.setCell_alloc_past, World.cell?_alloc_at, World.cell?_alloc_past, 
      World.frozen?_alloc_at, World.frozen?_alloc_past, World.size_alloc, ↓xPick_t, ↓xPick_f, ↓xGuard_tt, ↓xGuard_ff, ↓xGuard_tf, ↓xGuard_ft, ↓xIf_t, tick_eq, tickV_eq, ne_eq, not_true_eq_false, Int.reduceEq, Int.reduceLT, Int.reduceLE, 
      Bool.false_and, Bool.true_and, Bool.and_true, Bool.and_false, ↓xBin_add', ↓xBin_sub', ↓xBin_mul', ↓xBin_quo', ↓xBin_rem', wrap_in, ↓xIf_f, ↓xIf_tt, ↓xEx0, ↓xEx1, ↓xEx2, ↓xEx3, ↓xBin_eqs, ↓xBin_nes, ↓xUn_not, ↓u8_eql, 
      ↓u16_eql, ↓u32_eql, ↓u64_eql, ↓i64_eql, Int.toNat_natCast, Int.reduceToNat, Nat.reduceMul, Nat.reduceAdd, Nat.reduceSub, Nat.mul_one, List.nil_append, List.cons_append, List.getElem?_toArray, List.getElem?_cons_zero, 
      List.getElem?_cons_succ, cells_int, cells_bool, cells_string, cells_slice, cells_pointer, cells_agg, one_int, one_bool, one_string, one_slice, one_pointer, List.setIfInBounds_toArray, List.set_cons_zero, List.set_cons_succ, ↓xDet_s, 
      ↓xDet_ld, ↓xDet_ld2, ↓xDet_ld3, ↓xDet_ld4, World.size_drew, Nat.zero_add, cell_drew, frozen_drew, cell_set_eq, cell_set_o, cell_set_b, Option.map_some, World.frozen?_setCell, decide_true, decide_false, List.not_mem_nil, 
      not_false_eq_true, ↓xGuard_tt, Bool.not_true, Bool.not_false, ←decide_not, ↓ld_23, ↓al_23, ↓st_23, ↓bd_23_0_1_2, ↓bd_23, ↓fd_34_0, ↓fd_34_1, ↓ix_35_1, e1_0]
  refine geom_Check_call (Gives.to (Check_spec _ _ _ _) fun w2 E2 => ?_)
  have z2 := E2.size
  try simp only [World.size_alloc, World.size_setCell, World.size_drew] at z2
  have e2_0 : ∀ o, w2.cell? ⟨w.heap.size, o, none⟩ = _ := fun o => E2.cell_o (by first | omega | (simp only [World.size_alloc, World.size_setCell, World.size_drew] <;> omega))
  rw [show checkV 64 8 64 = 0 by decide]
  simp (disch := (first | omega | (simp only [World.size_alloc, World.size_setCell, World.size_drew, List.mem_cons, List.not_mem_nil, or_false, not_false_eq_true] <;> omega) | fail)) only [↓xBox_r, ↓loadK_some, ↓loadsK_s, ↓loadsK_n, ↓loadsR_s, ↓loadsR_n, ↓storesK_s, ↓storesK_n, setCells_c, setCells_n, World.setCell_alloc_at, World.setCell_alloc_past, World.cell?_alloc_at, World.cell?_alloc_past, 
      World.frozen?_alloc_at, World.frozen?_alloc_past, World.size_alloc, ↓xPick_t, ↓xPick_f, ↓xGuard_tt, ↓xGuard_ff, ↓xGuard_tf, ↓xGuard_ft, ↓xIf_t, tick_eq, tickV_eq, ne_eq, not_true_eq_false, Int.reduceEq, Int.reduceLT, Int.reduceLE, 
      Bool.false_and, Bool.true_and, Bool.and_true, Bool.and_false, ↓xBin_add', ↓xBin_sub', ↓xBin_mul', ↓xBin_quo', ↓xBin_rem', wrap_in, ↓xIf_f, ↓xIf_tt, ↓xEx0, ↓xEx1, ↓xEx2, ↓xEx3, ↓xBin_eqs, ↓xBin_nes, ↓xUn_not, ↓u8_eql, 
      ↓u16_eql, ↓u32_eql, ↓u64_eql, ↓i64_eql, Int.toNat_natCast, Int.reduceToNat, Nat.reduceMul, Nat.reduceAdd, Nat.reduceSub, Nat.mul_one, List.nil_append, List.cons_append, List.getElem?_toArray, List.getElem?_cons_zero, 
      List.getElem?_cons_succ, cells_int, cells_bool, cells_string, cells_slice, cells_pointer, cells_agg, one_int, one_bool, one_string, one_slice, one_pointer, List.setIfInBounds_toArray, List.set_cons_zero, List.set_cons_succ, ↓xDet_s, 
      ↓xDet_ld, ↓xDet_ld2, ↓xDet_ld3, ↓xDet_ld4, World.size_drew, Nat.zero_add, cell_drew, frozen_drew, cell_set_eq, cell_set_o, cell_set_b, Option.map_some, World.frozen?_setCell, decide_true, decide_false, List.not_mem_nil, 
      not_false_eq_true, ↓xGuard_tt, Bool.not_true, Bool.not_false, ←decide_not, ↓ld_23, ↓al_23, ↓st_23, ↓bd_23_0_1_2, ↓bd_23, ↓fd_34_0, ↓fd_34_1, ↓ix_35_1, e1_0, e2_0]
  refine geom_Sectors_call (Gives.to (Sectors_spec _ _ _ _ (by decide) (by decide) (by decide) (by decide) (by decide) (by decide)) fun w3 E3 => ?_)
  have z3 := E3.size
  try simp only [World.size_alloc, World.size_setCell, World.size_drew] at z3
  have e3_0 : ∀ o, w3.cell? ⟨w.heap.size, o, none⟩ = _ := fun o => E3.cell_o (by first | omega | (simp only [World.size_alloc, World.size_setCell, World.size_drew] <;> omega))
  rw [show (2 + 8 + 2 * ((64 * 8 + 64 - 1) / 64 + (64 + 32 - 1) / 32) : Int) = 30 by decide]
  simp (disch := (first | omega | (simp only [World.size_alloc, World.size_setCell, World.size_drew, List.mem_cons, List.not_mem_nil, or_false, not_false_eq_true] <;> omega) | fail)) only [↓xBox_r, ↓loadK_some, ↓loadsK_s, ↓loadsK_n, ↓loadsR_s, ↓loadsR_n, ↓storesK_s, ↓storesK_n, setCells_c, setCells_n, World.setCell_alloc_at, World.setCell_alloc_past, World.cell?_alloc_at, World.cell?_alloc_past, 
      World.frozen?_alloc_at, World.frozen?_alloc_past, World.size_alloc, ↓xPick_t, ↓xPick_f, ↓xGuard_tt, ↓xGuard_ff, ↓xGuard_tf, ↓xGuard_ft, ↓xIf_t, tick_eq, tickV_eq, ne_eq, not_true_eq_false, Int.reduceEq, Int.reduceLT, Int.reduceLE, 
      Bool.false_and, Bool.true_and, Bool.and_true, Bool.and_false, ↓xBin_add', ↓xBin_sub', ↓xBin_mul', ↓xBin_quo', ↓xBin_rem', wrap_in, ↓xIf_f, ↓xIf_tt, ↓xEx0, ↓xEx1, ↓xEx2, ↓xEx3, ↓xBin_eqs, ↓xBin_nes, ↓xUn_not, ↓u8_eql, 
      ↓u16_eql, ↓u32_eql, ↓u64_eql, ↓i64_eql, Int.toNat_natCast, Int.reduceToNat, Nat.reduceMul, Nat.reduceAdd, Nat.reduceSub, Nat.mul_one, List.nil_append, List.cons_append, List.getElem?_toArray, List.getElem?_cons_zero, 
      List.getElem?_cons_succ, cells_int, cells_bool, cells_string, cells_slice, cells_pointer, cells_agg, one_int, one_bool, one_string, one_slice, one_pointer, List.setIfInBounds_toArray, List.set_cons_zero, List.set_cons_succ, ↓xDet_s, 
      ↓xDet_ld, ↓xDet_ld2, ↓xDet_ld3, ↓xDet_ld4, World.size_drew, Nat.zero_add, cell_drew, frozen_drew, cell_set_eq, cell_set_o, cell_set_b, Option.map_some, World.frozen?_setCell, decide_true, decide_false, List.not_mem_nil, 
      not_false_eq_true, ↓xGuard_tt, Bool.not_true, Bool.not_false, ←decide_not, ↓ld_23, ↓al_23, ↓st_23, ↓bd_23_0_1_2, ↓bd_23, ↓fd_34_0, ↓fd_34_1, ↓ix_35_1, e1_0, e2_0, e3_0]
  refine geom_Log_call (Gives.to (Log_spec _ _ _ _) fun w4 E4 => ?_)
  have z4 := E4.size
  try simp only [World.size_alloc, World.size_setCell, World.size_drew] at z4
  have e4_0 : ∀ o, w4.cell? ⟨w.heap.size, o, none⟩ = _ := fun o => E4.cell_o (by first | omega | (simp only [World.size_alloc, World.size_setCell, World.size_drew] <;> omega))
  simp (disch := (first | omega | (simp only [World.size_alloc, World.size_setCell, World.size_drew, List.mem_cons, List.not_mem_nil, or_false, not_false_eq_true] <;> omega) | fail)) only [↓xBox_r, ↓loadK_some, ↓loadsK_s, ↓loadsK_n, ↓loadsR_s, ↓loadsR_n, ↓storesK_s, ↓storesK_n, setCells_c, setCells_n, World.setCell_alloc_at, World.setCell_alloc_past, World.cell?_alloc_at, World.cell?_alloc_past, 
      World.frozen?_alloc_at, World.frozen?_alloc_past, World.size_alloc, ↓xPick_t, ↓xPick_f, ↓xGuard_tt, ↓xGuard_ff, ↓xGuard_tf, ↓xGuard_ft, ↓xIf_t, tick_eq, tickV_eq, ne_eq, not_true_eq_false, Int.reduceEq, Int.reduceLT, Int.reduceLE, 
      Bool.false_and, Bool.true_and, Bool.and_true, Bool.and_false, ↓xBin_add', ↓xBin_sub', ↓xBin_mul', ↓xBin_quo', ↓xBin_rem', wrap_in, ↓xIf_f, ↓xIf_tt, ↓xEx0, ↓xEx1, ↓xEx2, ↓xEx3, ↓xBin_eqs, ↓xBin_nes, ↓xUn_not, ↓u8_eql, 
      ↓u16_eql, ↓u32_eql, ↓u64_eql, ↓i64_eql, Int.toNat_natCast, Int.reduceToNat, Nat.reduceMul, Nat.reduceAdd, Nat.reduceSub, Nat.mul_one, List.nil_append, List.cons_append, List.getElem?_toArray, List.getElem?_cons_zero, 
      List.getElem?_cons_succ, cells_int, cells_bool, cells_string, cells_slice, cells_pointer, cells_agg, one_int, one_bool, one_string, one_slice, one_pointer, List.setIfInBounds_toArray, List.set_cons_zero, List.set_cons_succ, ↓xDet_s, 
      ↓xDet_ld, ↓xDet_ld2, ↓xDet_ld3, ↓xDet_ld4, World.size_drew, Nat.zero_add, cell_drew, frozen_drew, cell_set_eq, cell_set_o, cell_set_b, Option.map_some, World.frozen?_setCell, decide_true, decide_false, List.not_mem_nil, 
      not_false_eq_true, ↓xGuard_tt, Bool.not_true, Bool.not_false, ←decide_not, ↓ld_23, ↓al_23, ↓st_23, ↓bd_23_0_1_2, ↓bd_23, ↓fd_34_0, ↓fd_34_1, ↓ix_35_1, e1_0, e2_0, e3_0, e4_0]
  refine geom_Space_call (Gives.to (Space_spec _ _ _ _ _ hf) fun w5 E5 => ?_)
  have z5 := E5.size
  try simp only [World.size_alloc, World.size_setCell, World.size_drew] at z5
  have e5_0 : ∀ o, w5.cell? ⟨w.heap.size, o, none⟩ = _ := fun o => E5.cell_o (by first | omega | (simp only [World.size_alloc, World.size_setCell, World.size_drew] <;> omega))
  rw [show spaceAt 64 8 64 1 = 20 by decide]
  simp (disch := (first | omega | (simp only [World.size_alloc, World.size_setCell, World.size_drew, List.mem_cons, List.not_mem_nil, or_false, not_false_eq_true] <;> omega) | fail)) only [↓xBox_r, ↓loadK_some, ↓loadsK_s, ↓loadsK_n, ↓loadsR_s, ↓loadsR_n, ↓storesK_s, ↓storesK_n, setCells_c, setCells_n, World.setCell_alloc_at, World.setCell_alloc_past, World.cell?_alloc_at, World.cell?_alloc_past, 
      World.frozen?_alloc_at, World.frozen?_alloc_past, World.size_alloc, ↓xPick_t, ↓xPick_f, ↓xGuard_tt, ↓xGuard_ff, ↓xGuard_tf, ↓xGuard_ft, ↓xIf_t, tick_eq, tickV_eq, ne_eq, not_true_eq_false, Int.reduceEq, Int.reduceLT, Int.reduceLE, 
      Bool.false_and, Bool.true_and, Bool.and_true, Bool.and_false, ↓xBin_add', ↓xBin_sub', ↓xBin_mul', ↓xBin_quo', ↓xBin_rem', wrap_in, ↓xIf_f, ↓xIf_tt, ↓xEx0, ↓xEx1, ↓xEx2, ↓xEx3, ↓xBin_eqs, ↓xBin_nes, ↓xUn_not, ↓u8_eql, 
      ↓u16_eql, ↓u32_eql, ↓u64_eql, ↓i64_eql, Int.toNat_natCast, Int.reduceToNat, Nat.reduceMul, Nat.reduceAdd, Nat.reduceSub, Nat.mul_one, List.nil_append, List.cons_append, List.getElem?_toArray, List.getElem?_cons_zero, 
      List.getElem?_cons_succ, cells_int, cells_bool, cells_string, cells_slice, cells_pointer, cells_agg, one_int, one_bool, one_string, one_slice, one_pointer, List.setIfInBounds_toArray, List.set_cons_zero, List.set_cons_succ, ↓xDet_s, 
      ↓xDet_ld, ↓xDet_ld2, ↓xDet_ld3, ↓xDet_ld4, World.size_drew, Nat.zero_add, cell_drew, frozen_drew, cell_set_eq, cell_set_o, cell_set_b, Option.map_some, World.frozen?_setCell, decide_true, decide_false, List.not_mem_nil, 
      not_false_eq_true, ↓xGuard_tt, Bool.not_true, Bool.not_false, ←decide_not, ↓ld_23, ↓al_23, ↓st_23, ↓bd_23_0_1_2, ↓bd_23, ↓fd_34_0, ↓fd_34_1, ↓ix_35_1, e1_0, e2_0, e3_0, e4_0, e5_0]
  refine geom_Slots_call (Gives.to (Slots_spec _ _ _ _) fun w6 E6 => ?_)
  have z6 := E6.size
  try simp only [World.size_alloc, World.size_setCell, World.size_drew] at z6
  have e6_0 : ∀ o, w6.cell? ⟨w.heap.size, o, none⟩ = _ := fun o => E6.cell_o (by first | omega | (simp only [World.size_alloc, World.size_setCell, World.size_drew] <;> omega))
  simp (disch := (first | omega | (simp only [World.size_alloc, World.size_setCell, World.size_drew, List.mem_cons, List.not_mem_nil, or_false, not_false_eq_true] <;> omega) | fail)) only [↓xBox_r, ↓loadK_some, ↓loadsK_s, ↓loadsK_n, ↓loadsR_s, ↓loadsR_n, ↓storesK_s, ↓storesK_n, setCells_c, setCells_n, World.setCell_alloc_at, World.setCell_alloc_past, World.cell?_alloc_at, World.cell?_alloc_past, 
      World.frozen?_alloc_at, World.frozen?_alloc_past, World.size_alloc, ↓xPick_t, ↓xPick_f, ↓xGuard_tt, ↓xGuard_ff, ↓xGuard_tf, ↓xGuard_ft, ↓xIf_t, tick_eq, tickV_eq, ne_eq, not_true_eq_false, Int.reduceEq, Int.reduceLT, Int.reduceLE, 
      Bool.false_and, Bool.true_and, Bool.and_true, Bool.and_false, ↓xBin_add', ↓xBin_sub', ↓xBin_mul', ↓xBin_quo', ↓xBin_rem', wrap_in, ↓xIf_f, ↓xIf_tt, ↓xEx0, ↓xEx1, ↓xEx2, ↓xEx3, ↓xBin_eqs, ↓xBin_nes, ↓xUn_not, ↓u8_eql, 
      ↓u16_eql, ↓u32_eql, ↓u64_eql, ↓i64_eql, Int.toNat_natCast, Int.reduceToNat, Nat.reduceMul, Nat.reduceAdd, Nat.reduceSub, Nat.mul_one, List.nil_append, List.cons_append, List.getElem?_toArray, List.getElem?_cons_zero, 
      List.getElem?_cons_succ, cells_int, cells_bool, cells_string, cells_slice, cells_pointer, cells_agg, one_int, one_bool, one_string, one_slice, one_pointer, List.setIfInBounds_toArray, List.set_cons_zero, List.set_cons_succ, ↓xDet_s, 
      ↓xDet_ld, ↓xDet_ld2, ↓xDet_ld3, ↓xDet_ld4, World.size_drew, Nat.zero_add, cell_drew, frozen_drew, cell_set_eq, cell_set_o, cell_set_b, Option.map_some, World.frozen?_setCell, decide_true, decide_false, List.not_mem_nil, 
      not_false_eq_true, ↓xGuard_tt, Bool.not_true, Bool.not_false, ←decide_not, ↓ld_23, ↓al_23, ↓st_23, ↓bd_23_0_1_2, ↓bd_23, ↓fd_34_0, ↓fd_34_1, ↓ix_35_1, e1_0, e2_0, e3_0, e4_0, e5_0, e6_0]
  refine geom_Owner_call (Gives.to (Owner_spec _ _ _ _ _ hf) fun w7 E7 => ?_)
  have z7 := E7.size
  try simp only [World.size_alloc, World.size_setCell, World.size_drew] at z7
  have e7_0 : ∀ o, w7.cell? ⟨w.heap.size, o, none⟩ = _ := fun o => E7.cell_o (by first | omega | (simp only [World.size_alloc, World.size_setCell, World.size_drew] <;> omega))
  rw [show ownerV 64 8 64 1 = ⟨#[115, 108, 111, 116]⟩ by decide]
  simp (disch := (first | omega | (simp only [World.size_alloc, World.size_setCell, World.size_drew, List.mem_cons, List.not_mem_nil, or_false, not_false_eq_true] <;> omega) | fail)) only [↓xBox_r, ↓loadK_some, ↓loadsK_s, ↓loadsK_n, ↓loadsR_s, ↓loadsR_n, ↓storesK_s, ↓storesK_n, setCells_c, setCells_n, World.setCell_alloc_at, World.setCell_alloc_past, World.cell?_alloc_at, World.cell?_alloc_past, 
      World.frozen?_alloc_at, World.frozen?_alloc_past, World.size_alloc, ↓xPick_t, ↓xPick_f, ↓xGuard_tt, ↓xGuard_ff, ↓xGuard_tf, ↓xGuard_ft, ↓xIf_t, tick_eq, tickV_eq, ne_eq, not_true_eq_false, Int.reduceEq, Int.reduceLT, Int.reduceLE, 
      Bool.false_and, Bool.true_and, Bool.and_true, Bool.and_false, ↓xBin_add', ↓xBin_sub', ↓xBin_mul', ↓xBin_quo', ↓xBin_rem', wrap_in, ↓xIf_f, ↓xIf_tt, ↓xEx0, ↓xEx1, ↓xEx2, ↓xEx3, ↓xBin_eqs, ↓xBin_nes, ↓xUn_not, ↓u8_eql, 
      ↓u16_eql, ↓u32_eql, ↓u64_eql, ↓i64_eql, Int.toNat_natCast, Int.reduceToNat, Nat.reduceMul, Nat.reduceAdd, Nat.reduceSub, Nat.mul_one, List.nil_append, List.cons_append, List.getElem?_toArray, List.getElem?_cons_zero, 
      List.getElem?_cons_succ, cells_int, cells_bool, cells_string, cells_slice, cells_pointer, cells_agg, one_int, one_bool, one_string, one_slice, one_pointer, List.setIfInBounds_toArray, List.set_cons_zero, List.set_cons_succ, ↓xDet_s, 
      ↓xDet_ld, ↓xDet_ld2, ↓xDet_ld3, ↓xDet_ld4, World.size_drew, Nat.zero_add, cell_drew, frozen_drew, cell_set_eq, cell_set_o, cell_set_b, Option.map_some, World.frozen?_setCell, decide_true, decide_false, List.not_mem_nil, 
      not_false_eq_true, ↓xGuard_tt, Bool.not_true, Bool.not_false, ←decide_not, ↓ld_23, ↓al_23, ↓st_23, ↓bd_23_0_1_2, ↓bd_23, ↓fd_34_0, ↓fd_34_1, ↓ix_35_1, e1_0, e2_0, e3_0, e4_0, e5_0, e6_0, e7_0]
  refine geom_Owner_call (Gives.to (Owner_spec _ _ _ _ _ hf) fun w8 E8 => ?_)
  have z8 := E8.size
  try simp only [World.size_alloc, World.size_setCell, World.size_drew] at z8
  have e8_0 : ∀ o, w8.cell? ⟨w.heap.size, o, none⟩ = _ := fun o => E8.cell_o (by first | omega | (simp only [World.size_alloc, World.size_setCell, World.size_drew] <;> omega))
  rw [show ownerV 64 8 64 30 = ⟨#[]⟩ by decide]
  simp (disch := (first | omega | (simp only [World.size_alloc, World.size_setCell, World.size_drew, List.mem_cons, List.not_mem_nil, or_false, not_false_eq_true] <;> omega) | fail)) only [↓xBox_r, ↓loadK_some, ↓loadsK_s, ↓loadsK_n, ↓loadsR_s, ↓loadsR_n, ↓storesK_s, ↓storesK_n, setCells_c, setCells_n, World.setCell_alloc_at, World.setCell_alloc_past, World.cell?_alloc_at, World.cell?_alloc_past, 
      World.frozen?_alloc_at, World.frozen?_alloc_past, World.size_alloc, ↓xPick_t, ↓xPick_f, ↓xGuard_tt, ↓xGuard_ff, ↓xGuard_tf, ↓xGuard_ft, ↓xIf_t, tick_eq, tickV_eq, ne_eq, not_true_eq_false, Int.reduceEq, Int.reduceLT, Int.reduceLE, 
      Bool.false_and, Bool.true_and, Bool.and_true, Bool.and_false, ↓xBin_add', ↓xBin_sub', ↓xBin_mul', ↓xBin_quo', ↓xBin_rem', wrap_in, ↓xIf_f, ↓xIf_tt, ↓xEx0, ↓xEx1, ↓xEx2, ↓xEx3, ↓xBin_eqs, ↓xBin_nes, ↓xUn_not, ↓u8_eql, 
      ↓u16_eql, ↓u32_eql, ↓u64_eql, ↓i64_eql, Int.toNat_natCast, Int.reduceToNat, Nat.reduceMul, Nat.reduceAdd, Nat.reduceSub, Nat.mul_one, List.nil_append, List.cons_append, List.getElem?_toArray, List.getElem?_cons_zero, 
      List.getElem?_cons_succ, cells_int, cells_bool, cells_string, cells_slice, cells_pointer, cells_agg, one_int, one_bool, one_string, one_slice, one_pointer, List.setIfInBounds_toArray, List.set_cons_zero, List.set_cons_succ, ↓xDet_s, 
      ↓xDet_ld, ↓xDet_ld2, ↓xDet_ld3, ↓xDet_ld4, World.size_drew, Nat.zero_add, cell_drew, frozen_drew, cell_set_eq, cell_set_o, cell_set_b, Option.map_some, World.frozen?_setCell, decide_true, decide_false, List.not_mem_nil, 
      not_false_eq_true, ↓xGuard_tt, Bool.not_true, Bool.not_false, ←decide_not, ↓ld_23, ↓al_23, ↓st_23, ↓bd_23_0_1_2, ↓bd_23, ↓fd_34_0, ↓fd_34_1, ↓ix_35_1, e1_0, e2_0, e3_0, e4_0, e5_0, e6_0, e7_0, e8_0]
  refine geom_Check_call (Gives.to (Check_spec _ _ _ _) fun w9 E9 => ?_)
  have z9 := E9.size
  try simp only [World.size_alloc, World.size_setCell, World.size_drew] at z9
  have e9_0 : ∀ o, w9.cell? ⟨w.heap.size, o, none⟩ = _ := fun o => E9.cell_o (by first | omega | (simp only [World.size_alloc, World.size_setCell, World.size_drew] <;> omega))
  rw [show checkV 0 0 0 = 1 by decide]
  simp (disch := (first | omega | (simp only [World.size_alloc, World.size_setCell, World.size_drew, List.mem_cons, List.not_mem_nil, or_false, not_false_eq_true] <;> omega) | fail)) only [↓xBox_r, ↓loadK_some, ↓loadsK_s, ↓loadsK_n, ↓loadsR_s, ↓loadsR_n, ↓storesK_s, ↓storesK_n, setCells_c, setCells_n, World.setCell_alloc_at, World.setCell_alloc_past, World.cell?_alloc_at, World.cell?_alloc_past, 
      World.frozen?_alloc_at, World.frozen?_alloc_past, World.size_alloc, ↓xPick_t, ↓xPick_f, ↓xGuard_tt, ↓xGuard_ff, ↓xGuard_tf, ↓xGuard_ft, ↓xIf_t, tick_eq, tickV_eq, ne_eq, not_true_eq_false, Int.reduceEq, Int.reduceLT, Int.reduceLE, 
      Bool.false_and, Bool.true_and, Bool.and_true, Bool.and_false, ↓xBin_add', ↓xBin_sub', ↓xBin_mul', ↓xBin_quo', ↓xBin_rem', wrap_in, ↓xIf_f, ↓xIf_tt, ↓xEx0, ↓xEx1, ↓xEx2, ↓xEx3, ↓xBin_eqs, ↓xBin_nes, ↓xUn_not, ↓u8_eql, 
      ↓u16_eql, ↓u32_eql, ↓u64_eql, ↓i64_eql, Int.toNat_natCast, Int.reduceToNat, Nat.reduceMul, Nat.reduceAdd, Nat.reduceSub, Nat.mul_one, List.nil_append, List.cons_append, List.getElem?_toArray, List.getElem?_cons_zero, 
      List.getElem?_cons_succ, cells_int, cells_bool, cells_string, cells_slice, cells_pointer, cells_agg, one_int, one_bool, one_string, one_slice, one_pointer, List.setIfInBounds_toArray, List.set_cons_zero, List.set_cons_succ, ↓xDet_s, 
      ↓xDet_ld, ↓xDet_ld2, ↓xDet_ld3, ↓xDet_ld4, World.size_drew, Nat.zero_add, cell_drew, frozen_drew, cell_set_eq, cell_set_o, cell_set_b, Option.map_some, World.frozen?_setCell, decide_true, decide_false, List.not_mem_nil, 
      not_false_eq_true, ↓xGuard_tt, Bool.not_true, Bool.not_false, ←decide_not, ↓ld_23, ↓al_23, ↓st_23, ↓bd_23_0_1_2, ↓bd_23, ↓fd_34_0, ↓fd_34_1, ↓ix_35_1, e1_0, e2_0, e3_0, e4_0, e5_0, e6_0, e7_0, e8_0, e9_0]
  refine ⟨trivial, ?_⟩
  (repeat (first | exact Ext.refl _ _ | refine Ext.alloc' ?_ _ | refine Ext.drew' ?_ | refine Ext.set' ?_ (.inr (by first | omega | (simp only [World.size_alloc, World.size_drew, World.size_setCell] <;> omega))) | assumption | refine Ext.trans ?_ (by assumption)))
end Go.Proofs.Ytohonkbneimkoaa
