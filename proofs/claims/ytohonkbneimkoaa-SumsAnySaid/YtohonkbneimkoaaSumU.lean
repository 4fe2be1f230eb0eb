/- The statement on bytes of which few bits are turned, walked. -/
import Derived.Test.YtohonkbneimkoaaSumL
import Derived.Test.YtohonkbneimkoaaSumT
set_option linter.unusedVariables false
set_option linter.unusedSimpArgs false
set_option maxHeartbeats 4000000
namespace Go.Proofs.Ytohonkbneimkoaa
open Go.Sh Go.RowKit

theorem bit_test (x : BitVec 32) (i : Nat) : (x >>> i &&& BitVec.ofNat 32 1 = BitVec.ofNat 32 1) ↔ x.getLsbD i = true := by
  constructor
  · intro h
    have := congrArg (fun x => x.getLsbD 0) h
    simpa using this
  · intro h
    apply BitVec.eq_of_getLsbD_eq
    intro j hj
    rw [BitVec.getLsbD_and]
    cases j with
    | zero => simp [h]
    | succ j => simp
theorem SumsTurned_spec (l : List (BitVec 8)) (a : Option Addr) (n c : Nat) (at' pat : Int) (hp : 0 ≤ pat ∧ pat ≤ 4294967295) (w : World) (ha : BytesArg w l a n c) : Gives Try.prog n_loamlaw2_SumsTurned #[.slice a n c, i64 at', .int .u32 pat] w (.bool true) := by
  obtain ⟨rfl, -, -, hnil, h⟩ := ha
  rw [u32_of hp.1 hp.2]
  generalize BitVec.ofInt 32 pat = x
  refine loamlaw2_SumsTurned_of ?_
  unfold loamlaw2_SumsTurned
  refine loamlaw2_known_call (Gives.to (known2_spec _) fun w1 E1 => ?_)
  have z1 := E1.size
  try simp only [World.size_alloc, World.size_setCell, World.size_drew] at z1
  simp (disch := (first | omega | decide | (simp only [World.size_alloc, World.size_setCell, World.size_drew, List.mem_cons, List.not_mem_nil, or_false, not_false_eq_true] <;> omega) | fail)) only [↓xBox_r, ↓loadK_some, ↓loadsK_s, ↓loadsK_n, ↓loadsR_s, ↓loadsR_n, ↓storesK_s, ↓storesK_n, setCells_c, setCells_n, World.setCell_alloc_at, World.setCell_alloc_past, World.cell?_alloc_at, World.cell?_alloc_past, 
      World.frozen?_alloc_at, World.frozen?_alloc_past, World.size_alloc, ↓xPick_t, ↓xPick_f, ↓xGuard_tt, ↓xGuard_ff, ↓xGuard_tf, ↓xGuard_ft, ↓xGuard_u, ↓xNil_r, Option.isNone_some, Option.isNone_none, ↓xIf_t, tick_eq, tickV_eq, ne_eq, 
      dlt_t, dlt_f, dle_t, dle_f, deq_t, deq_f, dne_t, dne_f, not_true_eq_false, Int.reduceAdd, Int.reduceSub, Int.reduceMul, Int.reduceEq, Int.reduceLT, Int.reduceLE, Bool.false_and, Bool.true_and, Bool.and_true, 
      Bool.and_false, ↓xBin_add', ↓xBin_sub', ↓xBin_mul', ↓xBin_quo', ↓xBin_rem', wrap_in, ↓xIf_f, ↓xIf_tt, ↓xEx0, ↓xEx1, ↓xEx2, ↓xEx3, ↓xBin_eqs, ↓xBin_nes, ↓xUn_not, ↓xu8_add, ↓xu8_sub, ↓xu8_mul, ↓xu8_rem, ↓xu8_quo, ↓xu8_and, 
      ↓xu8_xor, ↓xu8_com, ↓xu8_shl, ↓xu8_shr, ↓xu8_eql, ↓xu8_neq, ↓xu8_lss, ↓xu8_gtr, ↓xu16_add, ↓xu16_sub, ↓xu16_mul, ↓xu16_rem, ↓xu16_quo, ↓xu16_and, ↓xu16_xor, ↓xu16_com, ↓xu16_shl, ↓xu16_shr, ↓xu16_eql, ↓xu16_neq, 
      ↓xu16_lss, ↓xu16_gtr, ↓xu32_add, ↓xu32_sub, ↓xu32_mul, ↓xu32_rem, ↓xu32_quo, ↓xu32_and, ↓xu32_xor, ↓xu32_com, ↓xu32_shl, ↓xu32_shr, ↓xu32_eql, ↓xu32_neq, ↓xu32_lss, ↓xu32_gtr, ↓xu64_add, ↓xu64_sub, ↓xu64_mul, ↓xu64_rem, 
      ↓xu64_quo, ↓xu64_and, ↓xu64_xor, ↓xu64_com, ↓xu64_shl, ↓xu64_shr, ↓xu64_eql, ↓xu64_neq, ↓xu64_lss, ↓xu64_gtr, ↓xi64_lss, ↓xi64_gtr, ↓xi64_eql, ↓xi64_neq, ↓xi64_and, ↓xi64_xor, ↓xi64_shl, ↓xi64_shr, ↓xi64_neg, Int.toNat_natCast, 
      Int.reduceToNat, Nat.reduceMul, Nat.reduceAdd, Nat.reduceSub, Nat.mul_one, List.nil_append, List.cons_append, List.getElem?_toArray, List.getElem?_cons_zero, List.getElem?_cons_succ, cells_int, cells_bool, cells_string, 
      cells_slice, cells_pointer, cells_agg, one_int, one_bool, one_string, one_slice, one_pointer, List.setIfInBounds_toArray, List.set_cons_zero, List.set_cons_succ, ↓xDet_s, ↓xDet_ld, ↓xDet_ld2, ↓xDet_ld3, ↓xDet_ld4, 
      World.size_drew, Nat.zero_add, Nat.add_zero, cell_drew, frozen_drew, cell_set_eq, cell_set_o, cell_set_b, Option.map_some, World.frozen?_setCell, decide_true, decide_false, List.not_mem_nil, not_false_eq_true, ↓xGuard_tt, 
      Bool.not_true, Bool.not_false, ←decide_not, ↓ld_5, ↓st_5, ↓cv_3_59, ↓ia_51, ↓ln_51, ↓bs_50_1, ↓bs_50_2, ↓bs_51_0, ↓bs_51_1, ↓bs_51_3, ↓bs_51_4, ↓bs_51_5, eq_self]
  by_cases g1 : (l.length : Int) < 4
  · simp (disch := (first | omega | decide | (simp only [World.size_alloc, World.size_setCell, World.size_drew, List.mem_cons, List.not_mem_nil, or_false, not_false_eq_true] <;> omega) | fail)) only [↓xBox_r, ↓loadK_some, ↓loadsK_s, ↓loadsK_n, ↓loadsR_s, ↓loadsR_n, ↓storesK_s, ↓storesK_n, setCells_c, setCells_n, World.setCell_alloc_at, World.setCell_alloc_past, World.cell?_alloc_at, World.cell?_alloc_past, 
      World.frozen?_alloc_at, World.frozen?_alloc_past, World.size_alloc, ↓xPick_t, ↓xPick_f, ↓xGuard_tt, ↓xGuard_ff, ↓xGuard_tf, ↓xGuard_ft, ↓xGuard_u, ↓xNil_r, Option.isNone_some, Option.isNone_none, ↓xIf_t, tick_eq, tickV_eq, ne_eq, 
      dlt_t, dlt_f, dle_t, dle_f, deq_t, deq_f, dne_t, dne_f, not_true_eq_false, Int.reduceAdd, Int.reduceSub, Int.reduceMul, Int.reduceEq, Int.reduceLT, Int.reduceLE, Bool.false_and, Bool.true_and, Bool.and_true, 
      Bool.and_false, ↓xBin_add', ↓xBin_sub', ↓xBin_mul', ↓xBin_quo', ↓xBin_rem', wrap_in, ↓xIf_f, ↓xIf_tt, ↓xEx0, ↓xEx1, ↓xEx2, ↓xEx3, ↓xBin_eqs, ↓xBin_nes, ↓xUn_not, ↓xu8_add, ↓xu8_sub, ↓xu8_mul, ↓xu8_rem, ↓xu8_quo, ↓xu8_and, 
      ↓xu8_xor, ↓xu8_com, ↓xu8_shl, ↓xu8_shr, ↓xu8_eql, ↓xu8_neq, ↓xu8_lss, ↓xu8_gtr, ↓xu16_add, ↓xu16_sub, ↓xu16_mul, ↓xu16_rem, ↓xu16_quo, ↓xu16_and, ↓xu16_xor, ↓xu16_com, ↓xu16_shl, ↓xu16_shr, ↓xu16_eql, ↓xu16_neq, 
      ↓xu16_lss, ↓xu16_gtr, ↓xu32_add, ↓xu32_sub, ↓xu32_mul, ↓xu32_rem, ↓xu32_quo, ↓xu32_and, ↓xu32_xor, ↓xu32_com, ↓xu32_shl, ↓xu32_shr, ↓xu32_eql, ↓xu32_neq, ↓xu32_lss, ↓xu32_gtr, ↓xu64_add, ↓xu64_sub, ↓xu64_mul, ↓xu64_rem, 
      ↓xu64_quo, ↓xu64_and, ↓xu64_xor, ↓xu64_com, ↓xu64_shl, ↓xu64_shr, ↓xu64_eql, ↓xu64_neq, ↓xu64_lss, ↓xu64_gtr, ↓xi64_lss, ↓xi64_gtr, ↓xi64_eql, ↓xi64_neq, ↓xi64_and, ↓xi64_xor, ↓xi64_shl, ↓xi64_shr, ↓xi64_neg, Int.toNat_natCast, 
      Int.reduceToNat, Nat.reduceMul, Nat.reduceAdd, Nat.reduceSub, Nat.mul_one, List.nil_append, List.cons_append, List.getElem?_toArray, List.getElem?_cons_zero, List.getElem?_cons_succ, cells_int, cells_bool, cells_string, 
      cells_slice, cells_pointer, cells_agg, one_int, one_bool, one_string, one_slice, one_pointer, List.setIfInBounds_toArray, List.set_cons_zero, List.set_cons_succ, ↓xDet_s, ↓xDet_ld, ↓xDet_ld2, ↓xDet_ld3, ↓xDet_ld4, 
      World.size_drew, Nat.zero_add, Nat.add_zero, cell_drew, frozen_drew, cell_set_eq, cell_set_o, cell_set_b, Option.map_some, World.frozen?_setCell, decide_true, decide_false, List.not_mem_nil, not_false_eq_true, ↓xGuard_tt, 
      Bool.not_true, Bool.not_false, ←decide_not, ↓ld_5, ↓st_5, ↓cv_3_59, ↓ia_51, ↓ln_51, ↓bs_50_1, ↓bs_50_2, ↓bs_51_0, ↓bs_51_1, ↓bs_51_3, ↓bs_51_4, ↓bs_51_5, eq_self, g1]
    exact ⟨by trivial, by (repeat (first | with_reducible exact Ext.refl _ _ | with_reducible assumption | with_reducible refine Ext.alloc' ?_ _ | with_reducible refine Ext.drew' ?_ | with_reducible refine Ext.set' ?_ ?_ | exact .inr (by first | omega | (simp only [World.size_alloc, World.size_drew, World.size_setCell] <;> omega)) | refine Ext.trans ?_ (by with_reducible assumption)))⟩
  by_cases g2 : 300 < (l.length : Int)
  · simp (disch := (first | omega | decide | (simp only [World.size_alloc, World.size_setCell, World.size_drew, List.mem_cons, List.not_mem_nil, or_false, not_false_eq_true] <;> omega) | fail)) only [↓xBox_r, ↓loadK_some, ↓loadsK_s, ↓loadsK_n, ↓loadsR_s, ↓loadsR_n, ↓storesK_s, ↓storesK_n, setCells_c, setCells_n, World.setCell_alloc_at, World.setCell_alloc_past, World.cell?_alloc_at, World.cell?_alloc_past, 
      World.frozen?_alloc_at, World.frozen?_alloc_past, World.size_alloc, ↓xPick_t, ↓xPick_f, ↓xGuard_tt, ↓xGuard_ff, ↓xGuard_tf, ↓xGuard_ft, ↓xGuard_u, ↓xNil_r, Option.isNone_some, Option.isNone_none, ↓xIf_t, tick_eq, tickV_eq, ne_eq, 
      dlt_t, dlt_f, dle_t, dle_f, deq_t, deq_f, dne_t, dne_f, not_true_eq_false, Int.reduceAdd, Int.reduceSub, Int.reduceMul, Int.reduceEq, Int.reduceLT, Int.reduceLE, Bool.false_and, Bool.true_and, Bool.and_true, 
      Bool.and_false, ↓xBin_add', ↓xBin_sub', ↓xBin_mul', ↓xBin_quo', ↓xBin_rem', wrap_in, ↓xIf_f, ↓xIf_tt, ↓xEx0, ↓xEx1, ↓xEx2, ↓xEx3, ↓xBin_eqs, ↓xBin_nes, ↓xUn_not, ↓xu8_add, ↓xu8_sub, ↓xu8_mul, ↓xu8_rem, ↓xu8_quo, ↓xu8_and, 
      ↓xu8_xor, ↓xu8_com, ↓xu8_shl, ↓xu8_shr, ↓xu8_eql, ↓xu8_neq, ↓xu8_lss, ↓xu8_gtr, ↓xu16_add, ↓xu16_sub, ↓xu16_mul, ↓xu16_rem, ↓xu16_quo, ↓xu16_and, ↓xu16_xor, ↓xu16_com, ↓xu16_shl, ↓xu16_shr, ↓xu16_eql, ↓xu16_neq, 
      ↓xu16_lss, ↓xu16_gtr, ↓xu32_add, ↓xu32_sub, ↓xu32_mul, ↓xu32_rem, ↓xu32_quo, ↓xu32_and, ↓xu32_xor, ↓xu32_com, ↓xu32_shl, ↓xu32_shr, ↓xu32_eql, ↓xu32_neq, ↓xu32_lss, ↓xu32_gtr, ↓xu64_add, ↓xu64_sub, ↓xu64_mul, ↓xu64_rem, 
      ↓xu64_quo, ↓xu64_and, ↓xu64_xor, ↓xu64_com, ↓xu64_shl, ↓xu64_shr, ↓xu64_eql, ↓xu64_neq, ↓xu64_lss, ↓xu64_gtr, ↓xi64_lss, ↓xi64_gtr, ↓xi64_eql, ↓xi64_neq, ↓xi64_and, ↓xi64_xor, ↓xi64_shl, ↓xi64_shr, ↓xi64_neg, Int.toNat_natCast, 
      Int.reduceToNat, Nat.reduceMul, Nat.reduceAdd, Nat.reduceSub, Nat.mul_one, List.nil_append, List.cons_append, List.getElem?_toArray, List.getElem?_cons_zero, List.getElem?_cons_succ, cells_int, cells_bool, cells_string, 
      cells_slice, cells_pointer, cells_agg, one_int, one_bool, one_string, one_slice, one_pointer, List.setIfInBounds_toArray, List.set_cons_zero, List.set_cons_succ, ↓xDet_s, ↓xDet_ld, ↓xDet_ld2, ↓xDet_ld3, ↓xDet_ld4, 
      World.size_drew, Nat.zero_add, Nat.add_zero, cell_drew, frozen_drew, cell_set_eq, cell_set_o, cell_set_b, Option.map_some, World.frozen?_setCell, decide_true, decide_false, List.not_mem_nil, not_false_eq_true, ↓xGuard_tt, 
      Bool.not_true, Bool.not_false, ←decide_not, ↓ld_5, ↓st_5, ↓cv_3_59, ↓ia_51, ↓ln_51, ↓bs_50_1, ↓bs_50_2, ↓bs_51_0, ↓bs_51_1, ↓bs_51_3, ↓bs_51_4, ↓bs_51_5, g1, g2]
    exact ⟨by trivial, by (repeat (first | with_reducible exact Ext.refl _ _ | with_reducible assumption | with_reducible refine Ext.alloc' ?_ _ | with_reducible refine Ext.drew' ?_ | with_reducible refine Ext.set' ?_ ?_ | exact .inr (by first | omega | (simp only [World.size_alloc, World.size_drew, World.size_setCell] <;> omega)) | refine Ext.trans ?_ (by with_reducible assumption)))⟩
  by_cases g3 : at' < 0
  · simp (disch := (first | omega | decide | (simp only [World.size_alloc, World.size_setCell, World.size_drew, List.mem_cons, List.not_mem_nil, or_false, not_false_eq_true] <;> omega) | fail)) only [↓xBox_r, ↓loadK_some, ↓loadsK_s, ↓loadsK_n, ↓loadsR_s, ↓loadsR_n, ↓storesK_s, ↓storesK_n, setCells_c, setCells_n, World.setCell_alloc_at, World.setCell_alloc_past, World.cell?_alloc_at, World.cell?_alloc_past, 
      World.frozen?_alloc_at, World.frozen?_alloc_past, World.size_alloc, ↓xPick_t, ↓xPick_f, ↓xGuard_tt, ↓xGuard_ff, ↓xGuard_tf, ↓xGuard_ft, ↓xGuard_u, ↓xNil_r, Option.isNone_some, Option.isNone_none, ↓xIf_t, tick_eq, tickV_eq, ne_eq, 
      dlt_t, dlt_f, dle_t, dle_f, deq_t, deq_f, dne_t, dne_f, not_true_eq_false, Int.reduceAdd, Int.reduceSub, Int.reduceMul, Int.reduceEq, Int.reduceLT, Int.reduceLE, Bool.false_and, Bool.true_and, Bool.and_true, 
      Bool.and_false, ↓xBin_add', ↓xBin_sub', ↓xBin_mul', ↓xBin_quo', ↓xBin_rem', wrap_in, ↓xIf_f, ↓xIf_tt, ↓xEx0, ↓xEx1, ↓xEx2, ↓xEx3, ↓xBin_eqs, ↓xBin_nes, ↓xUn_not, ↓xu8_add, ↓xu8_sub, ↓xu8_mul, ↓xu8_rem, ↓xu8_quo, ↓xu8_and, 
      ↓xu8_xor, ↓xu8_com, ↓xu8_shl, ↓xu8_shr, ↓xu8_eql, ↓xu8_neq, ↓xu8_lss, ↓xu8_gtr, ↓xu16_add, ↓xu16_sub, ↓xu16_mul, ↓xu16_rem, ↓xu16_quo, ↓xu16_and, ↓xu16_xor, ↓xu16_com, ↓xu16_shl, ↓xu16_shr, ↓xu16_eql, ↓xu16_neq, 
      ↓xu16_lss, ↓xu16_gtr, ↓xu32_add, ↓xu32_sub, ↓xu32_mul, ↓xu32_rem, ↓xu32_quo, ↓xu32_and, ↓xu32_xor, ↓xu32_com, ↓xu32_shl, ↓xu32_shr, ↓xu32_eql, ↓xu32_neq, ↓xu32_lss, ↓xu32_gtr, ↓xu64_add, ↓xu64_sub, ↓xu64_mul, ↓xu64_rem, 
      ↓xu64_quo, ↓xu64_and, ↓xu64_xor, ↓xu64_com, ↓xu64_shl, ↓xu64_shr, ↓xu64_eql, ↓xu64_neq, ↓xu64_lss, ↓xu64_gtr, ↓xi64_lss, ↓xi64_gtr, ↓xi64_eql, ↓xi64_neq, ↓xi64_and, ↓xi64_xor, ↓xi64_shl, ↓xi64_shr, ↓xi64_neg, Int.toNat_natCast, 
      Int.reduceToNat, Nat.reduceMul, Nat.reduceAdd, Nat.reduceSub, Nat.mul_one, List.nil_append, List.cons_append, List.getElem?_toArray, List.getElem?_cons_zero, List.getElem?_cons_succ, cells_int, cells_bool, cells_string, 
      cells_slice, cells_pointer, cells_agg, one_int, one_bool, one_string, one_slice, one_pointer, List.setIfInBounds_toArray, List.set_cons_zero, List.set_cons_succ, ↓xDet_s, ↓xDet_ld, ↓xDet_ld2, ↓xDet_ld3, ↓xDet_ld4, 
      World.size_drew, Nat.zero_add, Nat.add_zero, cell_drew, frozen_drew, cell_set_eq, cell_set_o, cell_set_b, Option.map_some, World.frozen?_setCell, decide_true, decide_false, List.not_mem_nil, not_false_eq_true, ↓xGuard_tt, 
      Bool.not_true, Bool.not_false, ←decide_not, ↓ld_5, ↓st_5, ↓cv_3_59, ↓ia_51, ↓ln_51, ↓bs_50_1, ↓bs_50_2, ↓bs_51_0, ↓bs_51_1, ↓bs_51_3, ↓bs_51_4, ↓bs_51_5, g1, g2, g3]
    exact ⟨by trivial, by (repeat (first | with_reducible exact Ext.refl _ _ | with_reducible assumption | with_reducible refine Ext.alloc' ?_ _ | with_reducible refine Ext.drew' ?_ | with_reducible refine Ext.set' ?_ ?_ | exact .inr (by first | omega | (simp only [World.size_alloc, World.size_drew, World.size_setCell] <;> omega)) | refine Ext.trans ?_ (by with_reducible assumption)))⟩
  by_cases hx : x = BitVec.ofNat 32 0
  · simp (disch := (first | omega | decide | (simp only [World.size_alloc, World.size_setCell, World.size_drew, List.mem_cons, List.not_mem_nil, or_false, not_false_eq_true] <;> omega) | fail)) only [↓xBox_r, ↓loadK_some, ↓loadsK_s, ↓loadsK_n, ↓loadsR_s, ↓loadsR_n, ↓storesK_s, ↓storesK_n, setCells_c, setCells_n, World.setCell_alloc_at, World.setCell_alloc_past, World.cell?_alloc_at, World.cell?_alloc_past, 
      World.frozen?_alloc_at, World.frozen?_alloc_past, World.size_alloc, ↓xPick_t, ↓xPick_f, ↓xGuard_tt, ↓xGuard_ff, ↓xGuard_tf, ↓xGuard_ft, ↓xGuard_u, ↓xNil_r, Option.isNone_some, Option.isNone_none, ↓xIf_t, tick_eq, tickV_eq, ne_eq, 
      dlt_t, dlt_f, dle_t, dle_f, deq_t, deq_f, dne_t, dne_f, not_true_eq_false, Int.reduceAdd, Int.reduceSub, Int.reduceMul, Int.reduceEq, Int.reduceLT, Int.reduceLE, Bool.false_and, Bool.true_and, Bool.and_true, 
      Bool.and_false, ↓xBin_add', ↓xBin_sub', ↓xBin_mul', ↓xBin_quo', ↓xBin_rem', wrap_in, ↓xIf_f, ↓xIf_tt, ↓xEx0, ↓xEx1, ↓xEx2, ↓xEx3, ↓xBin_eqs, ↓xBin_nes, ↓xUn_not, ↓xu8_add, ↓xu8_sub, ↓xu8_mul, ↓xu8_rem, ↓xu8_quo, ↓xu8_and, 
      ↓xu8_xor, ↓xu8_com, ↓xu8_shl, ↓xu8_shr, ↓xu8_eql, ↓xu8_neq, ↓xu8_lss, ↓xu8_gtr, ↓xu16_add, ↓xu16_sub, ↓xu16_mul, ↓xu16_rem, ↓xu16_quo, ↓xu16_and, ↓xu16_xor, ↓xu16_com, ↓xu16_shl, ↓xu16_shr, ↓xu16_eql, ↓xu16_neq, 
      ↓xu16_lss, ↓xu16_gtr, ↓xu32_add, ↓xu32_sub, ↓xu32_mul, ↓xu32_rem, ↓xu32_quo, ↓xu32_and, ↓xu32_xor, ↓xu32_com, ↓xu32_shl, ↓xu32_shr, ↓xu32_eql, ↓xu32_neq, ↓xu32_lss, ↓xu32_gtr, ↓xu64_add, ↓xu64_sub, ↓xu64_mul, ↓xu64_rem, 
      ↓xu64_quo, ↓xu64_and, ↓xu64_xor, ↓xu64_com, ↓xu64_shl, ↓xu64_shr, ↓xu64_eql, ↓xu64_neq, ↓xu64_lss, ↓xu64_gtr, ↓xi64_lss, ↓xi64_gtr, ↓xi64_eql, ↓xi64_neq, ↓xi64_and, ↓xi64_xor, ↓xi64_shl, ↓xi64_shr, ↓xi64_neg, Int.toNat_natCast, 
      Int.reduceToNat, Nat.reduceMul, Nat.reduceAdd, Nat.reduceSub, Nat.mul_one, List.nil_append, List.cons_append, List.getElem?_toArray, List.getElem?_cons_zero, List.getElem?_cons_succ, cells_int, cells_bool, cells_string, 
      cells_slice, cells_pointer, cells_agg, one_int, one_bool, one_string, one_slice, one_pointer, List.setIfInBounds_toArray, List.set_cons_zero, List.set_cons_succ, ↓xDet_s, ↓xDet_ld, ↓xDet_ld2, ↓xDet_ld3, ↓xDet_ld4, 
      World.size_drew, Nat.zero_add, Nat.add_zero, cell_drew, frozen_drew, cell_set_eq, cell_set_o, cell_set_b, Option.map_some, World.frozen?_setCell, decide_true, decide_false, List.not_mem_nil, not_false_eq_true, ↓xGuard_tt, 
      Bool.not_true, Bool.not_false, ←decide_not, ↓ld_5, ↓st_5, ↓cv_3_59, ↓ia_51, ↓ln_51, ↓bs_50_1, ↓bs_50_2, ↓bs_51_0, ↓bs_51_1, ↓bs_51_3, ↓bs_51_4, ↓bs_51_5, g1, g2, g3, decide_eq_true hx]
    exact ⟨by trivial, by (repeat (first | with_reducible exact Ext.refl _ _ | with_reducible assumption | with_reducible refine Ext.alloc' ?_ _ | with_reducible refine Ext.drew' ?_ | with_reducible refine Ext.set' ?_ ?_ | exact .inr (by first | omega | (simp only [World.size_alloc, World.size_drew, World.size_setCell] <;> omega)) | refine Ext.trans ?_ (by with_reducible assumption)))⟩
  simp (disch := (first | omega | decide | (simp only [World.size_alloc, World.size_setCell, World.size_drew, List.mem_cons, List.not_mem_nil, or_false, not_false_eq_true] <;> omega) | fail)) only [↓xBox_r, ↓loadK_some, ↓loadsK_s, ↓loadsK_n, ↓loadsR_s, ↓loadsR_n, ↓storesK_s, ↓storesK_n, setCells_c, setCells_n, World.setCell_alloc_at, World.setCell_alloc_past, World.cell?_alloc_at, World.cell?_alloc_past, 
      World.frozen?_alloc_at, World.frozen?_alloc_past, World.size_alloc, ↓xPick_t, ↓xPick_f, ↓xGuard_tt, ↓xGuard_ff, ↓xGuard_tf, ↓xGuard_ft, ↓xGuard_u, ↓xNil_r, Option.isNone_some, Option.isNone_none, ↓xIf_t, tick_eq, tickV_eq, ne_eq, 
      dlt_t, dlt_f, dle_t, dle_f, deq_t, deq_f, dne_t, dne_f, not_true_eq_false, Int.reduceAdd, Int.reduceSub, Int.reduceMul, Int.reduceEq, Int.reduceLT, Int.reduceLE, Bool.false_and, Bool.true_and, Bool.and_true, 
      Bool.and_false, ↓xBin_add', ↓xBin_sub', ↓xBin_mul', ↓xBin_quo', ↓xBin_rem', wrap_in, ↓xIf_f, ↓xIf_tt, ↓xEx0, ↓xEx1, ↓xEx2, ↓xEx3, ↓xBin_eqs, ↓xBin_nes, ↓xUn_not, ↓xu8_add, ↓xu8_sub, ↓xu8_mul, ↓xu8_rem, ↓xu8_quo, ↓xu8_and, 
      ↓xu8_xor, ↓xu8_com, ↓xu8_shl, ↓xu8_shr, ↓xu8_eql, ↓xu8_neq, ↓xu8_lss, ↓xu8_gtr, ↓xu16_add, ↓xu16_sub, ↓xu16_mul, ↓xu16_rem, ↓xu16_quo, ↓xu16_and, ↓xu16_xor, ↓xu16_com, ↓xu16_shl, ↓xu16_shr, ↓xu16_eql, ↓xu16_neq, 
      ↓xu16_lss, ↓xu16_gtr, ↓xu32_add, ↓xu32_sub, ↓xu32_mul, ↓xu32_rem, ↓xu32_quo, ↓xu32_and, ↓xu32_xor, ↓xu32_com, ↓xu32_shl, ↓xu32_shr, ↓xu32_eql, ↓xu32_neq, ↓xu32_lss, ↓xu32_gtr, ↓xu64_add, ↓xu64_sub, ↓xu64_mul, ↓xu64_rem, 
      ↓xu64_quo, ↓xu64_and, ↓xu64_xor, ↓xu64_com, ↓xu64_shl, ↓xu64_shr, ↓xu64_eql, ↓xu64_neq, ↓xu64_lss, ↓xu64_gtr, ↓xi64_lss, ↓xi64_gtr, ↓xi64_eql, ↓xi64_neq, ↓xi64_and, ↓xi64_xor, ↓xi64_shl, ↓xi64_shr, ↓xi64_neg, Int.toNat_natCast, 
      Int.reduceToNat, Nat.reduceMul, Nat.reduceAdd, Nat.reduceSub, Nat.mul_one, List.nil_append, List.cons_append, List.getElem?_toArray, List.getElem?_cons_zero, List.getElem?_cons_succ, cells_int, cells_bool, cells_string, 
      cells_slice, cells_pointer, cells_agg, one_int, one_bool, one_string, one_slice, one_pointer, List.setIfInBounds_toArray, List.set_cons_zero, List.set_cons_succ, ↓xDet_s, ↓xDet_ld, ↓xDet_ld2, ↓xDet_ld3, ↓xDet_ld4, 
      World.size_drew, Nat.zero_add, Nat.add_zero, cell_drew, frozen_drew, cell_set_eq, cell_set_o, cell_set_b, Option.map_some, World.frozen?_setCell, decide_true, decide_false, List.not_mem_nil, not_false_eq_true, ↓xGuard_tt, 
      Bool.not_true, Bool.not_false, ←decide_not, ↓ld_5, ↓st_5, ↓cv_3_59, ↓ia_51, ↓ln_51, ↓bs_50_1, ↓bs_50_2, ↓bs_51_0, ↓bs_51_1, ↓bs_51_3, ↓bs_51_4, ↓bs_51_5, g1, g2, g3, decide_eq_false hx]
  refine xAppend_own (e := 5) (base := w1.heap.size) (xs := []) (news := bys l) (z := .int .u8 0) (bytes := 1) (by kernel_rfl) (by kernel_rfl) (by rfl) (World.ownsRow_lit w1 #[] 0 (Nat.le_refl _) (by decide) (by rfl)) (by simp) ((h.ext0 E1).ext0 (Ext.alloc _ _ _)) hnil (by simp [Value.oneCell']) (by omega) (by omega) (by simp) ?_
  intro v' w' hown hgr
  rw [Nat.zero_add, List.nil_append] at hown
  obtain ⟨g, cap, rest, rfl, hg, hB, hnc, hm, hcl⟩ := own_open hown (by omega)
  have F2 : Ext [] w1 w' := grownBy_new (Ext.alloc [] w1 _) hgr (fun k hk => by simp [Value.ownBlock] at hk; omega)
  obtain ⟨k, hk⟩ : ∃ k : Nat, at' % (8 * (l.length : Int) - 31) = k := ⟨(at' % (8 * (l.length : Int) - 31)).toNat, by have := Int.emod_nonneg at' (b := 8 * (l.length : Int) - 31) (by omega); omega⟩
  have hk2 : k + 32 ≤ 8 * l.length := by have := Int.emod_lt_of_pos at' (b := 8 * (l.length : Int) - 31) (by omega); omega
  rw [hk]
  refine xLoop_n 32 (fun i => [i64 i]) (fun i v => Ext [] w1 v ∧ Blk v g 5 (bys (turnL l x k i) ++ rest)) ?_ ⟨F2, hB⟩ ?_ ?_
  · rfl
  · rintro i hi u v hu ⟨F, B⟩ nxt hn
    simp only [List.map_cons, List.map_nil, List.cons.injEq, and_true] at hu
    rw [hu]
    unfold loamlaw2_SumsTurned_l1 loamlaw2_SumsTurned_j1
    have hlen := turnL_length l x k i
    have hj : (k + i) / 8 < (turnL l x k i).length := by omega
    have t3 : (BitVec.ofInt 64 (i : Int)).toNat = i := by rw [BitVec.toNat_ofInt]; omega
    have t4 : (((k : Int) + (i : Int)) / 8).toNat = (k + i) / 8 := by omega
    have t5 : (BitVec.ofInt 64 (((k : Int) + (i : Int)) % 8)).toNat = (k + i) % 8 := by rw [BitVec.toNat_ofInt]; omega
    have c1 : v.cell? ⟨g, (k + i) / 8, none⟩ = some (u8 ((turnL l x k i).getD ((k + i) / 8) 0#8)) := by
      rw [B.cell, List.getElem?_append_left (by simpa using hj), List.getElem?_map, List.getD_eq_getElem?_getD]
      simp [hj]
    have f1 : v.frozen? ⟨g, (k + i) / 8, none⟩ = false := B.frozen
    by_cases hb : x.getLsbD i = true
    · simp (disch := (first | omega | decide | (simp only [World.size_alloc, World.size_setCell, World.size_drew, List.mem_cons, List.not_mem_nil, or_false, not_false_eq_true] <;> omega) | fail)) only [↓xBox_r, ↓loadK_some, ↓loadsK_s, ↓loadsK_n, ↓loadsR_s, ↓loadsR_n, ↓storesK_s, ↓storesK_n, setCells_c, setCells_n, World.setCell_alloc_at, World.setCell_alloc_past, World.cell?_alloc_at, World.cell?_alloc_past, 
      World.frozen?_alloc_at, World.frozen?_alloc_past, World.size_alloc, ↓xPick_t, ↓xPick_f, ↓xGuard_tt, ↓xGuard_ff, ↓xGuard_tf, ↓xGuard_ft, ↓xGuard_u, ↓xNil_r, Option.isNone_some, Option.isNone_none, ↓xIf_t, tick_eq, tickV_eq, ne_eq, 
      dlt_t, dlt_f, dle_t, dle_f, deq_t, deq_f, dne_t, dne_f, not_true_eq_false, Int.reduceAdd, Int.reduceSub, Int.reduceMul, Int.reduceEq, Int.reduceLT, Int.reduceLE, Bool.false_and, Bool.true_and, Bool.and_true, 
      Bool.and_false, ↓xBin_add', ↓xBin_sub', ↓xBin_mul', ↓xBin_quo', ↓xBin_rem', wrap_in, ↓xIf_f, ↓xIf_tt, ↓xEx0, ↓xEx1, ↓xEx2, ↓xEx3, ↓xBin_eqs, ↓xBin_nes, ↓xUn_not, ↓xu8_add, ↓xu8_sub, ↓xu8_mul, ↓xu8_rem, ↓xu8_quo, ↓xu8_and, 
      ↓xu8_xor, ↓xu8_com, ↓xu8_shl, ↓xu8_shr, ↓xu8_eql, ↓xu8_neq, ↓xu8_lss, ↓xu8_gtr, ↓xu16_add, ↓xu16_sub, ↓xu16_mul, ↓xu16_rem, ↓xu16_quo, ↓xu16_and, ↓xu16_xor, ↓xu16_com, ↓xu16_shl, ↓xu16_shr, ↓xu16_eql, ↓xu16_neq, 
      ↓xu16_lss, ↓xu16_gtr, ↓xu32_add, ↓xu32_sub, ↓xu32_mul, ↓xu32_rem, ↓xu32_quo, ↓xu32_and, ↓xu32_xor, ↓xu32_com, ↓xu32_shl, ↓xu32_shr, ↓xu32_eql, ↓xu32_neq, ↓xu32_lss, ↓xu32_gtr, ↓xu64_add, ↓xu64_sub, ↓xu64_mul, ↓xu64_rem, 
      ↓xu64_quo, ↓xu64_and, ↓xu64_xor, ↓xu64_com, ↓xu64_shl, ↓xu64_shr, ↓xu64_eql, ↓xu64_neq, ↓xu64_lss, ↓xu64_gtr, ↓xi64_lss, ↓xi64_gtr, ↓xi64_eql, ↓xi64_neq, ↓xi64_and, ↓xi64_xor, ↓xi64_shl, ↓xi64_shr, ↓xi64_neg, Int.toNat_natCast, 
      Int.reduceToNat, Nat.reduceMul, Nat.reduceAdd, Nat.reduceSub, Nat.mul_one, List.nil_append, List.cons_append, List.getElem?_toArray, List.getElem?_cons_zero, List.getElem?_cons_succ, cells_int, cells_bool, cells_string, 
      cells_slice, cells_pointer, cells_agg, one_int, one_bool, one_string, one_slice, one_pointer, List.setIfInBounds_toArray, List.set_cons_zero, List.set_cons_succ, ↓xDet_s, ↓xDet_ld, ↓xDet_ld2, ↓xDet_ld3, ↓xDet_ld4, 
      World.size_drew, Nat.zero_add, Nat.add_zero, cell_drew, frozen_drew, cell_set_eq, cell_set_o, cell_set_b, Option.map_some, World.frozen?_setCell, decide_true, decide_false, List.not_mem_nil, not_false_eq_true, ↓xGuard_tt, 
      Bool.not_true, Bool.not_false, ←decide_not, ↓ld_5, ↓st_5, ↓cv_3_59, ↓ia_51, ↓ln_51, ↓bs_50_1, ↓bs_50_2, ↓bs_51_0, ↓bs_51_1, ↓bs_51_3, ↓bs_51_4, ↓bs_51_5, g1, g2, g3, decide_eq_false hx, t3, decide_eq_true ((bit_test x i).2 hb), t4, t5, c1, f1]
      have B2 := B.set (i := (k + i) / 8) (v := u8 ((turnL l x k i).getD ((k + i) / 8) 0#8 ^^^ (BitVec.ofNat 8 1 <<< ((k + i) % 8))))
      rw [List.set_append_left _ _ (by simpa using hj), bys_set] at B2
      have e : (turnL l x k i).set ((k + i) / 8) ((turnL l x k i).getD ((k + i) / 8) 0#8 ^^^ (BitVec.ofNat 8 1 <<< ((k + i) % 8))) = turnL l x k (i + 1) := by rw [turnL, if_pos hb]
      rw [e] at B2
      exact hn _ ⟨F.set' (.inr hg), B2⟩
    · simp (disch := (first | omega | decide | (simp only [World.size_alloc, World.size_setCell, World.size_drew, List.mem_cons, List.not_mem_nil, or_false, not_false_eq_true] <;> omega) | fail)) only [↓xBox_r, ↓loadK_some, ↓loadsK_s, ↓loadsK_n, ↓loadsR_s, ↓loadsR_n, ↓storesK_s, ↓storesK_n, setCells_c, setCells_n, World.setCell_alloc_at, World.setCell_alloc_past, World.cell?_alloc_at, World.cell?_alloc_past, 
      World.frozen?_alloc_at, World.frozen?_alloc_past, World.size_alloc, ↓xPick_t, ↓xPick_f, ↓xGuard_tt, ↓xGuard_ff, ↓xGuard_tf, ↓xGuard_ft, ↓xGuard_u, ↓xNil_r, Option.isNone_some, Option.isNone_none, ↓xIf_t, tick_eq, tickV_eq, ne_eq, 
      dlt_t, dlt_f, dle_t, dle_f, deq_t, deq_f, dne_t, dne_f, not_true_eq_false, Int.reduceAdd, Int.reduceSub, Int.reduceMul, Int.reduceEq, Int.reduceLT, Int.reduceLE, Bool.false_and, Bool.true_and, Bool.and_true, 
      Bool.and_false, ↓xBin_add', ↓xBin_sub', ↓xBin_mul', ↓xBin_quo', ↓xBin_rem', wrap_in, ↓xIf_f, ↓xIf_tt, ↓xEx0, ↓xEx1, ↓xEx2, ↓xEx3, ↓xBin_eqs, ↓xBin_nes, ↓xUn_not, ↓xu8_add, ↓xu8_sub, ↓xu8_mul, ↓xu8_rem, ↓xu8_quo, ↓xu8_and, 
      ↓xu8_xor, ↓xu8_com, ↓xu8_shl, ↓xu8_shr, ↓xu8_eql, ↓xu8_neq, ↓xu8_lss, ↓xu8_gtr, ↓xu16_add, ↓xu16_sub, ↓xu16_mul, ↓xu16_rem, ↓xu16_quo, ↓xu16_and, ↓xu16_xor, ↓xu16_com, ↓xu16_shl, ↓xu16_shr, ↓xu16_eql, ↓xu16_neq, 
      ↓xu16_lss, ↓xu16_gtr, ↓xu32_add, ↓xu32_sub, ↓xu32_mul, ↓xu32_rem, ↓xu32_quo, ↓xu32_and, ↓xu32_xor, ↓xu32_com, ↓xu32_shl, ↓xu32_shr, ↓xu32_eql, ↓xu32_neq, ↓xu32_lss, ↓xu32_gtr, ↓xu64_add, ↓xu64_sub, ↓xu64_mul, ↓xu64_rem, 
      ↓xu64_quo, ↓xu64_and, ↓xu64_xor, ↓xu64_com, ↓xu64_shl, ↓xu64_shr, ↓xu64_eql, ↓xu64_neq, ↓xu64_lss, ↓xu64_gtr, ↓xi64_lss, ↓xi64_gtr, ↓xi64_eql, ↓xi64_neq, ↓xi64_and, ↓xi64_xor, ↓xi64_shl, ↓xi64_shr, ↓xi64_neg, Int.toNat_natCast, 
      Int.reduceToNat, Nat.reduceMul, Nat.reduceAdd, Nat.reduceSub, Nat.mul_one, List.nil_append, List.cons_append, List.getElem?_toArray, List.getElem?_cons_zero, List.getElem?_cons_succ, cells_int, cells_bool, cells_string, 
      cells_slice, cells_pointer, cells_agg, one_int, one_bool, one_string, one_slice, one_pointer, List.setIfInBounds_toArray, List.set_cons_zero, List.set_cons_succ, ↓xDet_s, ↓xDet_ld, ↓xDet_ld2, ↓xDet_ld3, ↓xDet_ld4, 
      World.size_drew, Nat.zero_add, Nat.add_zero, cell_drew, frozen_drew, cell_set_eq, cell_set_o, cell_set_b, Option.map_some, World.frozen?_setCell, decide_true, decide_false, List.not_mem_nil, not_false_eq_true, ↓xGuard_tt, 
      Bool.not_true, Bool.not_false, ←decide_not, ↓ld_5, ↓st_5, ↓cv_3_59, ↓ia_51, ↓ln_51, ↓bs_50_1, ↓bs_50_2, ↓bs_51_0, ↓bs_51_1, ↓bs_51_3, ↓bs_51_4, ↓bs_51_5, g1, g2, g3, decide_eq_false hx, t3, decide_eq_false (fun e => hb ((bit_test x i).1 e))]
      have e : turnL l x k i = turnL l x k (i + 1) := by rw [turnL, if_neg hb]
      rw [e] at B
      exact hn _ ⟨F, B⟩
  · rintro u v hu ⟨F, B⟩ nxt
    simp only [List.map_cons, List.map_nil, List.cons.injEq, and_true] at hu
    rw [hu]
    unfold loamlaw2_SumsTurned_l1
    have hlen := turnL_length l x k 32
    simp (disch := (first | omega | decide | (simp only [World.size_alloc, World.size_setCell, World.size_drew, List.mem_cons, List.not_mem_nil, or_false, not_false_eq_true] <;> omega) | fail)) only [↓xBox_r, ↓loadK_some, ↓loadsK_s, ↓loadsK_n, ↓loadsR_s, ↓loadsR_n, ↓storesK_s, ↓storesK_n, setCells_c, setCells_n, World.setCell_alloc_at, World.setCell_alloc_past, World.cell?_alloc_at, World.cell?_alloc_past, 
      World.frozen?_alloc_at, World.frozen?_alloc_past, World.size_alloc, ↓xPick_t, ↓xPick_f, ↓xGuard_tt, ↓xGuard_ff, ↓xGuard_tf, ↓xGuard_ft, ↓xGuard_u, ↓xNil_r, Option.isNone_some, Option.isNone_none, ↓xIf_t, tick_eq, tickV_eq, ne_eq, 
      dlt_t, dlt_f, dle_t, dle_f, deq_t, deq_f, dne_t, dne_f, not_true_eq_false, Int.reduceAdd, Int.reduceSub, Int.reduceMul, Int.reduceEq, Int.reduceLT, Int.reduceLE, Bool.false_and, Bool.true_and, Bool.and_true, 
      Bool.and_false, ↓xBin_add', ↓xBin_sub', ↓xBin_mul', ↓xBin_quo', ↓xBin_rem', wrap_in, ↓xIf_f, ↓xIf_tt, ↓xEx0, ↓xEx1, ↓xEx2, ↓xEx3, ↓xBin_eqs, ↓xBin_nes, ↓xUn_not, ↓xu8_add, ↓xu8_sub, ↓xu8_mul, ↓xu8_rem, ↓xu8_quo, ↓xu8_and, 
      ↓xu8_xor, ↓xu8_com, ↓xu8_shl, ↓xu8_shr, ↓xu8_eql, ↓xu8_neq, ↓xu8_lss, ↓xu8_gtr, ↓xu16_add, ↓xu16_sub, ↓xu16_mul, ↓xu16_rem, ↓xu16_quo, ↓xu16_and, ↓xu16_xor, ↓xu16_com, ↓xu16_shl, ↓xu16_shr, ↓xu16_eql, ↓xu16_neq, 
      ↓xu16_lss, ↓xu16_gtr, ↓xu32_add, ↓xu32_sub, ↓xu32_mul, ↓xu32_rem, ↓xu32_quo, ↓xu32_and, ↓xu32_xor, ↓xu32_com, ↓xu32_shl, ↓xu32_shr, ↓xu32_eql, ↓xu32_neq, ↓xu32_lss, ↓xu32_gtr, ↓xu64_add, ↓xu64_sub, ↓xu64_mul, ↓xu64_rem, 
      ↓xu64_quo, ↓xu64_and, ↓xu64_xor, ↓xu64_com, ↓xu64_shl, ↓xu64_shr, ↓xu64_eql, ↓xu64_neq, ↓xu64_lss, ↓xu64_gtr, ↓xi64_lss, ↓xi64_gtr, ↓xi64_eql, ↓xi64_neq, ↓xi64_and, ↓xi64_xor, ↓xi64_shl, ↓xi64_shr, ↓xi64_neg, Int.toNat_natCast, 
      Int.reduceToNat, Nat.reduceMul, Nat.reduceAdd, Nat.reduceSub, Nat.mul_one, List.nil_append, List.cons_append, List.getElem?_toArray, List.getElem?_cons_zero, List.getElem?_cons_succ, cells_int, cells_bool, cells_string, 
      cells_slice, cells_pointer, cells_agg, one_int, one_bool, one_string, one_slice, one_pointer, List.setIfInBounds_toArray, List.set_cons_zero, List.set_cons_succ, ↓xDet_s, ↓xDet_ld, ↓xDet_ld2, ↓xDet_ld3, ↓xDet_ld4, 
      World.size_drew, Nat.zero_add, Nat.add_zero, cell_drew, frozen_drew, cell_set_eq, cell_set_o, cell_set_b, Option.map_some, World.frozen?_setCell, decide_true, decide_false, List.not_mem_nil, not_false_eq_true, ↓xGuard_tt, 
      Bool.not_true, Bool.not_false, ←decide_not, ↓ld_5, ↓st_5, ↓cv_3_59, ↓ia_51, ↓ln_51, ↓bs_50_1, ↓bs_50_2, ↓bs_51_0, ↓bs_51_1, ↓bs_51_3, ↓bs_51_4, ↓bs_51_5, g1, g2, g3, decide_eq_false hx]
    have r1 : RowAt v (some ⟨g, 0, none⟩) (bys (turnL l x k 32)) := by
      have := B.row.take (turnL l x k 32).length
      rwa [List.take_left' (by simp)] at this
    rw [← hlen]
    refine crc_Sum_call (Gives.to (Sum_spec _ _ _ _ _ rfl (by decide) (one_part r1 (by omega))) fun v3 F3 => ?_)
    simp (disch := (first | omega | decide | (simp only [World.size_alloc, World.size_setCell, World.size_drew, List.mem_cons, List.not_mem_nil, or_false, not_false_eq_true] <;> omega) | fail)) only [↓xBox_r, ↓loadK_some, ↓loadsK_s, ↓loadsK_n, ↓loadsR_s, ↓loadsR_n, ↓storesK_s, ↓storesK_n, setCells_c, setCells_n, World.setCell_alloc_at, World.setCell_alloc_past, World.cell?_alloc_at, World.cell?_alloc_past, 
      World.frozen?_alloc_at, World.frozen?_alloc_past, World.size_alloc, ↓xPick_t, ↓xPick_f, ↓xGuard_tt, ↓xGuard_ff, ↓xGuard_tf, ↓xGuard_ft, ↓xGuard_u, ↓xNil_r, Option.isNone_some, Option.isNone_none, ↓xIf_t, tick_eq, tickV_eq, ne_eq, 
      dlt_t, dlt_f, dle_t, dle_f, deq_t, deq_f, dne_t, dne_f, not_true_eq_false, Int.reduceAdd, Int.reduceSub, Int.reduceMul, Int.reduceEq, Int.reduceLT, Int.reduceLE, Bool.false_and, Bool.true_and, Bool.and_true, 
      Bool.and_false, ↓xBin_add', ↓xBin_sub', ↓xBin_mul', ↓xBin_quo', ↓xBin_rem', wrap_in, ↓xIf_f, ↓xIf_tt, ↓xEx0, ↓xEx1, ↓xEx2, ↓xEx3, ↓xBin_eqs, ↓xBin_nes, ↓xUn_not, ↓xu8_add, ↓xu8_sub, ↓xu8_mul, ↓xu8_rem, ↓xu8_quo, ↓xu8_and, 
      ↓xu8_xor, ↓xu8_com, ↓xu8_shl, ↓xu8_shr, ↓xu8_eql, ↓xu8_neq, ↓xu8_lss, ↓xu8_gtr, ↓xu16_add, ↓xu16_sub, ↓xu16_mul, ↓xu16_rem, ↓xu16_quo, ↓xu16_and, ↓xu16_xor, ↓xu16_com, ↓xu16_shl, ↓xu16_shr, ↓xu16_eql, ↓xu16_neq, 
      ↓xu16_lss, ↓xu16_gtr, ↓xu32_add, ↓xu32_sub, ↓xu32_mul, ↓xu32_rem, ↓xu32_quo, ↓xu32_and, ↓xu32_xor, ↓xu32_com, ↓xu32_shl, ↓xu32_shr, ↓xu32_eql, ↓xu32_neq, ↓xu32_lss, ↓xu32_gtr, ↓xu64_add, ↓xu64_sub, ↓xu64_mul, ↓xu64_rem, 
      ↓xu64_quo, ↓xu64_and, ↓xu64_xor, ↓xu64_com, ↓xu64_shl, ↓xu64_shr, ↓xu64_eql, ↓xu64_neq, ↓xu64_lss, ↓xu64_gtr, ↓xi64_lss, ↓xi64_gtr, ↓xi64_eql, ↓xi64_neq, ↓xi64_and, ↓xi64_xor, ↓xi64_shl, ↓xi64_shr, ↓xi64_neg, Int.toNat_natCast, 
      Int.reduceToNat, Nat.reduceMul, Nat.reduceAdd, Nat.reduceSub, Nat.mul_one, List.nil_append, List.cons_append, List.getElem?_toArray, List.getElem?_cons_zero, List.getElem?_cons_succ, cells_int, cells_bool, cells_string, 
      cells_slice, cells_pointer, cells_agg, one_int, one_bool, one_string, one_slice, one_pointer, List.setIfInBounds_toArray, List.set_cons_zero, List.set_cons_succ, ↓xDet_s, ↓xDet_ld, ↓xDet_ld2, ↓xDet_ld3, ↓xDet_ld4, 
      World.size_drew, Nat.zero_add, Nat.add_zero, cell_drew, frozen_drew, cell_set_eq, cell_set_o, cell_set_b, Option.map_some, World.frozen?_setCell, decide_true, decide_false, List.not_mem_nil, not_false_eq_true, ↓xGuard_tt, 
      Bool.not_true, Bool.not_false, ←decide_not, ↓ld_5, ↓st_5, ↓cv_3_59, ↓ia_51, ↓ln_51, ↓bs_50_1, ↓bs_50_2, ↓bs_51_0, ↓bs_51_1, ↓bs_51_3, ↓bs_51_4, ↓bs_51_5, g1, g2, g3, decide_eq_false hx]
    have r2 : RowAt v3 a (bys l) := (((h.ext0 E1).ext0 F).ext0 (Ext.alloc _ _ _)).ext0 F3
    rw [hlen]
    refine crc_Sum_call (Gives.to (Sum_spec _ _ _ _ _ rfl (by decide) (one_part r2 (by omega))) fun v4 F4 => ?_)
    have hne : ¬ sumsV (BitVec.ofNat 32 0) [turnL l x k 32] = sumsV (BitVec.ofNat 32 0) [l] := sum_turned hx hk2
    simp only [List.map_cons, List.map_nil]
    simp (disch := (first | omega | decide | (simp only [World.size_alloc, World.size_setCell, World.size_drew, List.mem_cons, List.not_mem_nil, or_false, not_false_eq_true] <;> omega) | fail)) only [↓xBox_r, ↓loadK_some, ↓loadsK_s, ↓loadsK_n, ↓loadsR_s, ↓loadsR_n, ↓storesK_s, ↓storesK_n, setCells_c, setCells_n, World.setCell_alloc_at, World.setCell_alloc_past, World.cell?_alloc_at, World.cell?_alloc_past, 
      World.frozen?_alloc_at, World.frozen?_alloc_past, World.size_alloc, ↓xPick_t, ↓xPick_f, ↓xGuard_tt, ↓xGuard_ff, ↓xGuard_tf, ↓xGuard_ft, ↓xGuard_u, ↓xNil_r, Option.isNone_some, Option.isNone_none, ↓xIf_t, tick_eq, tickV_eq, ne_eq, 
      dlt_t, dlt_f, dle_t, dle_f, deq_t, deq_f, dne_t, dne_f, not_true_eq_false, Int.reduceAdd, Int.reduceSub, Int.reduceMul, Int.reduceEq, Int.reduceLT, Int.reduceLE, Bool.false_and, Bool.true_and, Bool.and_true, 
      Bool.and_false, ↓xBin_add', ↓xBin_sub', ↓xBin_mul', ↓xBin_quo', ↓xBin_rem', wrap_in, ↓xIf_f, ↓xIf_tt, ↓xEx0, ↓xEx1, ↓xEx2, ↓xEx3, ↓xBin_eqs, ↓xBin_nes, ↓xUn_not, ↓xu8_add, ↓xu8_sub, ↓xu8_mul, ↓xu8_rem, ↓xu8_quo, ↓xu8_and, 
      ↓xu8_xor, ↓xu8_com, ↓xu8_shl, ↓xu8_shr, ↓xu8_eql, ↓xu8_neq, ↓xu8_lss, ↓xu8_gtr, ↓xu16_add, ↓xu16_sub, ↓xu16_mul, ↓xu16_rem, ↓xu16_quo, ↓xu16_and, ↓xu16_xor, ↓xu16_com, ↓xu16_shl, ↓xu16_shr, ↓xu16_eql, ↓xu16_neq, 
      ↓xu16_lss, ↓xu16_gtr, ↓xu32_add, ↓xu32_sub, ↓xu32_mul, ↓xu32_rem, ↓xu32_quo, ↓xu32_and, ↓xu32_xor, ↓xu32_com, ↓xu32_shl, ↓xu32_shr, ↓xu32_eql, ↓xu32_neq, ↓xu32_lss, ↓xu32_gtr, ↓xu64_add, ↓xu64_sub, ↓xu64_mul, ↓xu64_rem, 
      ↓xu64_quo, ↓xu64_and, ↓xu64_xor, ↓xu64_com, ↓xu64_shl, ↓xu64_shr, ↓xu64_eql, ↓xu64_neq, ↓xu64_lss, ↓xu64_gtr, ↓xi64_lss, ↓xi64_gtr, ↓xi64_eql, ↓xi64_neq, ↓xi64_and, ↓xi64_xor, ↓xi64_shl, ↓xi64_shr, ↓xi64_neg, Int.toNat_natCast, 
      Int.reduceToNat, Nat.reduceMul, Nat.reduceAdd, Nat.reduceSub, Nat.mul_one, List.nil_append, List.cons_append, List.getElem?_toArray, List.getElem?_cons_zero, List.getElem?_cons_succ, cells_int, cells_bool, cells_string, 
      cells_slice, cells_pointer, cells_agg, one_int, one_bool, one_string, one_slice, one_pointer, List.setIfInBounds_toArray, List.set_cons_zero, List.set_cons_succ, ↓xDet_s, ↓xDet_ld, ↓xDet_ld2, ↓xDet_ld3, ↓xDet_ld4, 
      World.size_drew, Nat.zero_add, Nat.add_zero, cell_drew, frozen_drew, cell_set_eq, cell_set_o, cell_set_b, Option.map_some, World.frozen?_setCell, decide_true, decide_false, List.not_mem_nil, not_false_eq_true, ↓xGuard_tt, 
      Bool.not_true, Bool.not_false, ←decide_not, ↓ld_5, ↓st_5, ↓cv_3_59, ↓ia_51, ↓ln_51, ↓bs_50_1, ↓bs_50_2, ↓bs_51_0, ↓bs_51_1, ↓bs_51_3, ↓bs_51_4, ↓bs_51_5, g1, g2, g3, decide_eq_false hx, decide_eq_true hne]
    exact ⟨by trivial, ((((E1.trans F).trans (Ext.alloc _ _ _)).trans F3).trans (Ext.alloc _ _ _)).trans F4⟩
end Go.Proofs.Ytohonkbneimkoaa
