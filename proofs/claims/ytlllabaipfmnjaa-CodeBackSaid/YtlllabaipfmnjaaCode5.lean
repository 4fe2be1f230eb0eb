/- How long a number is, and what one that is cut says: walked. -/
import Derived.Test.YtlllabaipfmnjaaCode4
set_option linter.unusedVariables false
set_option linter.unusedSimpArgs false
set_option maxHeartbeats 4000000
namespace Go.Proofs.Ytlllabaipfmnjaa
open Go.Sh Go.RowKit

theorem CodeShort_spec (v cut : Int) (hv : 0 ≤ v ∧ v ≤ 18446744073709551615) (w : World) : Gives Try.prog n_loamlaw5_CodeShort #[.int .u64 v, i64 cut] w (.bool true) := by
  rw [u64_of hv.1 hv.2]
  generalize BitVec.ofInt 64 v = x
  refine loamlaw5_CodeShort_of ?_
  unfold loamlaw5_CodeShort
  refine loamlaw5_known_call (Gives.to (known5_spec _) fun w1 E1 => ?_)
  have z1 := E1.size
  try simp only [World.size_alloc, World.size_setCell, World.size_drew] at z1
  simp (disch := (first | omega | decide | (simp only [World.size_alloc, World.size_setCell, World.size_drew, List.mem_cons, List.not_mem_nil, or_false, not_false_eq_true] <;> omega) | fail)) only [↓xBox_r, ↓loadK_some, ↓loadsK_s, ↓loadsK_n, ↓loadsR_s, ↓loadsR_n, ↓storesK_s, ↓storesK_n, setCells_c, setCells_n, World.setCell_alloc_at, World.setCell_alloc_past, World.cell?_alloc_at, World.cell?_alloc_past, 
      World.frozen?_alloc_at, World.frozen?_alloc_past, World.size_alloc, ↓xPick_t, ↓xPick_f, ↓xGuard_tt, ↓xGuard_ff, ↓xGuard_tf, ↓xGuard_ft, ↓xGuard_u, ↓xNil_r, Option.isNone_some, Option.isNone_none, ↓xIf_t, tick_eq, tickV_eq, ne_eq, 
      dlt_t, dlt_f, dle_t, dle_f, deq_t, deq_f, dne_t, dne_f, not_true_eq_false, Int.reduceAdd, Int.reduceSub, Int.reduceMul, Int.reduceEq, Int.reduceLT, Int.reduceLE, Bool.false_and, Bool.true_and, Bool.and_true, 
      Bool.and_false, ↓xBin_add', ↓xBin_sub', ↓xBin_mul', ↓xBin_quo', ↓xBin_rem', wrap_in, ↓xIf_f, ↓xIf_tt, ↓xEx0, ↓xEx1, ↓xEx2, ↓xEx3, ↓xBin_eqs, ↓xBin_nes, ↓xUn_not, ↓xu8_add, ↓xu8_rem, ↓xu8_com, ↓xu8_shr, ↓xu8_eql, ↓xu8_neq, 
      ↓xu8_lss, ↓xu8_gtr, ↓xu16_add, ↓xu16_rem, ↓xu16_com, ↓xu16_shr, ↓xu16_eql, ↓xu16_neq, ↓xu16_lss, ↓xu16_gtr, ↓xu32_add, ↓xu32_rem, ↓xu32_com, ↓xu32_shr, ↓xu32_eql, ↓xu32_neq, ↓xu32_lss, ↓xu32_gtr, ↓xu64_add, ↓xu64_rem, 
      ↓xu64_com, ↓xu64_shr, ↓xu64_eql, ↓xu64_neq, ↓xu64_lss, ↓xu64_gtr, ↓xi64_lss, ↓xi64_gtr, ↓xi64_eql, ↓xi64_neq, ↓xi64_shr, ↓xi64_neg, Int.toNat_natCast, Int.reduceToNat, Nat.reduceMul, Nat.reduceAdd, Nat.reduceSub, 
      Nat.mul_one, List.nil_append, List.cons_append, List.getElem?_toArray, List.getElem?_cons_zero, List.getElem?_cons_succ, cells_int, cells_bool, cells_string, cells_slice, cells_pointer, cells_agg, one_int, one_bool, 
      one_string, one_slice, one_pointer, List.setIfInBounds_toArray, List.set_cons_zero, List.set_cons_succ, ↓xSq_r, ↓xPur_s, ↓xRd_s, ↓xRe_s, ↓xDet_s, ↓xDet_ld, ↓xDet_ld2, ↓xDet_ld3, ↓xDet_ld4, World.size_drew, Nat.zero_add, 
      Nat.add_zero, cell_drew, frozen_drew, cell_set_eq, cell_set_o, cell_set_b, Option.map_some, World.frozen?_setCell, decide_true, decide_false, List.not_mem_nil, not_false_eq_true, ↓xGuard_tt, Bool.not_true, Bool.not_false, 
      ←decide_not, ↓bd_28, ↓ln_26, ↓sh_26, ↓sl_26, ↓sm_26, eq_self]
  have H0 := enc_new (w := w1) (Nat.le_refl w1.heap.size)
  have G0 : Ext [] w1 (w1.alloc (.cells [Value.slice none 0 0].toArray 28)) := Ext.alloc _ _ _
  refine codec_Enc_Uint_call (Yld.mono (Enc_Uint_spec x H0 (by simp)) ?_)
  rintro u v1 ⟨rfl, s1, F1, H1, S1⟩
  have G1 := G0.new F1 (fun y hy => (H0.up y hy).1)
  rw [List.nil_append] at H1
  have hpos : 0 < (uintB x).length := uintF_pos
  have hlen : (uintB x).length ≤ 10 := uintF_le
  obtain ⟨hs1, hs2⟩ := uintB_shift x
  simp (disch := (first | omega | decide | (simp only [World.size_alloc, World.size_setCell, World.size_drew, List.mem_cons, List.not_mem_nil, or_false, not_false_eq_true] <;> omega) | fail)) only [↓xBox_r, ↓loadK_some, ↓loadsK_s, ↓loadsK_n, ↓loadsR_s, ↓loadsR_n, ↓storesK_s, ↓storesK_n, setCells_c, setCells_n, World.setCell_alloc_at, World.setCell_alloc_past, World.cell?_alloc_at, World.cell?_alloc_past, 
      World.frozen?_alloc_at, World.frozen?_alloc_past, World.size_alloc, ↓xPick_t, ↓xPick_f, ↓xGuard_tt, ↓xGuard_ff, ↓xGuard_tf, ↓xGuard_ft, ↓xGuard_u, ↓xNil_r, Option.isNone_some, Option.isNone_none, ↓xIf_t, tick_eq, tickV_eq, ne_eq, 
      dlt_t, dlt_f, dle_t, dle_f, deq_t, deq_f, dne_t, dne_f, not_true_eq_false, Int.reduceAdd, Int.reduceSub, Int.reduceMul, Int.reduceEq, Int.reduceLT, Int.reduceLE, Bool.false_and, Bool.true_and, Bool.and_true, 
      Bool.and_false, ↓xBin_add', ↓xBin_sub', ↓xBin_mul', ↓xBin_quo', ↓xBin_rem', wrap_in, ↓xIf_f, ↓xIf_tt, ↓xEx0, ↓xEx1, ↓xEx2, ↓xEx3, ↓xBin_eqs, ↓xBin_nes, ↓xUn_not, ↓xu8_add, ↓xu8_rem, ↓xu8_com, ↓xu8_shr, ↓xu8_eql, ↓xu8_neq, 
      ↓xu8_lss, ↓xu8_gtr, ↓xu16_add, ↓xu16_rem, ↓xu16_com, ↓xu16_shr, ↓xu16_eql, ↓xu16_neq, ↓xu16_lss, ↓xu16_gtr, ↓xu32_add, ↓xu32_rem, ↓xu32_com, ↓xu32_shr, ↓xu32_eql, ↓xu32_neq, ↓xu32_lss, ↓xu32_gtr, ↓xu64_add, ↓xu64_rem, 
      ↓xu64_com, ↓xu64_shr, ↓xu64_eql, ↓xu64_neq, ↓xu64_lss, ↓xu64_gtr, ↓xi64_lss, ↓xi64_gtr, ↓xi64_eql, ↓xi64_neq, ↓xi64_shr, ↓xi64_neg, Int.toNat_natCast, Int.reduceToNat, Nat.reduceMul, Nat.reduceAdd, Nat.reduceSub, 
      Nat.mul_one, List.nil_append, List.cons_append, List.getElem?_toArray, List.getElem?_cons_zero, List.getElem?_cons_succ, cells_int, cells_bool, cells_string, cells_slice, cells_pointer, cells_agg, one_int, one_bool, 
      one_string, one_slice, one_pointer, List.setIfInBounds_toArray, List.set_cons_zero, List.set_cons_succ, ↓xSq_r, ↓xPur_s, ↓xRd_s, ↓xRe_s, ↓xDet_s, ↓xDet_ld, ↓xDet_ld2, ↓xDet_ld3, ↓xDet_ld4, World.size_drew, Nat.zero_add, 
      Nat.add_zero, cell_drew, frozen_drew, cell_set_eq, cell_set_o, cell_set_b, Option.map_some, World.frozen?_setCell, decide_true, decide_false, List.not_mem_nil, not_false_eq_true, ↓xGuard_tt, Bool.not_true, Bool.not_false, 
      ←decide_not, ↓bd_28, ↓ln_26, ↓sh_26, ↓sl_26, ↓sm_26, eq_self]
  refine codec_Enc_Bytes_call (Yld.mono (Enc_Bytes_spec H1 (by omega)) ?_)
  rintro u v2 ⟨F2, a2, c2, rfl, hc2, hn2, R2, N2⟩
  have G2 := G1.trans F2
  simp (disch := (first | omega | decide | (simp only [World.size_alloc, World.size_setCell, World.size_drew, List.mem_cons, List.not_mem_nil, or_false, not_false_eq_true] <;> omega) | fail)) only [↓xBox_r, ↓loadK_some, ↓loadsK_s, ↓loadsK_n, ↓loadsR_s, ↓loadsR_n, ↓storesK_s, ↓storesK_n, setCells_c, setCells_n, World.setCell_alloc_at, World.setCell_alloc_past, World.cell?_alloc_at, World.cell?_alloc_past, 
      World.frozen?_alloc_at, World.frozen?_alloc_past, World.size_alloc, ↓xPick_t, ↓xPick_f, ↓xGuard_tt, ↓xGuard_ff, ↓xGuard_tf, ↓xGuard_ft, ↓xGuard_u, ↓xNil_r, Option.isNone_some, Option.isNone_none, ↓xIf_t, tick_eq, tickV_eq, ne_eq, 
      dlt_t, dlt_f, dle_t, dle_f, deq_t, deq_f, dne_t, dne_f, not_true_eq_false, Int.reduceAdd, Int.reduceSub, Int.reduceMul, Int.reduceEq, Int.reduceLT, Int.reduceLE, Bool.false_and, Bool.true_and, Bool.and_true, 
      Bool.and_false, ↓xBin_add', ↓xBin_sub', ↓xBin_mul', ↓xBin_quo', ↓xBin_rem', wrap_in, ↓xIf_f, ↓xIf_tt, ↓xEx0, ↓xEx1, ↓xEx2, ↓xEx3, ↓xBin_eqs, ↓xBin_nes, ↓xUn_not, ↓xu8_add, ↓xu8_rem, ↓xu8_com, ↓xu8_shr, ↓xu8_eql, ↓xu8_neq, 
      ↓xu8_lss, ↓xu8_gtr, ↓xu16_add, ↓xu16_rem, ↓xu16_com, ↓xu16_shr, ↓xu16_eql, ↓xu16_neq, ↓xu16_lss, ↓xu16_gtr, ↓xu32_add, ↓xu32_rem, ↓xu32_com, ↓xu32_shr, ↓xu32_eql, ↓xu32_neq, ↓xu32_lss, ↓xu32_gtr, ↓xu64_add, ↓xu64_rem, 
      ↓xu64_com, ↓xu64_shr, ↓xu64_eql, ↓xu64_neq, ↓xu64_lss, ↓xu64_gtr, ↓xi64_lss, ↓xi64_gtr, ↓xi64_eql, ↓xi64_neq, ↓xi64_shr, ↓xi64_neg, Int.toNat_natCast, Int.reduceToNat, Nat.reduceMul, Nat.reduceAdd, Nat.reduceSub, 
      Nat.mul_one, List.nil_append, List.cons_append, List.getElem?_toArray, List.getElem?_cons_zero, List.getElem?_cons_succ, cells_int, cells_bool, cells_string, cells_slice, cells_pointer, cells_agg, one_int, one_bool, 
      one_string, one_slice, one_pointer, List.setIfInBounds_toArray, List.set_cons_zero, List.set_cons_succ, ↓xSq_r, ↓xPur_s, ↓xRd_s, ↓xRe_s, ↓xDet_s, ↓xDet_ld, ↓xDet_ld2, ↓xDet_ld3, ↓xDet_ld4, World.size_drew, Nat.zero_add, 
      Nat.add_zero, cell_drew, frozen_drew, cell_set_eq, cell_set_o, cell_set_b, Option.map_some, World.frozen?_setCell, decide_true, decide_false, List.not_mem_nil, not_false_eq_true, ↓xGuard_tt, Bool.not_true, Bool.not_false, 
      ←decide_not, ↓bd_28, ↓ln_26, ↓sh_26, ↓sl_26, ↓sm_26, eq_self]
  refine xLoop_n ((uintB x).length - 1) (fun k => [i64 ((k : Int) + 1), u64 (x >>> (7 * (k + 1)))]) (fun k w' => Ext [] v2 w') rfl (Ext.refl _ _) ?_ ?_
  · rintro k hk u v3 hu F3 nxt hnx
    simp only [List.map_cons, List.map_nil, List.cons.injEq, and_true] at hu
    rw [hu.1, hu.2]
    unfold loamlaw5_CodeShort_l1
    have d1 : decide ((BitVec.ofNat 64 0).toNat < (x >>> (7 * (k + 1))).toNat) = true := decide_eq_true (by
      have := hs1 k (by omega)
      rcases Nat.eq_zero_or_pos (x >>> (7 * (k + 1))).toNat with h | h
      · exact absurd (BitVec.eq_of_toNat_eq (by rw [h]; rfl)) this
      · exact h)
    simp (disch := (first | omega | decide | (simp only [World.size_alloc, World.size_setCell, World.size_drew, List.mem_cons, List.not_mem_nil, or_false, not_false_eq_true] <;> omega) | fail)) only [↓xBox_r, ↓loadK_some, ↓loadsK_s, ↓loadsK_n, ↓loadsR_s, ↓loadsR_n, ↓storesK_s, ↓storesK_n, setCells_c, setCells_n, World.setCell_alloc_at, World.setCell_alloc_past, World.cell?_alloc_at, World.cell?_alloc_past, 
      World.frozen?_alloc_at, World.frozen?_alloc_past, World.size_alloc, ↓xPick_t, ↓xPick_f, ↓xGuard_tt, ↓xGuard_ff, ↓xGuard_tf, ↓xGuard_ft, ↓xGuard_u, ↓xNil_r, Option.isNone_some, Option.isNone_none, ↓xIf_t, tick_eq, tickV_eq, ne_eq, 
      dlt_t, dlt_f, dle_t, dle_f, deq_t, deq_f, dne_t, dne_f, not_true_eq_false, Int.reduceAdd, Int.reduceSub, Int.reduceMul, Int.reduceEq, Int.reduceLT, Int.reduceLE, Bool.false_and, Bool.true_and, Bool.and_true, 
      Bool.and_false, ↓xBin_add', ↓xBin_sub', ↓xBin_mul', ↓xBin_quo', ↓xBin_rem', wrap_in, ↓xIf_f, ↓xIf_tt, ↓xEx0, ↓xEx1, ↓xEx2, ↓xEx3, ↓xBin_eqs, ↓xBin_nes, ↓xUn_not, ↓xu8_add, ↓xu8_rem, ↓xu8_com, ↓xu8_shr, ↓xu8_eql, ↓xu8_neq, 
      ↓xu8_lss, ↓xu8_gtr, ↓xu16_add, ↓xu16_rem, ↓xu16_com, ↓xu16_shr, ↓xu16_eql, ↓xu16_neq, ↓xu16_lss, ↓xu16_gtr, ↓xu32_add, ↓xu32_rem, ↓xu32_com, ↓xu32_shr, ↓xu32_eql, ↓xu32_neq, ↓xu32_lss, ↓xu32_gtr, ↓xu64_add, ↓xu64_rem, 
      ↓xu64_com, ↓xu64_shr, ↓xu64_eql, ↓xu64_neq, ↓xu64_lss, ↓xu64_gtr, ↓xi64_lss, ↓xi64_gtr, ↓xi64_eql, ↓xi64_neq, ↓xi64_shr, ↓xi64_neg, Int.toNat_natCast, Int.reduceToNat, Nat.reduceMul, Nat.reduceAdd, Nat.reduceSub, 
      Nat.mul_one, List.nil_append, List.cons_append, List.getElem?_toArray, List.getElem?_cons_zero, List.getElem?_cons_succ, cells_int, cells_bool, cells_string, cells_slice, cells_pointer, cells_agg, one_int, one_bool, 
      one_string, one_slice, one_pointer, List.setIfInBounds_toArray, List.set_cons_zero, List.set_cons_succ, ↓xSq_r, ↓xPur_s, ↓xRd_s, ↓xRe_s, ↓xDet_s, ↓xDet_ld, ↓xDet_ld2, ↓xDet_ld3, ↓xDet_ld4, World.size_drew, Nat.zero_add, 
      Nat.add_zero, cell_drew, frozen_drew, cell_set_eq, cell_set_o, cell_set_b, Option.map_some, World.frozen?_setCell, decide_true, decide_false, List.not_mem_nil, not_false_eq_true, ↓xGuard_tt, Bool.not_true, Bool.not_false, 
      ←decide_not, ↓bd_28, ↓ln_26, ↓sh_26, ↓sl_26, ↓sm_26, d1]
    have := hnx v3 F3
    have e : x >>> (7 * (k + 1)) >>> (BitVec.ofNat 64 7).toNat = x >>> (7 * (k + 1 + 1)) := by
      rw [← BitVec.shiftRight_add]; congr 1
    rw [e]
    simpa using this
  · rintro u v3 hu F3 nxt
    simp only [List.map_cons, List.map_nil, List.cons.injEq, and_true] at hu
    rw [hu.1, hu.2]
    unfold loamlaw5_CodeShort_l1
    have en : (((uintB x).length - 1 : Nat) : Int) + 1 = (uintB x).length := by omega
    have e2 : x >>> (7 * ((uintB x).length - 1 + 1)) = z64 := by rw [show (uintB x).length - 1 + 1 = (uintB x).length by omega]; exact hs2
    rw [en, e2]
    have d1 : decide ((BitVec.ofNat 64 0).toNat < z64.toNat) = false := rfl
    by_cases hc : cut < 0
    · simp (disch := (first | omega | decide | (simp only [World.size_alloc, World.size_setCell, World.size_drew, List.mem_cons, List.not_mem_nil, or_false, not_false_eq_true] <;> omega) | fail)) only [↓xBox_r, ↓loadK_some, ↓loadsK_s, ↓loadsK_n, ↓loadsR_s, ↓loadsR_n, ↓storesK_s, ↓storesK_n, setCells_c, setCells_n, World.setCell_alloc_at, World.setCell_alloc_past, World.cell?_alloc_at, World.cell?_alloc_past, 
      World.frozen?_alloc_at, World.frozen?_alloc_past, World.size_alloc, ↓xPick_t, ↓xPick_f, ↓xGuard_tt, ↓xGuard_ff, ↓xGuard_tf, ↓xGuard_ft, ↓xGuard_u, ↓xNil_r, Option.isNone_some, Option.isNone_none, ↓xIf_t, tick_eq, tickV_eq, ne_eq, 
      dlt_t, dlt_f, dle_t, dle_f, deq_t, deq_f, dne_t, dne_f, not_true_eq_false, Int.reduceAdd, Int.reduceSub, Int.reduceMul, Int.reduceEq, Int.reduceLT, Int.reduceLE, Bool.false_and, Bool.true_and, Bool.and_true, 
      Bool.and_false, ↓xBin_add', ↓xBin_sub', ↓xBin_mul', ↓xBin_quo', ↓xBin_rem', wrap_in, ↓xIf_f, ↓xIf_tt, ↓xEx0, ↓xEx1, ↓xEx2, ↓xEx3, ↓xBin_eqs, ↓xBin_nes, ↓xUn_not, ↓xu8_add, ↓xu8_rem, ↓xu8_com, ↓xu8_shr, ↓xu8_eql, ↓xu8_neq, 
      ↓xu8_lss, ↓xu8_gtr, ↓xu16_add, ↓xu16_rem, ↓xu16_com, ↓xu16_shr, ↓xu16_eql, ↓xu16_neq, ↓xu16_lss, ↓xu16_gtr, ↓xu32_add, ↓xu32_rem, ↓xu32_com, ↓xu32_shr, ↓xu32_eql, ↓xu32_neq, ↓xu32_lss, ↓xu32_gtr, ↓xu64_add, ↓xu64_rem, 
      ↓xu64_com, ↓xu64_shr, ↓xu64_eql, ↓xu64_neq, ↓xu64_lss, ↓xu64_gtr, ↓xi64_lss, ↓xi64_gtr, ↓xi64_eql, ↓xi64_neq, ↓xi64_shr, ↓xi64_neg, Int.toNat_natCast, Int.reduceToNat, Nat.reduceMul, Nat.reduceAdd, Nat.reduceSub, 
      Nat.mul_one, List.nil_append, List.cons_append, List.getElem?_toArray, List.getElem?_cons_zero, List.getElem?_cons_succ, cells_int, cells_bool, cells_string, cells_slice, cells_pointer, cells_agg, one_int, one_bool, 
      one_string, one_slice, one_pointer, List.setIfInBounds_toArray, List.set_cons_zero, List.set_cons_succ, ↓xSq_r, ↓xPur_s, ↓xRd_s, ↓xRe_s, ↓xDet_s, ↓xDet_ld, ↓xDet_ld2, ↓xDet_ld3, ↓xDet_ld4, World.size_drew, Nat.zero_add, 
      Nat.add_zero, cell_drew, frozen_drew, cell_set_eq, cell_set_o, cell_set_b, Option.map_some, World.frozen?_setCell, decide_true, decide_false, List.not_mem_nil, not_false_eq_true, ↓xGuard_tt, Bool.not_true, Bool.not_false, 
      ←decide_not, ↓bd_28, ↓ln_26, ↓sh_26, ↓sl_26, ↓sm_26, d1]
      exact ⟨by trivial, (E1.trans G2).trans F3⟩
    · obtain ⟨k, hk⟩ : ∃ k : Nat, cut % ((uintB x).length : Int) = k := ⟨(cut % ((uintB x).length : Int)).toNat, by have := Int.emod_nonneg cut (b := ((uintB x).length : Int)) (by omega); omega⟩
      have hkl : k < (uintB x).length := by have := Int.emod_lt_of_pos cut (b := ((uintB x).length : Int)) (by omega); omega
      have htm : Int.tmod cut ((uintB x).length : Int) = k := by rw [Int.tmod_eq_emod_of_nonneg (by omega)]; exact hk
      simp (disch := (first | omega | decide | (simp only [World.size_alloc, World.size_setCell, World.size_drew, List.mem_cons, List.not_mem_nil, or_false, not_false_eq_true] <;> omega) | fail)) only [↓xBox_r, ↓loadK_some, ↓loadsK_s, ↓loadsK_n, ↓loadsR_s, ↓loadsR_n, ↓storesK_s, ↓storesK_n, setCells_c, setCells_n, World.setCell_alloc_at, World.setCell_alloc_past, World.cell?_alloc_at, World.cell?_alloc_past, 
      World.frozen?_alloc_at, World.frozen?_alloc_past, World.size_alloc, ↓xPick_t, ↓xPick_f, ↓xGuard_tt, ↓xGuard_ff, ↓xGuard_tf, ↓xGuard_ft, ↓xGuard_u, ↓xNil_r, Option.isNone_some, Option.isNone_none, ↓xIf_t, tick_eq, tickV_eq, ne_eq, 
      dlt_t, dlt_f, dle_t, dle_f, deq_t, deq_f, dne_t, dne_f, not_true_eq_false, Int.reduceAdd, Int.reduceSub, Int.reduceMul, Int.reduceEq, Int.reduceLT, Int.reduceLE, Bool.false_and, Bool.true_and, Bool.and_true, 
      Bool.and_false, ↓xBin_add', ↓xBin_sub', ↓xBin_mul', ↓xBin_quo', ↓xBin_rem', wrap_in, ↓xIf_f, ↓xIf_tt, ↓xEx0, ↓xEx1, ↓xEx2, ↓xEx3, ↓xBin_eqs, ↓xBin_nes, ↓xUn_not, ↓xu8_add, ↓xu8_rem, ↓xu8_com, ↓xu8_shr, ↓xu8_eql, ↓xu8_neq, 
      ↓xu8_lss, ↓xu8_gtr, ↓xu16_add, ↓xu16_rem, ↓xu16_com, ↓xu16_shr, ↓xu16_eql, ↓xu16_neq, ↓xu16_lss, ↓xu16_gtr, ↓xu32_add, ↓xu32_rem, ↓xu32_com, ↓xu32_shr, ↓xu32_eql, ↓xu32_neq, ↓xu32_lss, ↓xu32_gtr, ↓xu64_add, ↓xu64_rem, 
      ↓xu64_com, ↓xu64_shr, ↓xu64_eql, ↓xu64_neq, ↓xu64_lss, ↓xu64_gtr, ↓xi64_lss, ↓xi64_gtr, ↓xi64_eql, ↓xi64_neq, ↓xi64_shr, ↓xi64_neg, Int.toNat_natCast, Int.reduceToNat, Nat.reduceMul, Nat.reduceAdd, Nat.reduceSub, 
      Nat.mul_one, List.nil_append, List.cons_append, List.getElem?_toArray, List.getElem?_cons_zero, List.getElem?_cons_succ, cells_int, cells_bool, cells_string, cells_slice, cells_pointer, cells_agg, one_int, one_bool, 
      one_string, one_slice, one_pointer, List.setIfInBounds_toArray, List.set_cons_zero, List.set_cons_succ, ↓xSq_r, ↓xPur_s, ↓xRd_s, ↓xRe_s, ↓xDet_s, ↓xDet_ld, ↓xDet_ld2, ↓xDet_ld3, ↓xDet_ld4, World.size_drew, Nat.zero_add, 
      Nat.add_zero, cell_drew, frozen_drew, cell_set_eq, cell_set_o, cell_set_b, Option.map_some, World.frozen?_setCell, decide_true, decide_false, List.not_mem_nil, not_false_eq_true, ↓xGuard_tt, Bool.not_true, Bool.not_false, 
      ←decide_not, ↓bd_28, ↓ln_26, ↓sh_26, ↓sl_26, ↓sm_26, d1, htm, hk]
      have hrow : RowAt v3 a2 (bys ((uintB x).take k)) := by have := (R2.ext0 F3).take k; rwa [← List.map_take] at this
      have hkt : (k : Int).toNat = k := Int.toNat_natCast k
      refine codec_Of_call (Yld.mono (Dec_Of_spec ((uintB x).take k) a2 k c2 v3 (by simp; omega) (by simp; omega) hrow hn2) ?_)
      rintro u v4 ⟨F4, gd, a4, c4, rfl, hgd, D4⟩
      simp (disch := (first | omega | decide | (simp only [World.size_alloc, World.size_setCell, World.size_drew, List.mem_cons, List.not_mem_nil, or_false, not_false_eq_true] <;> omega) | fail)) only [↓xBox_r, ↓loadK_some, ↓loadsK_s, ↓loadsK_n, ↓loadsR_s, ↓loadsR_n, ↓storesK_s, ↓storesK_n, setCells_c, setCells_n, World.setCell_alloc_at, World.setCell_alloc_past, World.cell?_alloc_at, World.cell?_alloc_past, 
      World.frozen?_alloc_at, World.frozen?_alloc_past, World.size_alloc, ↓xPick_t, ↓xPick_f, ↓xGuard_tt, ↓xGuard_ff, ↓xGuard_tf, ↓xGuard_ft, ↓xGuard_u, ↓xNil_r, Option.isNone_some, Option.isNone_none, ↓xIf_t, tick_eq, tickV_eq, ne_eq, 
      dlt_t, dlt_f, dle_t, dle_f, deq_t, deq_f, dne_t, dne_f, not_true_eq_false, Int.reduceAdd, Int.reduceSub, Int.reduceMul, Int.reduceEq, Int.reduceLT, Int.reduceLE, Bool.false_and, Bool.true_and, Bool.and_true, 
      Bool.and_false, ↓xBin_add', ↓xBin_sub', ↓xBin_mul', ↓xBin_quo', ↓xBin_rem', wrap_in, ↓xIf_f, ↓xIf_tt, ↓xEx0, ↓xEx1, ↓xEx2, ↓xEx3, ↓xBin_eqs, ↓xBin_nes, ↓xUn_not, ↓xu8_add, ↓xu8_rem, ↓xu8_com, ↓xu8_shr, ↓xu8_eql, ↓xu8_neq, 
      ↓xu8_lss, ↓xu8_gtr, ↓xu16_add, ↓xu16_rem, ↓xu16_com, ↓xu16_shr, ↓xu16_eql, ↓xu16_neq, ↓xu16_lss, ↓xu16_gtr, ↓xu32_add, ↓xu32_rem, ↓xu32_com, ↓xu32_shr, ↓xu32_eql, ↓xu32_neq, ↓xu32_lss, ↓xu32_gtr, ↓xu64_add, ↓xu64_rem, 
      ↓xu64_com, ↓xu64_shr, ↓xu64_eql, ↓xu64_neq, ↓xu64_lss, ↓xu64_gtr, ↓xi64_lss, ↓xi64_gtr, ↓xi64_eql, ↓xi64_neq, ↓xi64_shr, ↓xi64_neg, Int.toNat_natCast, Int.reduceToNat, Nat.reduceMul, Nat.reduceAdd, Nat.reduceSub, 
      Nat.mul_one, List.nil_append, List.cons_append, List.getElem?_toArray, List.getElem?_cons_zero, List.getElem?_cons_succ, cells_int, cells_bool, cells_string, cells_slice, cells_pointer, cells_agg, one_int, one_bool, 
      one_string, one_slice, one_pointer, List.setIfInBounds_toArray, List.set_cons_zero, List.set_cons_succ, ↓xSq_r, ↓xPur_s, ↓xRd_s, ↓xRe_s, ↓xDet_s, ↓xDet_ld, ↓xDet_ld2, ↓xDet_ld3, ↓xDet_ld4, World.size_drew, Nat.zero_add, 
      Nat.add_zero, cell_drew, frozen_drew, cell_set_eq, cell_set_o, cell_set_b, Option.map_some, World.frozen?_setCell, decide_true, decide_false, List.not_mem_nil, not_false_eq_true, ↓xGuard_tt, Bool.not_true, Bool.not_false, 
      ←decide_not, ↓bd_28, ↓ln_26, ↓sh_26, ↓sl_26, ↓sm_26, d1, htm, hk]
      refine codec_Dec_Uint_call (Yld.mono (Dec_Uint_spec D4) ?_)
      intro u v5 hr
      rw [dec_short hkl] at hr
      obtain ⟨rfl, K5, a5, c5, D5⟩ := hr
      simp (disch := (first | omega | decide | (simp only [World.size_alloc, World.size_setCell, World.size_drew, List.mem_cons, List.not_mem_nil, or_false, not_false_eq_true] <;> omega) | fail)) only [↓xBox_r, ↓loadK_some, ↓loadsK_s, ↓loadsK_n, ↓loadsR_s, ↓loadsR_n, ↓storesK_s, ↓storesK_n, setCells_c, setCells_n, World.setCell_alloc_at, World.setCell_alloc_past, World.cell?_alloc_at, World.cell?_alloc_past, 
      World.frozen?_alloc_at, World.frozen?_alloc_past, World.size_alloc, ↓xPick_t, ↓xPick_f, ↓xGuard_tt, ↓xGuard_ff, ↓xGuard_tf, ↓xGuard_ft, ↓xGuard_u, ↓xNil_r, Option.isNone_some, Option.isNone_none, ↓xIf_t, tick_eq, tickV_eq, ne_eq, 
      dlt_t, dlt_f, dle_t, dle_f, deq_t, deq_f, dne_t, dne_f, not_true_eq_false, Int.reduceAdd, Int.reduceSub, Int.reduceMul, Int.reduceEq, Int.reduceLT, Int.reduceLE, Bool.false_and, Bool.true_and, Bool.and_true, 
      Bool.and_false, ↓xBin_add', ↓xBin_sub', ↓xBin_mul', ↓xBin_quo', ↓xBin_rem', wrap_in, ↓xIf_f, ↓xIf_tt, ↓xEx0, ↓xEx1, ↓xEx2, ↓xEx3, ↓xBin_eqs, ↓xBin_nes, ↓xUn_not, ↓xu8_add, ↓xu8_rem, ↓xu8_com, ↓xu8_shr, ↓xu8_eql, ↓xu8_neq, 
      ↓xu8_lss, ↓xu8_gtr, ↓xu16_add, ↓xu16_rem, ↓xu16_com, ↓xu16_shr, ↓xu16_eql, ↓xu16_neq, ↓xu16_lss, ↓xu16_gtr, ↓xu32_add, ↓xu32_rem, ↓xu32_com, ↓xu32_shr, ↓xu32_eql, ↓xu32_neq, ↓xu32_lss, ↓xu32_gtr, ↓xu64_add, ↓xu64_rem, 
      ↓xu64_com, ↓xu64_shr, ↓xu64_eql, ↓xu64_neq, ↓xu64_lss, ↓xu64_gtr, ↓xi64_lss, ↓xi64_gtr, ↓xi64_eql, ↓xi64_neq, ↓xi64_shr, ↓xi64_neg, Int.toNat_natCast, Int.reduceToNat, Nat.reduceMul, Nat.reduceAdd, Nat.reduceSub, 
      Nat.mul_one, List.nil_append, List.cons_append, List.getElem?_toArray, List.getElem?_cons_zero, List.getElem?_cons_succ, cells_int, cells_bool, cells_string, cells_slice, cells_pointer, cells_agg, one_int, one_bool, 
      one_string, one_slice, one_pointer, List.setIfInBounds_toArray, List.set_cons_zero, List.set_cons_succ, ↓xSq_r, ↓xPur_s, ↓xRd_s, ↓xRe_s, ↓xDet_s, ↓xDet_ld, ↓xDet_ld2, ↓xDet_ld3, ↓xDet_ld4, World.size_drew, Nat.zero_add, 
      Nat.add_zero, cell_drew, frozen_drew, cell_set_eq, cell_set_o, cell_set_b, Option.map_some, World.frozen?_setCell, decide_true, decide_false, List.not_mem_nil, not_false_eq_true, ↓xGuard_tt, Bool.not_true, Bool.not_false, 
      ←decide_not, ↓bd_28, ↓ln_26, ↓sh_26, ↓sl_26, ↓sm_26, d1, htm, hk]
      refine codec_Dec_Int_call (Gives.to (Dec_Int_err D5 (by decide)) fun v6 F6 => ?_)
      simp (disch := (first | omega | decide | (simp only [World.size_alloc, World.size_setCell, World.size_drew, List.mem_cons, List.not_mem_nil, or_false, not_false_eq_true] <;> omega) | fail)) only [↓xBox_r, ↓loadK_some, ↓loadsK_s, ↓loadsK_n, ↓loadsR_s, ↓loadsR_n, ↓storesK_s, ↓storesK_n, setCells_c, setCells_n, World.setCell_alloc_at, World.setCell_alloc_past, World.cell?_alloc_at, World.cell?_alloc_past, 
      World.frozen?_alloc_at, World.frozen?_alloc_past, World.size_alloc, ↓xPick_t, ↓xPick_f, ↓xGuard_tt, ↓xGuard_ff, ↓xGuard_tf, ↓xGuard_ft, ↓xGuard_u, ↓xNil_r, Option.isNone_some, Option.isNone_none, ↓xIf_t, tick_eq, tickV_eq, ne_eq, 
      dlt_t, dlt_f, dle_t, dle_f, deq_t, deq_f, dne_t, dne_f, not_true_eq_false, Int.reduceAdd, Int.reduceSub, Int.reduceMul, Int.reduceEq, Int.reduceLT, Int.reduceLE, Bool.false_and, Bool.true_and, Bool.and_true, 
      Bool.and_false, ↓xBin_add', ↓xBin_sub', ↓xBin_mul', ↓xBin_quo', ↓xBin_rem', wrap_in, ↓xIf_f, ↓xIf_tt, ↓xEx0, ↓xEx1, ↓xEx2, ↓xEx3, ↓xBin_eqs, ↓xBin_nes, ↓xUn_not, ↓xu8_add, ↓xu8_rem, ↓xu8_com, ↓xu8_shr, ↓xu8_eql, ↓xu8_neq, 
      ↓xu8_lss, ↓xu8_gtr, ↓xu16_add, ↓xu16_rem, ↓xu16_com, ↓xu16_shr, ↓xu16_eql, ↓xu16_neq, ↓xu16_lss, ↓xu16_gtr, ↓xu32_add, ↓xu32_rem, ↓xu32_com, ↓xu32_shr, ↓xu32_eql, ↓xu32_neq, ↓xu32_lss, ↓xu32_gtr, ↓xu64_add, ↓xu64_rem, 
      ↓xu64_com, ↓xu64_shr, ↓xu64_eql, ↓xu64_neq, ↓xu64_lss, ↓xu64_gtr, ↓xi64_lss, ↓xi64_gtr, ↓xi64_eql, ↓xi64_neq, ↓xi64_shr, ↓xi64_neg, Int.toNat_natCast, Int.reduceToNat, Nat.reduceMul, Nat.reduceAdd, Nat.reduceSub, 
      Nat.mul_one, List.nil_append, List.cons_append, List.getElem?_toArray, List.getElem?_cons_zero, List.getElem?_cons_succ, cells_int, cells_bool, cells_string, cells_slice, cells_pointer, cells_agg, one_int, one_bool, 
      one_string, one_slice, one_pointer, List.setIfInBounds_toArray, List.set_cons_zero, List.set_cons_succ, ↓xSq_r, ↓xPur_s, ↓xRd_s, ↓xRe_s, ↓xDet_s, ↓xDet_ld, ↓xDet_ld2, ↓xDet_ld3, ↓xDet_ld4, World.size_drew, Nat.zero_add, 
      Nat.add_zero, cell_drew, frozen_drew, cell_set_eq, cell_set_o, cell_set_b, Option.map_some, World.frozen?_setCell, decide_true, decide_false, List.not_mem_nil, not_false_eq_true, ↓xGuard_tt, Bool.not_true, Bool.not_false, 
      ←decide_not, ↓bd_28, ↓ln_26, ↓sh_26, ↓sl_26, ↓sm_26, d1, htm, hk]
      refine codec_Dec_Err_call (Gives.to (Dec_Err_spec (D5.ext0 F6)) fun v7 F7 => ?_)
      simp (disch := (first | omega | decide | (simp only [World.size_alloc, World.size_setCell, World.size_drew, List.mem_cons, List.not_mem_nil, or_false, not_false_eq_true] <;> omega) | fail)) only [↓xBox_r, ↓loadK_some, ↓loadsK_s, ↓loadsK_n, ↓loadsR_s, ↓loadsR_n, ↓storesK_s, ↓storesK_n, setCells_c, setCells_n, World.setCell_alloc_at, World.setCell_alloc_past, World.cell?_alloc_at, World.cell?_alloc_past, 
      World.frozen?_alloc_at, World.frozen?_alloc_past, World.size_alloc, ↓xPick_t, ↓xPick_f, ↓xGuard_tt, ↓xGuard_ff, ↓xGuard_tf, ↓xGuard_ft, ↓xGuard_u, ↓xNil_r, Option.isNone_some, Option.isNone_none, ↓xIf_t, tick_eq, tickV_eq, ne_eq, 
      dlt_t, dlt_f, dle_t, dle_f, deq_t, deq_f, dne_t, dne_f, not_true_eq_false, Int.reduceAdd, Int.reduceSub, Int.reduceMul, Int.reduceEq, Int.reduceLT, Int.reduceLE, Bool.false_and, Bool.true_and, Bool.and_true, 
      Bool.and_false, ↓xBin_add', ↓xBin_sub', ↓xBin_mul', ↓xBin_quo', ↓xBin_rem', wrap_in, ↓xIf_f, ↓xIf_tt, ↓xEx0, ↓xEx1, ↓xEx2, ↓xEx3, ↓xBin_eqs, ↓xBin_nes, ↓xUn_not, ↓xu8_add, ↓xu8_rem, ↓xu8_com, ↓xu8_shr, ↓xu8_eql, ↓xu8_neq, 
      ↓xu8_lss, ↓xu8_gtr, ↓xu16_add, ↓xu16_rem, ↓xu16_com, ↓xu16_shr, ↓xu16_eql, ↓xu16_neq, ↓xu16_lss, ↓xu16_gtr, ↓xu32_add, ↓xu32_rem, ↓xu32_com, ↓xu32_shr, ↓xu32_eql, ↓xu32_neq, ↓xu32_lss, ↓xu32_gtr, ↓xu64_add, ↓xu64_rem, 
      ↓xu64_com, ↓xu64_shr, ↓xu64_eql, ↓xu64_neq, ↓xu64_lss, ↓xu64_gtr, ↓xi64_lss, ↓xi64_gtr, ↓xi64_eql, ↓xi64_neq, ↓xi64_shr, ↓xi64_neg, Int.toNat_natCast, Int.reduceToNat, Nat.reduceMul, Nat.reduceAdd, Nat.reduceSub, 
      Nat.mul_one, List.nil_append, List.cons_append, List.getElem?_toArray, List.getElem?_cons_zero, List.getElem?_cons_succ, cells_int, cells_bool, cells_string, cells_slice, cells_pointer, cells_agg, one_int, one_bool, 
      one_string, one_slice, one_pointer, List.setIfInBounds_toArray, List.set_cons_zero, List.set_cons_succ, ↓xSq_r, ↓xPur_s, ↓xRd_s, ↓xRe_s, ↓xDet_s, ↓xDet_ld, ↓xDet_ld2, ↓xDet_ld3, ↓xDet_ld4, World.size_drew, Nat.zero_add, 
      Nat.add_zero, cell_drew, frozen_drew, cell_set_eq, cell_set_o, cell_set_b, Option.map_some, World.frozen?_setCell, decide_true, decide_false, List.not_mem_nil, not_false_eq_true, ↓xGuard_tt, Bool.not_true, Bool.not_false, 
      ←decide_not, ↓bd_28, ↓ln_26, ↓sh_26, ↓sl_26, ↓sm_26, d1, htm, hk]
      refine codec_Dec_Left_call (Gives.to (Dec_Left_spec ((D5.ext0 F6).ext0 F7)) fun v8 F8 => ?_)
      simp (disch := (first | omega | decide | (simp only [World.size_alloc, World.size_setCell, World.size_drew, List.mem_cons, List.not_mem_nil, or_false, not_false_eq_true] <;> omega) | fail)) only [↓xBox_r, ↓loadK_some, ↓loadsK_s, ↓loadsK_n, ↓loadsR_s, ↓loadsR_n, ↓storesK_s, ↓storesK_n, setCells_c, setCells_n, World.setCell_alloc_at, World.setCell_alloc_past, World.cell?_alloc_at, World.cell?_alloc_past, 
      World.frozen?_alloc_at, World.frozen?_alloc_past, World.size_alloc, ↓xPick_t, ↓xPick_f, ↓xGuard_tt, ↓xGuard_ff, ↓xGuard_tf, ↓xGuard_ft, ↓xGuard_u, ↓xNil_r, Option.isNone_some, Option.isNone_none, ↓xIf_t, tick_eq, tickV_eq, ne_eq, 
      dlt_t, dlt_f, dle_t, dle_f, deq_t, deq_f, dne_t, dne_f, not_true_eq_false, Int.reduceAdd, Int.reduceSub, Int.reduceMul, Int.reduceEq, Int.reduceLT, Int.reduceLE, Bool.false_and, Bool.true_and, Bool.and_true, 
      Bool.and_false, ↓xBin_add', ↓xBin_sub', ↓xBin_mul', ↓xBin_quo', ↓xBin_rem', wrap_in, ↓xIf_f, ↓xIf_tt, ↓xEx0, ↓xEx1, ↓xEx2, ↓xEx3, ↓xBin_eqs, ↓xBin_nes, ↓xUn_not, ↓xu8_add, ↓xu8_rem, ↓xu8_com, ↓xu8_shr, ↓xu8_eql, ↓xu8_neq, 
      ↓xu8_lss, ↓xu8_gtr, ↓xu16_add, ↓xu16_rem, ↓xu16_com, ↓xu16_shr, ↓xu16_eql, ↓xu16_neq, ↓xu16_lss, ↓xu16_gtr, ↓xu32_add, ↓xu32_rem, ↓xu32_com, ↓xu32_shr, ↓xu32_eql, ↓xu32_neq, ↓xu32_lss, ↓xu32_gtr, ↓xu64_add, ↓xu64_rem, 
      ↓xu64_com, ↓xu64_shr, ↓xu64_eql, ↓xu64_neq, ↓xu64_lss, ↓xu64_gtr, ↓xi64_lss, ↓xi64_gtr, ↓xi64_eql, ↓xi64_neq, ↓xi64_shr, ↓xi64_neg, Int.toNat_natCast, Int.reduceToNat, Nat.reduceMul, Nat.reduceAdd, Nat.reduceSub, 
      Nat.mul_one, List.nil_append, List.cons_append, List.getElem?_toArray, List.getElem?_cons_zero, List.getElem?_cons_succ, cells_int, cells_bool, cells_string, cells_slice, cells_pointer, cells_agg, one_int, one_bool, 
      one_string, one_slice, one_pointer, List.setIfInBounds_toArray, List.set_cons_zero, List.set_cons_succ, ↓xSq_r, ↓xPur_s, ↓xRd_s, ↓xRe_s, ↓xDet_s, ↓xDet_ld, ↓xDet_ld2, ↓xDet_ld3, ↓xDet_ld4, World.size_drew, Nat.zero_add, 
      Nat.add_zero, cell_drew, frozen_drew, cell_set_eq, cell_set_o, cell_set_b, Option.map_some, World.frozen?_setCell, decide_true, decide_false, List.not_mem_nil, not_false_eq_true, ↓xGuard_tt, Bool.not_true, Bool.not_false, 
      ←decide_not, ↓bd_28, ↓ln_26, ↓sh_26, ↓sl_26, ↓sm_26, d1, htm, hk]
      have G4 := ((E1.trans G2).trans F3).trans F4
      have hz := ((E1.trans G2).trans F3).size
      have G5 : Ext [] w v5 := G4.new K5 (by simp; omega)
      exact ⟨by trivial, ((G5.trans F6).trans F7).trans F8⟩
end Go.Proofs.Ytlllabaipfmnjaa
