/- What the functions on sums compute. -/
import Derived.Test.YtohonkbneimkoaaSumV
import Derived.Test.YtohonkbneimkoaaEng11
set_option linter.unusedVariables false
set_option linter.unusedSimpArgs false
set_option maxHeartbeats 4000000
namespace Go.Proofs.Ytohonkbneimkoaa
open Go.Sh Go.RowKit

theorem Add_spec (s : BitVec 32) (l : List (BitVec 8)) (a : Option Addr) (n c : Nat) (w : World) (hn : n = l.length) (hb : n ≤ 4294967296) (h : RowAt w a (bys l)) : Gives Try.prog n_crc_Add #[u32 s, .slice a n c] w (u32 (addV s l)) := by
  subst hn
  refine crc_Add_of ?_
  unfold crc_Add
  simp (disch := (first | omega | decide | (simp only [World.size_alloc, World.size_setCell, World.size_drew, List.mem_cons, List.not_mem_nil, or_false, not_false_eq_true] <;> omega) | fail)) only [↓xBox_r, ↓loadK_some, ↓loadsK_s, ↓loadsK_n, ↓loadsR_s, ↓loadsR_n, ↓storesK_s, ↓storesK_n, setCells_c, setCells_n, World.setCell_alloc_at, World.setCell_alloc_past, World.cell?_alloc_at, World.cell?_alloc_past, 
      World.frozen?_alloc_at, World.frozen?_alloc_past, World.size_alloc, ↓xPick_t, ↓xPick_f, ↓xGuard_tt, ↓xGuard_ff, ↓xGuard_tf, ↓xGuard_ft, ↓xGuard_u, ↓xNil_r, Option.isNone_some, Option.isNone_none, ↓xIf_t, tick_eq, tickV_eq, ne_eq, 
      dlt_t, dlt_f, dle_t, dle_f, deq_t, deq_f, dne_t, dne_f, not_true_eq_false, Int.reduceAdd, Int.reduceSub, Int.reduceMul, Int.reduceEq, Int.reduceLT, Int.reduceLE, Bool.false_and, Bool.true_and, Bool.and_true, 
      Bool.and_false, ↓xBin_add', ↓xBin_sub', ↓xBin_mul', ↓xBin_quo', ↓xBin_rem', wrap_in, ↓xIf_f, ↓xIf_tt, ↓xEx0, ↓xEx1, ↓xEx2, ↓xEx3, ↓xBin_eqs, ↓xBin_nes, ↓xUn_not, ↓xu8_add, ↓xu8_and, ↓xu8_xor, ↓xu8_com, ↓xu8_shr, ↓xu8_eql, 
      ↓xu8_lss, ↓xu16_add, ↓xu16_and, ↓xu16_xor, ↓xu16_com, ↓xu16_shr, ↓xu16_eql, ↓xu16_lss, ↓xu32_add, ↓xu32_and, ↓xu32_xor, ↓xu32_com, ↓xu32_shr, ↓xu32_eql, ↓xu32_lss, ↓xu64_add, ↓xu64_and, ↓xu64_xor, ↓xu64_com, ↓xu64_shr, 
      ↓xu64_eql, ↓xu64_lss, ↓xi64_lss, ↓xi64_eql, ↓xi64_and, ↓xi64_xor, ↓xi64_shr, Int.toNat_natCast, Int.reduceToNat, Nat.reduceMul, Nat.reduceAdd, Nat.reduceSub, Nat.mul_one, List.nil_append, List.cons_append, List.getElem?_toArray, 
      List.getElem?_cons_zero, List.getElem?_cons_succ, cells_int, cells_bool, cells_string, cells_slice, cells_pointer, cells_agg, one_int, one_bool, one_string, one_slice, one_pointer, List.setIfInBounds_toArray, List.set_cons_zero, 
      List.set_cons_succ, ↓xDet_s, ↓xDet_ld, ↓xDet_ld2, ↓xDet_ld3, ↓xDet_ld4, World.size_drew, Nat.zero_add, Nat.add_zero, cell_drew, frozen_drew, cell_set_eq, cell_set_o, cell_set_b, Option.map_some, World.frozen?_setCell, decide_true, 
      decide_false, List.not_mem_nil, not_false_eq_true, ↓xGuard_tt, Bool.not_true, Bool.not_false, ←decide_not, ↓ld_5, ↓cv_5_52, ↓ia_51, ↓ln_51, eq_self]
  refine xLoop_n l.length (fun k => [u32 (crcRun (~~~s) (l.take k)), i64 k]) (fun _ w' => Ext [] w w') ?_ (Ext.refl _ _) ?_ ?_
  · rfl
  · intro k hk u w1 hu E1 nxt hn
    simp only [List.map_cons, List.map_nil, List.cons.injEq, and_true] at hu
    obtain ⟨h1, h2⟩ := hu
    rw [h1, h2]
    obtain ⟨b, o, rfl, hb1, hc⟩ := (h.ext0 E1).at (i := k) (by simpa using hk)
    simp only [List.getElem_map] at hc
    unfold crc_Add_l1
    simp (disch := (first | omega | decide | (simp only [World.size_alloc, World.size_setCell, World.size_drew, List.mem_cons, List.not_mem_nil, or_false, not_false_eq_true] <;> omega) | fail)) only [↓xBox_r, ↓loadK_some, ↓loadsK_s, ↓loadsK_n, ↓loadsR_s, ↓loadsR_n, ↓storesK_s, ↓storesK_n, setCells_c, setCells_n, World.setCell_alloc_at, World.setCell_alloc_past, World.cell?_alloc_at, World.cell?_alloc_past, 
      World.frozen?_alloc_at, World.frozen?_alloc_past, World.size_alloc, ↓xPick_t, ↓xPick_f, ↓xGuard_tt, ↓xGuard_ff, ↓xGuard_tf, ↓xGuard_ft, ↓xGuard_u, ↓xNil_r, Option.isNone_some, Option.isNone_none, ↓xIf_t, tick_eq, tickV_eq, ne_eq, 
      dlt_t, dlt_f, dle_t, dle_f, deq_t, deq_f, dne_t, dne_f, not_true_eq_false, Int.reduceAdd, Int.reduceSub, Int.reduceMul, Int.reduceEq, Int.reduceLT, Int.reduceLE, Bool.false_and, Bool.true_and, Bool.and_true, 
      Bool.and_false, ↓xBin_add', ↓xBin_sub', ↓xBin_mul', ↓xBin_quo', ↓xBin_rem', wrap_in, ↓xIf_f, ↓xIf_tt, ↓xEx0, ↓xEx1, ↓xEx2, ↓xEx3, ↓xBin_eqs, ↓xBin_nes, ↓xUn_not, ↓xu8_add, ↓xu8_and, ↓xu8_xor, ↓xu8_com, ↓xu8_shr, ↓xu8_eql, 
      ↓xu8_lss, ↓xu16_add, ↓xu16_and, ↓xu16_xor, ↓xu16_com, ↓xu16_shr, ↓xu16_eql, ↓xu16_lss, ↓xu32_add, ↓xu32_and, ↓xu32_xor, ↓xu32_com, ↓xu32_shr, ↓xu32_eql, ↓xu32_lss, ↓xu64_add, ↓xu64_and, ↓xu64_xor, ↓xu64_com, ↓xu64_shr, 
      ↓xu64_eql, ↓xu64_lss, ↓xi64_lss, ↓xi64_eql, ↓xi64_and, ↓xi64_xor, ↓xi64_shr, Int.toNat_natCast, Int.reduceToNat, Nat.reduceMul, Nat.reduceAdd, Nat.reduceSub, Nat.mul_one, List.nil_append, List.cons_append, List.getElem?_toArray, 
      List.getElem?_cons_zero, List.getElem?_cons_succ, cells_int, cells_bool, cells_string, cells_slice, cells_pointer, cells_agg, one_int, one_bool, one_string, one_slice, one_pointer, List.setIfInBounds_toArray, List.set_cons_zero, 
      List.set_cons_succ, ↓xDet_s, ↓xDet_ld, ↓xDet_ld2, ↓xDet_ld3, ↓xDet_ld4, World.size_drew, Nat.zero_add, Nat.add_zero, cell_drew, frozen_drew, cell_set_eq, cell_set_o, cell_set_b, Option.map_some, World.frozen?_setCell, decide_true, 
      decide_false, List.not_mem_nil, not_false_eq_true, ↓xGuard_tt, Bool.not_true, Bool.not_false, ←decide_not, ↓ld_5, ↓cv_5_52, ↓ia_51, ↓ln_51, hc]
    refine xLoop_n 8 (fun j => [u32 (crcSteps (crcRun (~~~s) (l.take k) ^^^ l[k].setWidth 32) j), i64 j]) (fun _ w' => Ext [] w w') ?_ E1 ?_ ?_
    · rfl
    · intro j hj u w2 hu E2 nxt2 hn2
      simp only [List.map_cons, List.map_nil, List.cons.injEq, and_true] at hu
      obtain ⟨h1, h2⟩ := hu
      rw [h1, h2]
      unfold crc_Add_l2 crc_Add_j1
      generalize hx : crcSteps (crcRun (~~~s) (l.take k) ^^^ l[k].setWidth 32) j = x at *
      by_cases hl : x &&& BitVec.ofNat 32 1 = BitVec.ofNat 32 1
      · simp (disch := (first | omega | decide | (simp only [World.size_alloc, World.size_setCell, World.size_drew, List.mem_cons, List.not_mem_nil, or_false, not_false_eq_true] <;> omega) | fail)) only [↓xBox_r, ↓loadK_some, ↓loadsK_s, ↓loadsK_n, ↓loadsR_s, ↓loadsR_n, ↓storesK_s, ↓storesK_n, setCells_c, setCells_n, World.setCell_alloc_at, World.setCell_alloc_past, World.cell?_alloc_at, World.cell?_alloc_past, 
      World.frozen?_alloc_at, World.frozen?_alloc_past, World.size_alloc, ↓xPick_t, ↓xPick_f, ↓xGuard_tt, ↓xGuard_ff, ↓xGuard_tf, ↓xGuard_ft, ↓xGuard_u, ↓xNil_r, Option.isNone_some, Option.isNone_none, ↓xIf_t, tick_eq, tickV_eq, ne_eq, 
      dlt_t, dlt_f, dle_t, dle_f, deq_t, deq_f, dne_t, dne_f, not_true_eq_false, Int.reduceAdd, Int.reduceSub, Int.reduceMul, Int.reduceEq, Int.reduceLT, Int.reduceLE, Bool.false_and, Bool.true_and, Bool.and_true, 
      Bool.and_false, ↓xBin_add', ↓xBin_sub', ↓xBin_mul', ↓xBin_quo', ↓xBin_rem', wrap_in, ↓xIf_f, ↓xIf_tt, ↓xEx0, ↓xEx1, ↓xEx2, ↓xEx3, ↓xBin_eqs, ↓xBin_nes, ↓xUn_not, ↓xu8_add, ↓xu8_and, ↓xu8_xor, ↓xu8_com, ↓xu8_shr, ↓xu8_eql, 
      ↓xu8_lss, ↓xu16_add, ↓xu16_and, ↓xu16_xor, ↓xu16_com, ↓xu16_shr, ↓xu16_eql, ↓xu16_lss, ↓xu32_add, ↓xu32_and, ↓xu32_xor, ↓xu32_com, ↓xu32_shr, ↓xu32_eql, ↓xu32_lss, ↓xu64_add, ↓xu64_and, ↓xu64_xor, ↓xu64_com, ↓xu64_shr, 
      ↓xu64_eql, ↓xu64_lss, ↓xi64_lss, ↓xi64_eql, ↓xi64_and, ↓xi64_xor, ↓xi64_shr, Int.toNat_natCast, Int.reduceToNat, Nat.reduceMul, Nat.reduceAdd, Nat.reduceSub, Nat.mul_one, List.nil_append, List.cons_append, List.getElem?_toArray, 
      List.getElem?_cons_zero, List.getElem?_cons_succ, cells_int, cells_bool, cells_string, cells_slice, cells_pointer, cells_agg, one_int, one_bool, one_string, one_slice, one_pointer, List.setIfInBounds_toArray, List.set_cons_zero, 
      List.set_cons_succ, ↓xDet_s, ↓xDet_ld, ↓xDet_ld2, ↓xDet_ld3, ↓xDet_ld4, World.size_drew, Nat.zero_add, Nat.add_zero, cell_drew, frozen_drew, cell_set_eq, cell_set_o, cell_set_b, Option.map_some, World.frozen?_setCell, decide_true, 
      decide_false, List.not_mem_nil, not_false_eq_true, ↓xGuard_tt, Bool.not_true, Bool.not_false, ←decide_not, ↓ld_5, ↓cv_5_52, ↓ia_51, ↓ln_51, hc, decide_eq_true hl]
        have := hn2 w2 E2
        simpa [crcSteps, hx, crcStep, if_pos hl] using this
      · simp (disch := (first | omega | decide | (simp only [World.size_alloc, World.size_setCell, World.size_drew, List.mem_cons, List.not_mem_nil, or_false, not_false_eq_true] <;> omega) | fail)) only [↓xBox_r, ↓loadK_some, ↓loadsK_s, ↓loadsK_n, ↓loadsR_s, ↓loadsR_n, ↓storesK_s, ↓storesK_n, setCells_c, setCells_n, World.setCell_alloc_at, World.setCell_alloc_past, World.cell?_alloc_at, World.cell?_alloc_past, 
      World.frozen?_alloc_at, World.frozen?_alloc_past, World.size_alloc, ↓xPick_t, ↓xPick_f, ↓xGuard_tt, ↓xGuard_ff, ↓xGuard_tf, ↓xGuard_ft, ↓xGuard_u, ↓xNil_r, Option.isNone_some, Option.isNone_none, ↓xIf_t, tick_eq, tickV_eq, ne_eq, 
      dlt_t, dlt_f, dle_t, dle_f, deq_t, deq_f, dne_t, dne_f, not_true_eq_false, Int.reduceAdd, Int.reduceSub, Int.reduceMul, Int.reduceEq, Int.reduceLT, Int.reduceLE, Bool.false_and, Bool.true_and, Bool.and_true, 
      Bool.and_false, ↓xBin_add', ↓xBin_sub', ↓xBin_mul', ↓xBin_quo', ↓xBin_rem', wrap_in, ↓xIf_f, ↓xIf_tt, ↓xEx0, ↓xEx1, ↓xEx2, ↓xEx3, ↓xBin_eqs, ↓xBin_nes, ↓xUn_not, ↓xu8_add, ↓xu8_and, ↓xu8_xor, ↓xu8_com, ↓xu8_shr, ↓xu8_eql, 
      ↓xu8_lss, ↓xu16_add, ↓xu16_and, ↓xu16_xor, ↓xu16_com, ↓xu16_shr, ↓xu16_eql, ↓xu16_lss, ↓xu32_add, ↓xu32_and, ↓xu32_xor, ↓xu32_com, ↓xu32_shr, ↓xu32_eql, ↓xu32_lss, ↓xu64_add, ↓xu64_and, ↓xu64_xor, ↓xu64_com, ↓xu64_shr, 
      ↓xu64_eql, ↓xu64_lss, ↓xi64_lss, ↓xi64_eql, ↓xi64_and, ↓xi64_xor, ↓xi64_shr, Int.toNat_natCast, Int.reduceToNat, Nat.reduceMul, Nat.reduceAdd, Nat.reduceSub, Nat.mul_one, List.nil_append, List.cons_append, List.getElem?_toArray, 
      List.getElem?_cons_zero, List.getElem?_cons_succ, cells_int, cells_bool, cells_string, cells_slice, cells_pointer, cells_agg, one_int, one_bool, one_string, one_slice, one_pointer, List.setIfInBounds_toArray, List.set_cons_zero, 
      List.set_cons_succ, ↓xDet_s, ↓xDet_ld, ↓xDet_ld2, ↓xDet_ld3, ↓xDet_ld4, World.size_drew, Nat.zero_add, Nat.add_zero, cell_drew, frozen_drew, cell_set_eq, cell_set_o, cell_set_b, Option.map_some, World.frozen?_setCell, decide_true, 
      decide_false, List.not_mem_nil, not_false_eq_true, ↓xGuard_tt, Bool.not_true, Bool.not_false, ←decide_not, ↓ld_5, ↓cv_5_52, ↓ia_51, ↓ln_51, hc, decide_eq_false hl]
        have := hn2 w2 E2
        simpa [crcSteps, hx, crcStep, if_neg hl] using this
    · intro u w2 hu E2 nxt2
      simp only [List.map_cons, List.map_nil, List.cons.injEq, and_true] at hu
      obtain ⟨h1, h2⟩ := hu
      rw [h1, h2]
      unfold crc_Add_l2
      simp (disch := (first | omega | decide | (simp only [World.size_alloc, World.size_setCell, World.size_drew, List.mem_cons, List.not_mem_nil, or_false, not_false_eq_true] <;> omega) | fail)) only [↓xBox_r, ↓loadK_some, ↓loadsK_s, ↓loadsK_n, ↓loadsR_s, ↓loadsR_n, ↓storesK_s, ↓storesK_n, setCells_c, setCells_n, World.setCell_alloc_at, World.setCell_alloc_past, World.cell?_alloc_at, World.cell?_alloc_past, 
      World.frozen?_alloc_at, World.frozen?_alloc_past, World.size_alloc, ↓xPick_t, ↓xPick_f, ↓xGuard_tt, ↓xGuard_ff, ↓xGuard_tf, ↓xGuard_ft, ↓xGuard_u, ↓xNil_r, Option.isNone_some, Option.isNone_none, ↓xIf_t, tick_eq, tickV_eq, ne_eq, 
      dlt_t, dlt_f, dle_t, dle_f, deq_t, deq_f, dne_t, dne_f, not_true_eq_false, Int.reduceAdd, Int.reduceSub, Int.reduceMul, Int.reduceEq, Int.reduceLT, Int.reduceLE, Bool.false_and, Bool.true_and, Bool.and_true, 
      Bool.and_false, ↓xBin_add', ↓xBin_sub', ↓xBin_mul', ↓xBin_quo', ↓xBin_rem', wrap_in, ↓xIf_f, ↓xIf_tt, ↓xEx0, ↓xEx1, ↓xEx2, ↓xEx3, ↓xBin_eqs, ↓xBin_nes, ↓xUn_not, ↓xu8_add, ↓xu8_and, ↓xu8_xor, ↓xu8_com, ↓xu8_shr, ↓xu8_eql, 
      ↓xu8_lss, ↓xu16_add, ↓xu16_and, ↓xu16_xor, ↓xu16_com, ↓xu16_shr, ↓xu16_eql, ↓xu16_lss, ↓xu32_add, ↓xu32_and, ↓xu32_xor, ↓xu32_com, ↓xu32_shr, ↓xu32_eql, ↓xu32_lss, ↓xu64_add, ↓xu64_and, ↓xu64_xor, ↓xu64_com, ↓xu64_shr, 
      ↓xu64_eql, ↓xu64_lss, ↓xi64_lss, ↓xi64_eql, ↓xi64_and, ↓xi64_xor, ↓xi64_shr, Int.toNat_natCast, Int.reduceToNat, Nat.reduceMul, Nat.reduceAdd, Nat.reduceSub, Nat.mul_one, List.nil_append, List.cons_append, List.getElem?_toArray, 
      List.getElem?_cons_zero, List.getElem?_cons_succ, cells_int, cells_bool, cells_string, cells_slice, cells_pointer, cells_agg, one_int, one_bool, one_string, one_slice, one_pointer, List.setIfInBounds_toArray, List.set_cons_zero, 
      List.set_cons_succ, ↓xDet_s, ↓xDet_ld, ↓xDet_ld2, ↓xDet_ld3, ↓xDet_ld4, World.size_drew, Nat.zero_add, Nat.add_zero, cell_drew, frozen_drew, cell_set_eq, cell_set_o, cell_set_b, Option.map_some, World.frozen?_setCell, decide_true, 
      decide_false, List.not_mem_nil, not_false_eq_true, ↓xGuard_tt, Bool.not_true, Bool.not_false, ←decide_not, ↓ld_5, ↓cv_5_52, ↓ia_51, ↓ln_51, hc]
      have := hn w2 E2
      rw [crcRun_take hk] at this
      simpa [crcByte] using this
  · intro u w1 hu E1 nxt
    simp only [List.map_cons, List.map_nil, List.cons.injEq, and_true] at hu
    obtain ⟨h1, h2⟩ := hu
    rw [h1, h2]
    unfold crc_Add_l1
    simp (disch := (first | omega | decide | (simp only [World.size_alloc, World.size_setCell, World.size_drew, List.mem_cons, List.not_mem_nil, or_false, not_false_eq_true] <;> omega) | fail)) only [↓xBox_r, ↓loadK_some, ↓loadsK_s, ↓loadsK_n, ↓loadsR_s, ↓loadsR_n, ↓storesK_s, ↓storesK_n, setCells_c, setCells_n, World.setCell_alloc_at, World.setCell_alloc_past, World.cell?_alloc_at, World.cell?_alloc_past, 
      World.frozen?_alloc_at, World.frozen?_alloc_past, World.size_alloc, ↓xPick_t, ↓xPick_f, ↓xGuard_tt, ↓xGuard_ff, ↓xGuard_tf, ↓xGuard_ft, ↓xGuard_u, ↓xNil_r, Option.isNone_some, Option.isNone_none, ↓xIf_t, tick_eq, tickV_eq, ne_eq, 
      dlt_t, dlt_f, dle_t, dle_f, deq_t, deq_f, dne_t, dne_f, not_true_eq_false, Int.reduceAdd, Int.reduceSub, Int.reduceMul, Int.reduceEq, Int.reduceLT, Int.reduceLE, Bool.false_and, Bool.true_and, Bool.and_true, 
      Bool.and_false, ↓xBin_add', ↓xBin_sub', ↓xBin_mul', ↓xBin_quo', ↓xBin_rem', wrap_in, ↓xIf_f, ↓xIf_tt, ↓xEx0, ↓xEx1, ↓xEx2, ↓xEx3, ↓xBin_eqs, ↓xBin_nes, ↓xUn_not, ↓xu8_add, ↓xu8_and, ↓xu8_xor, ↓xu8_com, ↓xu8_shr, ↓xu8_eql, 
      ↓xu8_lss, ↓xu16_add, ↓xu16_and, ↓xu16_xor, ↓xu16_com, ↓xu16_shr, ↓xu16_eql, ↓xu16_lss, ↓xu32_add, ↓xu32_and, ↓xu32_xor, ↓xu32_com, ↓xu32_shr, ↓xu32_eql, ↓xu32_lss, ↓xu64_add, ↓xu64_and, ↓xu64_xor, ↓xu64_com, ↓xu64_shr, 
      ↓xu64_eql, ↓xu64_lss, ↓xi64_lss, ↓xi64_eql, ↓xi64_and, ↓xi64_xor, ↓xi64_shr, Int.toNat_natCast, Int.reduceToNat, Nat.reduceMul, Nat.reduceAdd, Nat.reduceSub, Nat.mul_one, List.nil_append, List.cons_append, List.getElem?_toArray, 
      List.getElem?_cons_zero, List.getElem?_cons_succ, cells_int, cells_bool, cells_string, cells_slice, cells_pointer, cells_agg, one_int, one_bool, one_string, one_slice, one_pointer, List.setIfInBounds_toArray, List.set_cons_zero, 
      List.set_cons_succ, ↓xDet_s, ↓xDet_ld, ↓xDet_ld2, ↓xDet_ld3, ↓xDet_ld4, World.size_drew, Nat.zero_add, Nat.add_zero, cell_drew, frozen_drew, cell_set_eq, cell_set_o, cell_set_b, Option.map_some, World.frozen?_setCell, decide_true, 
      decide_false, List.not_mem_nil, not_false_eq_true, ↓xGuard_tt, Bool.not_true, Bool.not_false, ←decide_not, ↓ld_5, ↓cv_5_52, ↓ia_51, ↓ln_51, eq_self]
    rw [List.take_length]
    exact ⟨by rfl, E1⟩

/-- a row of rows of bytes -/
def partsAt (w : World) (a : Option Addr) (ps : List Part) : Prop := RowAt w a (ps.map partV) ∧ ∀ p ∈ ps, RowAt w p.1 (bys p.2.2) ∧ p.2.2.length ≤ 4294967296
theorem partsAt.ext {w w' : World} {a : Option Addr} {ps : List Part} (h : partsAt w a ps) (hx : Ext [] w w') : partsAt w' a ps := ⟨h.1.ext0 hx, fun p hp => ⟨(h.2 p hp).1.ext0 hx, (h.2 p hp).2⟩⟩
theorem Sum_spec (ps : List Part) (a : Option Addr) (n c : Nat) (w : World) (hn : n = ps.length) (hb : n ≤ 4294967296) (h : partsAt w a ps) : Gives Try.prog n_crc_Sum #[.slice a n c] w (u32 (sumsV (BitVec.ofNat 32 0) (ps.map (·.2.2)))) := by
  subst hn
  refine crc_Sum_of ?_
  unfold crc_Sum
  simp (disch := (first | omega | decide | (simp only [World.size_alloc, World.size_setCell, World.size_drew, List.mem_cons, List.not_mem_nil, or_false, not_false_eq_true] <;> omega) | fail)) only [↓xBox_r, ↓loadK_some, ↓loadsK_s, ↓loadsK_n, ↓loadsR_s, ↓loadsR_n, ↓storesK_s, ↓storesK_n, setCells_c, setCells_n, World.setCell_alloc_at, World.setCell_alloc_past, World.cell?_alloc_at, World.cell?_alloc_past, 
      World.frozen?_alloc_at, World.frozen?_alloc_past, World.size_alloc, ↓xPick_t, ↓xPick_f, ↓xGuard_tt, ↓xGuard_ff, ↓xGuard_tf, ↓xGuard_ft, ↓xGuard_u, ↓xNil_r, Option.isNone_some, Option.isNone_none, ↓xIf_t, tick_eq, tickV_eq, ne_eq, 
      dlt_t, dlt_f, dle_t, dle_f, deq_t, deq_f, dne_t, dne_f, not_true_eq_false, Int.reduceAdd, Int.reduceSub, Int.reduceMul, Int.reduceEq, Int.reduceLT, Int.reduceLE, Bool.false_and, Bool.true_and, Bool.and_true, 
      Bool.and_false, ↓xBin_add', ↓xBin_sub', ↓xBin_mul', ↓xBin_quo', ↓xBin_rem', wrap_in, ↓xIf_f, ↓xIf_tt, ↓xEx0, ↓xEx1, ↓xEx2, ↓xEx3, ↓xBin_eqs, ↓xBin_nes, ↓xUn_not, ↓xu8_add, ↓xu8_lss, ↓xu16_add, ↓xu16_lss, ↓xu32_add, ↓xu32_lss, 
      ↓xu64_add, ↓xu64_lss, ↓xi64_lss, Int.toNat_natCast, Int.reduceToNat, Nat.reduceMul, Nat.reduceAdd, Nat.reduceSub, Nat.mul_one, List.nil_append, List.cons_append, List.getElem?_toArray, List.getElem?_cons_zero, List.getElem?_cons_succ, 
      cells_int, cells_bool, cells_string, cells_slice, cells_pointer, cells_agg, one_int, one_bool, one_string, one_slice, one_pointer, List.setIfInBounds_toArray, List.set_cons_zero, List.set_cons_succ, ↓xDet_s, ↓xDet_ld, 
      ↓xDet_ld2, ↓xDet_ld3, ↓xDet_ld4, World.size_drew, Nat.zero_add, Nat.add_zero, cell_drew, frozen_drew, cell_set_eq, cell_set_o, cell_set_b, Option.map_some, World.frozen?_setCell, decide_true, decide_false, List.not_mem_nil, 
      not_false_eq_true, ↓xGuard_tt, Bool.not_true, Bool.not_false, ←decide_not, ↓ld_51, ↓ia_50, ↓ln_50, eq_self]
  refine xLoop_n ps.length (fun k => [u32 (sumsV (BitVec.ofNat 32 0) ((ps.map (·.2.2)).take k)), i64 k]) (fun _ w' => Ext [] w w') ?_ (Ext.refl _ _) ?_ ?_
  · rfl
  · intro k hk u v1 hu F1 nxt hn
    simp only [List.map_cons, List.map_nil, List.cons.injEq, and_true] at hu
    obtain ⟨h1, h2⟩ := hu
    rw [h1, h2]
    have hp := h.ext F1
    obtain ⟨b, o, rfl, hb1, hc⟩ := hp.1.at (i := k) (by simpa using hk)
    simp only [List.getElem_map] at hc
    have hpk := hp.2 ps[k] (by simp)
    unfold crc_Sum_l1
    simp (disch := (first | omega | decide | (simp only [World.size_alloc, World.size_setCell, World.size_drew, List.mem_cons, List.not_mem_nil, or_false, not_false_eq_true] <;> omega) | fail)) only [↓xBox_r, ↓loadK_some, ↓loadsK_s, ↓loadsK_n, ↓loadsR_s, ↓loadsR_n, ↓storesK_s, ↓storesK_n, setCells_c, setCells_n, World.setCell_alloc_at, World.setCell_alloc_past, World.cell?_alloc_at, World.cell?_alloc_past, 
      World.frozen?_alloc_at, World.frozen?_alloc_past, World.size_alloc, ↓xPick_t, ↓xPick_f, ↓xGuard_tt, ↓xGuard_ff, ↓xGuard_tf, ↓xGuard_ft, ↓xGuard_u, ↓xNil_r, Option.isNone_some, Option.isNone_none, ↓xIf_t, tick_eq, tickV_eq, ne_eq, 
      dlt_t, dlt_f, dle_t, dle_f, deq_t, deq_f, dne_t, dne_f, not_true_eq_false, Int.reduceAdd, Int.reduceSub, Int.reduceMul, Int.reduceEq, Int.reduceLT, Int.reduceLE, Bool.false_and, Bool.true_and, Bool.and_true, 
      Bool.and_false, ↓xBin_add', ↓xBin_sub', ↓xBin_mul', ↓xBin_quo', ↓xBin_rem', wrap_in, ↓xIf_f, ↓xIf_tt, ↓xEx0, ↓xEx1, ↓xEx2, ↓xEx3, ↓xBin_eqs, ↓xBin_nes, ↓xUn_not, ↓xu8_add, ↓xu8_lss, ↓xu16_add, ↓xu16_lss, ↓xu32_add, ↓xu32_lss, 
      ↓xu64_add, ↓xu64_lss, ↓xi64_lss, Int.toNat_natCast, Int.reduceToNat, Nat.reduceMul, Nat.reduceAdd, Nat.reduceSub, Nat.mul_one, List.nil_append, List.cons_append, List.getElem?_toArray, List.getElem?_cons_zero, List.getElem?_cons_succ, 
      cells_int, cells_bool, cells_string, cells_slice, cells_pointer, cells_agg, one_int, one_bool, one_string, one_slice, one_pointer, List.setIfInBounds_toArray, List.set_cons_zero, List.set_cons_succ, ↓xDet_s, ↓xDet_ld, 
      ↓xDet_ld2, ↓xDet_ld3, ↓xDet_ld4, World.size_drew, Nat.zero_add, Nat.add_zero, cell_drew, frozen_drew, cell_set_eq, cell_set_o, cell_set_b, Option.map_some, World.frozen?_setCell, decide_true, decide_false, List.not_mem_nil, 
      not_false_eq_true, ↓xGuard_tt, Bool.not_true, Bool.not_false, ←decide_not, ↓ld_51, ↓ia_50, ↓ln_50, hc]
    refine crc_Add_call (Gives.to (Add_spec _ _ _ _ _ _ rfl hpk.2 hpk.1) fun w1 E1 => ?_)
    have z1 := E1.size
    try simp only [World.size_alloc, World.size_setCell, World.size_drew] at z1
    simp (disch := (first | omega | decide | (simp only [World.size_alloc, World.size_setCell, World.size_drew, List.mem_cons, List.not_mem_nil, or_false, not_false_eq_true] <;> omega) | fail)) only [↓xBox_r, ↓loadK_some, ↓loadsK_s, ↓loadsK_n, ↓loadsR_s, ↓loadsR_n, ↓storesK_s, ↓storesK_n, setCells_c, setCells_n, World.setCell_alloc_at, World.setCell_alloc_past, World.cell?_alloc_at, World.cell?_alloc_past, 
      World.frozen?_alloc_at, World.frozen?_alloc_past, World.size_alloc, ↓xPick_t, ↓xPick_f, ↓xGuard_tt, ↓xGuard_ff, ↓xGuard_tf, ↓xGuard_ft, ↓xGuard_u, ↓xNil_r, Option.isNone_some, Option.isNone_none, ↓xIf_t, tick_eq, tickV_eq, ne_eq, 
      dlt_t, dlt_f, dle_t, dle_f, deq_t, deq_f, dne_t, dne_f, not_true_eq_false, Int.reduceAdd, Int.reduceSub, Int.reduceMul, Int.reduceEq, Int.reduceLT, Int.reduceLE, Bool.false_and, Bool.true_and, Bool.and_true, 
      Bool.and_false, ↓xBin_add', ↓xBin_sub', ↓xBin_mul', ↓xBin_quo', ↓xBin_rem', wrap_in, ↓xIf_f, ↓xIf_tt, ↓xEx0, ↓xEx1, ↓xEx2, ↓xEx3, ↓xBin_eqs, ↓xBin_nes, ↓xUn_not, ↓xu8_add, ↓xu8_lss, ↓xu16_add, ↓xu16_lss, ↓xu32_add, ↓xu32_lss, 
      ↓xu64_add, ↓xu64_lss, ↓xi64_lss, Int.toNat_natCast, Int.reduceToNat, Nat.reduceMul, Nat.reduceAdd, Nat.reduceSub, Nat.mul_one, List.nil_append, List.cons_append, List.getElem?_toArray, List.getElem?_cons_zero, List.getElem?_cons_succ, 
      cells_int, cells_bool, cells_string, cells_slice, cells_pointer, cells_agg, one_int, one_bool, one_string, one_slice, one_pointer, List.setIfInBounds_toArray, List.set_cons_zero, List.set_cons_succ, ↓xDet_s, ↓xDet_ld, 
      ↓xDet_ld2, ↓xDet_ld3, ↓xDet_ld4, World.size_drew, Nat.zero_add, Nat.add_zero, cell_drew, frozen_drew, cell_set_eq, cell_set_o, cell_set_b, Option.map_some, World.frozen?_setCell, decide_true, decide_false, List.not_mem_nil, 
      not_false_eq_true, ↓xGuard_tt, Bool.not_true, Bool.not_false, ←decide_not, ↓ld_51, ↓ia_50, ↓ln_50, hc]
    have := hn w1 (F1.trans E1)
    rw [sumsV_take (by simpa using hk)] at this
    simpa using this
  · intro u v1 hu F1 nxt
    simp only [List.map_cons, List.map_nil, List.cons.injEq, and_true] at hu
    obtain ⟨h1, h2⟩ := hu
    rw [h1, h2]
    unfold crc_Sum_l1
    simp (disch := (first | omega | decide | (simp only [World.size_alloc, World.size_setCell, World.size_drew, List.mem_cons, List.not_mem_nil, or_false, not_false_eq_true] <;> omega) | fail)) only [↓xBox_r, ↓loadK_some, ↓loadsK_s, ↓loadsK_n, ↓loadsR_s, ↓loadsR_n, ↓storesK_s, ↓storesK_n, setCells_c, setCells_n, World.setCell_alloc_at, World.setCell_alloc_past, World.cell?_alloc_at, World.cell?_alloc_past, 
      World.frozen?_alloc_at, World.frozen?_alloc_past, World.size_alloc, ↓xPick_t, ↓xPick_f, ↓xGuard_tt, ↓xGuard_ff, ↓xGuard_tf, ↓xGuard_ft, ↓xGuard_u, ↓xNil_r, Option.isNone_some, Option.isNone_none, ↓xIf_t, tick_eq, tickV_eq, ne_eq, 
      dlt_t, dlt_f, dle_t, dle_f, deq_t, deq_f, dne_t, dne_f, not_true_eq_false, Int.reduceAdd, Int.reduceSub, Int.reduceMul, Int.reduceEq, Int.reduceLT, Int.reduceLE, Bool.false_and, Bool.true_and, Bool.and_true, 
      Bool.and_false, ↓xBin_add', ↓xBin_sub', ↓xBin_mul', ↓xBin_quo', ↓xBin_rem', wrap_in, ↓xIf_f, ↓xIf_tt, ↓xEx0, ↓xEx1, ↓xEx2, ↓xEx3, ↓xBin_eqs, ↓xBin_nes, ↓xUn_not, ↓xu8_add, ↓xu8_lss, ↓xu16_add, ↓xu16_lss, ↓xu32_add, ↓xu32_lss, 
      ↓xu64_add, ↓xu64_lss, ↓xi64_lss, Int.toNat_natCast, Int.reduceToNat, Nat.reduceMul, Nat.reduceAdd, Nat.reduceSub, Nat.mul_one, List.nil_append, List.cons_append, List.getElem?_toArray, List.getElem?_cons_zero, List.getElem?_cons_succ, 
      cells_int, cells_bool, cells_string, cells_slice, cells_pointer, cells_agg, one_int, one_bool, one_string, one_slice, one_pointer, List.setIfInBounds_toArray, List.set_cons_zero, List.set_cons_succ, ↓xDet_s, ↓xDet_ld, 
      ↓xDet_ld2, ↓xDet_ld3, ↓xDet_ld4, World.size_drew, Nat.zero_add, Nat.add_zero, cell_drew, frozen_drew, cell_set_eq, cell_set_o, cell_set_b, Option.map_some, World.frozen?_setCell, decide_true, decide_false, List.not_mem_nil, 
      not_false_eq_true, ↓xGuard_tt, Bool.not_true, Bool.not_false, ←decide_not, ↓ld_51, ↓ia_50, ↓ln_50, eq_self]
    rw [List.take_of_length_le (by simp)]
    exact ⟨by rfl, F1⟩
def inside (at' n size : Int) : Prop := 1 ≤ n ∧ n ≤ 8 ∧ 0 ≤ at' ∧ n ≤ size ∧ at' ≤ size - n
instance (at' n size : Int) : Decidable (inside at' n size) := by unfold inside; infer_instance
theorem within_spec (at' n size : Int) (w : World) (hs : 0 ≤ size) (hs1 : size ≤ 4294967296) : Gives Try.prog n_bits_within #[i64 at', i64 n, i64 size] w (.bool (decide (inside at' n size))) := by
  refine bits_within_of ?_
  unfold bits_within
  simp (disch := (first | omega | decide | (simp only [World.size_alloc, World.size_setCell, World.size_drew, List.mem_cons, List.not_mem_nil, or_false, not_false_eq_true] <;> omega) | fail)) only [↓xBox_r, ↓loadK_some, ↓loadsK_s, ↓loadsK_n, ↓loadsR_s, ↓loadsR_n, ↓storesK_s, ↓storesK_n, setCells_c, setCells_n, World.setCell_alloc_at, World.setCell_alloc_past, World.cell?_alloc_at, World.cell?_alloc_past, 
      World.frozen?_alloc_at, World.frozen?_alloc_past, World.size_alloc, ↓xPick_t, ↓xPick_f, ↓xGuard_tt, ↓xGuard_ff, ↓xGuard_tf, ↓xGuard_ft, ↓xGuard_u, ↓xNil_r, Option.isNone_some, Option.isNone_none, ↓xIf_t, tick_eq, tickV_eq, ne_eq, 
      dlt_t, dlt_f, dle_t, dle_f, deq_t, deq_f, dne_t, dne_f, not_true_eq_false, Int.reduceAdd, Int.reduceSub, Int.reduceMul, Int.reduceEq, Int.reduceLT, Int.reduceLE, Bool.false_and, Bool.true_and, Bool.and_true, 
      Bool.and_false, ↓xBin_add', ↓xBin_sub', ↓xBin_mul', ↓xBin_quo', ↓xBin_rem', wrap_in, ↓xIf_f, ↓xIf_tt, ↓xEx0, ↓xEx1, ↓xEx2, ↓xEx3, ↓xBin_eqs, ↓xBin_nes, ↓xUn_not, ↓xu8_sub, ↓xu8_leq, ↓xu8_geq, ↓xu16_sub, ↓xu16_leq, ↓xu16_geq, 
      ↓xu32_sub, ↓xu32_leq, ↓xu32_geq, ↓xu64_sub, ↓xu64_leq, ↓xu64_geq, ↓xi64_leq, ↓xi64_geq, Int.toNat_natCast, Int.reduceToNat, Nat.reduceMul, Nat.reduceAdd, Nat.reduceSub, Nat.mul_one, List.nil_append, List.cons_append, 
      List.getElem?_toArray, List.getElem?_cons_zero, List.getElem?_cons_succ, cells_int, cells_bool, cells_string, cells_slice, cells_pointer, cells_agg, one_int, one_bool, one_string, one_slice, one_pointer, List.setIfInBounds_toArray, 
      List.set_cons_zero, List.set_cons_succ, ↓xDet_s, ↓xDet_ld, ↓xDet_ld2, ↓xDet_ld3, ↓xDet_ld4, World.size_drew, Nat.zero_add, Nat.add_zero, cell_drew, frozen_drew, cell_set_eq, cell_set_o, cell_set_b, Option.map_some, World.frozen?_setCell, 
      decide_true, decide_false, List.not_mem_nil, not_false_eq_true, ↓xGuard_tt, Bool.not_true, Bool.not_false, ←decide_not, eq_self, eq_self]
  by_cases g1 : ¬ 1 ≤ n
  · have hv : decide (inside at' n size) = false := decide_eq_false (by unfold inside; omega)
    simp (disch := (first | omega | decide | (simp only [World.size_alloc, World.size_setCell, World.size_drew, List.mem_cons, List.not_mem_nil, or_false, not_false_eq_true] <;> omega) | fail)) only [↓xBox_r, ↓loadK_some, ↓loadsK_s, ↓loadsK_n, ↓loadsR_s, ↓loadsR_n, ↓storesK_s, ↓storesK_n, setCells_c, setCells_n, World.setCell_alloc_at, World.setCell_alloc_past, World.cell?_alloc_at, World.cell?_alloc_past, 
      World.frozen?_alloc_at, World.frozen?_alloc_past, World.size_alloc, ↓xPick_t, ↓xPick_f, ↓xGuard_tt, ↓xGuard_ff, ↓xGuard_tf, ↓xGuard_ft, ↓xGuard_u, ↓xNil_r, Option.isNone_some, Option.isNone_none, ↓xIf_t, tick_eq, tickV_eq, ne_eq, 
      dlt_t, dlt_f, dle_t, dle_f, deq_t, deq_f, dne_t, dne_f, not_true_eq_false, Int.reduceAdd, Int.reduceSub, Int.reduceMul, Int.reduceEq, Int.reduceLT, Int.reduceLE, Bool.false_and, Bool.true_and, Bool.and_true, 
      Bool.and_false, ↓xBin_add', ↓xBin_sub', ↓xBin_mul', ↓xBin_quo', ↓xBin_rem', wrap_in, ↓xIf_f, ↓xIf_tt, ↓xEx0, ↓xEx1, ↓xEx2, ↓xEx3, ↓xBin_eqs, ↓xBin_nes, ↓xUn_not, ↓xu8_sub, ↓xu8_leq, ↓xu8_geq, ↓xu16_sub, ↓xu16_leq, ↓xu16_geq, 
      ↓xu32_sub, ↓xu32_leq, ↓xu32_geq, ↓xu64_sub, ↓xu64_leq, ↓xu64_geq, ↓xi64_leq, ↓xi64_geq, Int.toNat_natCast, Int.reduceToNat, Nat.reduceMul, Nat.reduceAdd, Nat.reduceSub, Nat.mul_one, List.nil_append, List.cons_append, 
      List.getElem?_toArray, List.getElem?_cons_zero, List.getElem?_cons_succ, cells_int, cells_bool, cells_string, cells_slice, cells_pointer, cells_agg, one_int, one_bool, one_string, one_slice, one_pointer, List.setIfInBounds_toArray, 
      List.set_cons_zero, List.set_cons_succ, ↓xDet_s, ↓xDet_ld, ↓xDet_ld2, ↓xDet_ld3, ↓xDet_ld4, World.size_drew, Nat.zero_add, Nat.add_zero, cell_drew, frozen_drew, cell_set_eq, cell_set_o, cell_set_b, Option.map_some, World.frozen?_setCell, 
      decide_true, decide_false, List.not_mem_nil, not_false_eq_true, ↓xGuard_tt, Bool.not_true, Bool.not_false, ←decide_not, eq_self, eq_self, g1, hv]
    exact ⟨by trivial, by (repeat (first | with_reducible exact Ext.refl _ _ | with_reducible assumption | with_reducible refine Ext.alloc' ?_ _ | with_reducible refine Ext.drew' ?_ | with_reducible refine Ext.set' ?_ ?_ | exact .inr (by first | omega | (simp only [World.size_alloc, World.size_drew, World.size_setCell] <;> omega)) | refine Ext.trans ?_ (by with_reducible assumption)))⟩
  replace g1 := Decidable.not_not.1 g1
  by_cases g2 : ¬ n ≤ 8
  · have hv : decide (inside at' n size) = false := decide_eq_false (by unfold inside; omega)
    simp (disch := (first | omega | decide | (simp only [World.size_alloc, World.size_setCell, World.size_drew, List.mem_cons, List.not_mem_nil, or_false, not_false_eq_true] <;> omega) | fail)) only [↓xBox_r, ↓loadK_some, ↓loadsK_s, ↓loadsK_n, ↓loadsR_s, ↓loadsR_n, ↓storesK_s, ↓storesK_n, setCells_c, setCells_n, World.setCell_alloc_at, World.setCell_alloc_past, World.cell?_alloc_at, World.cell?_alloc_past, 
      World.frozen?_alloc_at, World.frozen?_alloc_past, World.size_alloc, ↓xPick_t, ↓xPick_f, ↓xGuard_tt, ↓xGuard_ff, ↓xGuard_tf, ↓xGuard_ft, ↓xGuard_u, ↓xNil_r, Option.isNone_some, Option.isNone_none, ↓xIf_t, tick_eq, tickV_eq, ne_eq, 
      dlt_t, dlt_f, dle_t, dle_f, deq_t, deq_f, dne_t, dne_f, not_true_eq_false, Int.reduceAdd, Int.reduceSub, Int.reduceMul, Int.reduceEq, Int.reduceLT, Int.reduceLE, Bool.false_and, Bool.true_and, Bool.and_true, 
      Bool.and_false, ↓xBin_add', ↓xBin_sub', ↓xBin_mul', ↓xBin_quo', ↓xBin_rem', wrap_in, ↓xIf_f, ↓xIf_tt, ↓xEx0, ↓xEx1, ↓xEx2, ↓xEx3, ↓xBin_eqs, ↓xBin_nes, ↓xUn_not, ↓xu8_sub, ↓xu8_leq, ↓xu8_geq, ↓xu16_sub, ↓xu16_leq, ↓xu16_geq, 
      ↓xu32_sub, ↓xu32_leq, ↓xu32_geq, ↓xu64_sub, ↓xu64_leq, ↓xu64_geq, ↓xi64_leq, ↓xi64_geq, Int.toNat_natCast, Int.reduceToNat, Nat.reduceMul, Nat.reduceAdd, Nat.reduceSub, Nat.mul_one, List.nil_append, List.cons_append, 
      List.getElem?_toArray, List.getElem?_cons_zero, List.getElem?_cons_succ, cells_int, cells_bool, cells_string, cells_slice, cells_pointer, cells_agg, one_int, one_bool, one_string, one_slice, one_pointer, List.setIfInBounds_toArray, 
      List.set_cons_zero, List.set_cons_succ, ↓xDet_s, ↓xDet_ld, ↓xDet_ld2, ↓xDet_ld3, ↓xDet_ld4, World.size_drew, Nat.zero_add, Nat.add_zero, cell_drew, frozen_drew, cell_set_eq, cell_set_o, cell_set_b, Option.map_some, World.frozen?_setCell, 
      decide_true, decide_false, List.not_mem_nil, not_false_eq_true, ↓xGuard_tt, Bool.not_true, Bool.not_false, ←decide_not, eq_self, eq_true g1, g2, hv]
    exact ⟨by trivial, by (repeat (first | with_reducible exact Ext.refl _ _ | with_reducible assumption | with_reducible refine Ext.alloc' ?_ _ | with_reducible refine Ext.drew' ?_ | with_reducible refine Ext.set' ?_ ?_ | exact .inr (by first | omega | (simp only [World.size_alloc, World.size_drew, World.size_setCell] <;> omega)) | refine Ext.trans ?_ (by with_reducible assumption)))⟩
  replace g2 := Decidable.not_not.1 g2
  by_cases g3 : ¬ 0 ≤ at'
  · have hv : decide (inside at' n size) = false := decide_eq_false (by unfold inside; omega)
    simp (disch := (first | omega | decide | (simp only [World.size_alloc, World.size_setCell, World.size_drew, List.mem_cons, List.not_mem_nil, or_false, not_false_eq_true] <;> omega) | fail)) only [↓xBox_r, ↓loadK_some, ↓loadsK_s, ↓loadsK_n, ↓loadsR_s, ↓loadsR_n, ↓storesK_s, ↓storesK_n, setCells_c, setCells_n, World.setCell_alloc_at, World.setCell_alloc_past, World.cell?_alloc_at, World.cell?_alloc_past, 
      World.frozen?_alloc_at, World.frozen?_alloc_past, World.size_alloc, ↓xPick_t, ↓xPick_f, ↓xGuard_tt, ↓xGuard_ff, ↓xGuard_tf, ↓xGuard_ft, ↓xGuard_u, ↓xNil_r, Option.isNone_some, Option.isNone_none, ↓xIf_t, tick_eq, tickV_eq, ne_eq, 
      dlt_t, dlt_f, dle_t, dle_f, deq_t, deq_f, dne_t, dne_f, not_true_eq_false, Int.reduceAdd, Int.reduceSub, Int.reduceMul, Int.reduceEq, Int.reduceLT, Int.reduceLE, Bool.false_and, Bool.true_and, Bool.and_true, 
      Bool.and_false, ↓xBin_add', ↓xBin_sub', ↓xBin_mul', ↓xBin_quo', ↓xBin_rem', wrap_in, ↓xIf_f, ↓xIf_tt, ↓xEx0, ↓xEx1, ↓xEx2, ↓xEx3, ↓xBin_eqs, ↓xBin_nes, ↓xUn_not, ↓xu8_sub, ↓xu8_leq, ↓xu8_geq, ↓xu16_sub, ↓xu16_leq, ↓xu16_geq, 
      ↓xu32_sub, ↓xu32_leq, ↓xu32_geq, ↓xu64_sub, ↓xu64_leq, ↓xu64_geq, ↓xi64_leq, ↓xi64_geq, Int.toNat_natCast, Int.reduceToNat, Nat.reduceMul, Nat.reduceAdd, Nat.reduceSub, Nat.mul_one, List.nil_append, List.cons_append, 
      List.getElem?_toArray, List.getElem?_cons_zero, List.getElem?_cons_succ, cells_int, cells_bool, cells_string, cells_slice, cells_pointer, cells_agg, one_int, one_bool, one_string, one_slice, one_pointer, List.setIfInBounds_toArray, 
      List.set_cons_zero, List.set_cons_succ, ↓xDet_s, ↓xDet_ld, ↓xDet_ld2, ↓xDet_ld3, ↓xDet_ld4, World.size_drew, Nat.zero_add, Nat.add_zero, cell_drew, frozen_drew, cell_set_eq, cell_set_o, cell_set_b, Option.map_some, World.frozen?_setCell, 
      decide_true, decide_false, List.not_mem_nil, not_false_eq_true, ↓xGuard_tt, Bool.not_true, Bool.not_false, ←decide_not, eq_self, eq_true g1, eq_true g2, g3, hv]
    exact ⟨by trivial, by (repeat (first | with_reducible exact Ext.refl _ _ | with_reducible assumption | with_reducible refine Ext.alloc' ?_ _ | with_reducible refine Ext.drew' ?_ | with_reducible refine Ext.set' ?_ ?_ | exact .inr (by first | omega | (simp only [World.size_alloc, World.size_drew, World.size_setCell] <;> omega)) | refine Ext.trans ?_ (by with_reducible assumption)))⟩
  replace g3 := Decidable.not_not.1 g3
  by_cases g4 : ¬ n ≤ size
  · have hv : decide (inside at' n size) = false := decide_eq_false (by unfold inside; omega)
    simp (disch := (first | omega | decide | (simp only [World.size_alloc, World.size_setCell, World.size_drew, List.mem_cons, List.not_mem_nil, or_false, not_false_eq_true] <;> omega) | fail)) only [↓xBox_r, ↓loadK_some, ↓loadsK_s, ↓loadsK_n, ↓loadsR_s, ↓loadsR_n, ↓storesK_s, ↓storesK_n, setCells_c, setCells_n, World.setCell_alloc_at, World.setCell_alloc_past, World.cell?_alloc_at, World.cell?_alloc_past, 
      World.frozen?_alloc_at, World.frozen?_alloc_past, World.size_alloc, ↓xPick_t, ↓xPick_f, ↓xGuard_tt, ↓xGuard_ff, ↓xGuard_tf, ↓xGuard_ft, ↓xGuard_u, ↓xNil_r, Option.isNone_some, Option.isNone_none, ↓xIf_t, tick_eq, tickV_eq, ne_eq, 
      dlt_t, dlt_f, dle_t, dle_f, deq_t, deq_f, dne_t, dne_f, not_true_eq_false, Int.reduceAdd, Int.reduceSub, Int.reduceMul, Int.reduceEq, Int.reduceLT, Int.reduceLE, Bool.false_and, Bool.true_and, Bool.and_true, 
      Bool.and_false, ↓xBin_add', ↓xBin_sub', ↓xBin_mul', ↓xBin_quo', ↓xBin_rem', wrap_in, ↓xIf_f, ↓xIf_tt, ↓xEx0, ↓xEx1, ↓xEx2, ↓xEx3, ↓xBin_eqs, ↓xBin_nes, ↓xUn_not, ↓xu8_sub, ↓xu8_leq, ↓xu8_geq, ↓xu16_sub, ↓xu16_leq, ↓xu16_geq, 
      ↓xu32_sub, ↓xu32_leq, ↓xu32_geq, ↓xu64_sub, ↓xu64_leq, ↓xu64_geq, ↓xi64_leq, ↓xi64_geq, Int.toNat_natCast, Int.reduceToNat, Nat.reduceMul, Nat.reduceAdd, Nat.reduceSub, Nat.mul_one, List.nil_append, List.cons_append, 
      List.getElem?_toArray, List.getElem?_cons_zero, List.getElem?_cons_succ, cells_int, cells_bool, cells_string, cells_slice, cells_pointer, cells_agg, one_int, one_bool, one_string, one_slice, one_pointer, List.setIfInBounds_toArray, 
      List.set_cons_zero, List.set_cons_succ, ↓xDet_s, ↓xDet_ld, ↓xDet_ld2, ↓xDet_ld3, ↓xDet_ld4, World.size_drew, Nat.zero_add, Nat.add_zero, cell_drew, frozen_drew, cell_set_eq, cell_set_o, cell_set_b, Option.map_some, World.frozen?_setCell, 
      decide_true, decide_false, List.not_mem_nil, not_false_eq_true, ↓xGuard_tt, Bool.not_true, Bool.not_false, ←decide_not, eq_self, eq_true g1, eq_true g2, eq_true g3, g4, hv]
    exact ⟨by trivial, by (repeat (first | with_reducible exact Ext.refl _ _ | with_reducible assumption | with_reducible refine Ext.alloc' ?_ _ | with_reducible refine Ext.drew' ?_ | with_reducible refine Ext.set' ?_ ?_ | exact .inr (by first | omega | (simp only [World.size_alloc, World.size_drew, World.size_setCell] <;> omega)) | refine Ext.trans ?_ (by with_reducible assumption)))⟩
  replace g4 := Decidable.not_not.1 g4
  by_cases g5 : ¬ at' ≤ size - n
  · have hv : decide (inside at' n size) = false := decide_eq_false (by unfold inside; omega)
    simp (disch := (first | omega | decide | (simp only [World.size_alloc, World.size_setCell, World.size_drew, List.mem_cons, List.not_mem_nil, or_false, not_false_eq_true] <;> omega) | fail)) only [↓xBox_r, ↓loadK_some, ↓loadsK_s, ↓loadsK_n, ↓loadsR_s, ↓loadsR_n, ↓storesK_s, ↓storesK_n, setCells_c, setCells_n, World.setCell_alloc_at, World.setCell_alloc_past, World.cell?_alloc_at, World.cell?_alloc_past, 
      World.frozen?_alloc_at, World.frozen?_alloc_past, World.size_alloc, ↓xPick_t, ↓xPick_f, ↓xGuard_tt, ↓xGuard_ff, ↓xGuard_tf, ↓xGuard_ft, ↓xGuard_u, ↓xNil_r, Option.isNone_some, Option.isNone_none, ↓xIf_t, tick_eq, tickV_eq, ne_eq, 
      dlt_t, dlt_f, dle_t, dle_f, deq_t, deq_f, dne_t, dne_f, not_true_eq_false, Int.reduceAdd, Int.reduceSub, Int.reduceMul, Int.reduceEq, Int.reduceLT, Int.reduceLE, Bool.false_and, Bool.true_and, Bool.and_true, 
      Bool.and_false, ↓xBin_add', ↓xBin_sub', ↓xBin_mul', ↓xBin_quo', ↓xBin_rem', wrap_in, ↓xIf_f, ↓xIf_tt, ↓xEx0, ↓xEx1, ↓xEx2, ↓xEx3, ↓xBin_eqs, ↓xBin_nes, ↓xUn_not, ↓xu8_sub, ↓xu8_leq, ↓xu8_geq, ↓xu16_sub, ↓xu16_leq, ↓xu16_geq, 
      ↓xu32_sub, ↓xu32_leq, ↓xu32_geq, ↓xu64_sub, ↓xu64_leq, ↓xu64_geq, ↓xi64_leq, ↓xi64_geq, Int.toNat_natCast, Int.reduceToNat, Nat.reduceMul, Nat.reduceAdd, Nat.reduceSub, Nat.mul_one, List.nil_append, List.cons_append, 
      List.getElem?_toArray, List.getElem?_cons_zero, List.getElem?_cons_succ, cells_int, cells_bool, cells_string, cells_slice, cells_pointer, cells_agg, one_int, one_bool, one_string, one_slice, one_pointer, List.setIfInBounds_toArray, 
      List.set_cons_zero, List.set_cons_succ, ↓xDet_s, ↓xDet_ld, ↓xDet_ld2, ↓xDet_ld3, ↓xDet_ld4, World.size_drew, Nat.zero_add, Nat.add_zero, cell_drew, frozen_drew, cell_set_eq, cell_set_o, cell_set_b, Option.map_some, World.frozen?_setCell, 
      decide_true, decide_false, List.not_mem_nil, not_false_eq_true, ↓xGuard_tt, Bool.not_true, Bool.not_false, ←decide_not, eq_self, eq_true g1, eq_true g2, eq_true g3, eq_true g4, g5, hv]
    exact ⟨by trivial, by (repeat (first | with_reducible exact Ext.refl _ _ | with_reducible assumption | with_reducible refine Ext.alloc' ?_ _ | with_reducible refine Ext.drew' ?_ | with_reducible refine Ext.set' ?_ ?_ | exact .inr (by first | omega | (simp only [World.size_alloc, World.size_drew, World.size_setCell] <;> omega)) | refine Ext.trans ?_ (by with_reducible assumption)))⟩
  replace g5 := Decidable.not_not.1 g5
  have hv : decide (inside at' n size) = true := decide_eq_true (by unfold inside; omega)
  simp (disch := (first | omega | decide | (simp only [World.size_alloc, World.size_setCell, World.size_drew, List.mem_cons, List.not_mem_nil, or_false, not_false_eq_true] <;> omega) | fail)) only [↓xBox_r, ↓loadK_some, ↓loadsK_s, ↓loadsK_n, ↓loadsR_s, ↓loadsR_n, ↓storesK_s, ↓storesK_n, setCells_c, setCells_n, World.setCell_alloc_at, World.setCell_alloc_past, World.cell?_alloc_at, World.cell?_alloc_past, 
      World.frozen?_alloc_at, World.frozen?_alloc_past, World.size_alloc, ↓xPick_t, ↓xPick_f, ↓xGuard_tt, ↓xGuard_ff, ↓xGuard_tf, ↓xGuard_ft, ↓xGuard_u, ↓xNil_r, Option.isNone_some, Option.isNone_none, ↓xIf_t, tick_eq, tickV_eq, ne_eq, 
      dlt_t, dlt_f, dle_t, dle_f, deq_t, deq_f, dne_t, dne_f, not_true_eq_false, Int.reduceAdd, Int.reduceSub, Int.reduceMul, Int.reduceEq, Int.reduceLT, Int.reduceLE, Bool.false_and, Bool.true_and, Bool.and_true, 
      Bool.and_false, ↓xBin_add', ↓xBin_sub', ↓xBin_mul', ↓xBin_quo', ↓xBin_rem', wrap_in, ↓xIf_f, ↓xIf_tt, ↓xEx0, ↓xEx1, ↓xEx2, ↓xEx3, ↓xBin_eqs, ↓xBin_nes, ↓xUn_not, ↓xu8_sub, ↓xu8_leq, ↓xu8_geq, ↓xu16_sub, ↓xu16_leq, ↓xu16_geq, 
      ↓xu32_sub, ↓xu32_leq, ↓xu32_geq, ↓xu64_sub, ↓xu64_leq, ↓xu64_geq, ↓xi64_leq, ↓xi64_geq, Int.toNat_natCast, Int.reduceToNat, Nat.reduceMul, Nat.reduceAdd, Nat.reduceSub, Nat.mul_one, List.nil_append, List.cons_append, 
      List.getElem?_toArray, List.getElem?_cons_zero, List.getElem?_cons_succ, cells_int, cells_bool, cells_string, cells_slice, cells_pointer, cells_agg, one_int, one_bool, one_string, one_slice, one_pointer, List.setIfInBounds_toArray, 
      List.set_cons_zero, List.set_cons_succ, ↓xDet_s, ↓xDet_ld, ↓xDet_ld2, ↓xDet_ld3, ↓xDet_ld4, World.size_drew, Nat.zero_add, Nat.add_zero, cell_drew, frozen_drew, cell_set_eq, cell_set_o, cell_set_b, Option.map_some, World.frozen?_setCell, 
      decide_true, decide_false, List.not_mem_nil, not_false_eq_true, ↓xGuard_tt, Bool.not_true, Bool.not_false, ←decide_not, eq_self, eq_true g1, eq_true g2, eq_true g3, eq_true g4, eq_true g5, hv]
  exact ⟨by trivial, by (repeat (first | with_reducible exact Ext.refl _ _ | with_reducible assumption | with_reducible refine Ext.alloc' ?_ _ | with_reducible refine Ext.drew' ?_ | with_reducible refine Ext.set' ?_ ?_ | exact .inr (by first | omega | (simp only [World.size_alloc, World.size_drew, World.size_setCell] <;> omega)) | refine Ext.trans ?_ (by with_reducible assumption)))⟩
theorem putV_take {l : List (BitVec 8)} {at' n k : Nat} {v : BitVec 64} (hk : k < n) (h : at' + n ≤ l.length) : (putV l at' k v).set (at' + k) (byteOf v k) = putV l at' (k + 1) v := by
  unfold putV
  rw [List.range_succ, List.map_append, List.set_append_right _ _ (by simp; omega)]
  have hl : (l.take at' ++ (List.range k).map (byteOf v)).length = at' + k := by simp; omega
  rw [hl, show at' + k - (at' + k) = 0 by omega, List.drop_eq_getElem_cons (show at' + k < l.length by omega)]
  simp [Nat.add_assoc]
theorem putV_zero {l : List (BitVec 8)} {at' : Nat} {v : BitVec 64} : putV l at' 0 v = l := by simp [putV]
theorem putV_length {l : List (BitVec 8)} {at' n : Nat} {v : BitVec 64} (h : at' + n ≤ l.length) : (putV l at' n v).length = l.length := by simp [putV]; omega
theorem bys_set {l : List (BitVec 8)} {i : Nat} {x : BitVec 8} : (bys l).set i (u8 x) = bys (l.set i x) := by simp [bys, List.map_set]
/-- what a function hands back in a new row of bytes, and a number -/
def PutOk (w w' : World) (u : Value) (l : List (BitVec 8)) : Prop := Ext [] w w' ∧ ∃ b, u = .tuple #[.slice (some ⟨b, 0, none⟩) l.length l.length, i64 0] ∧ w.heap.size ≤ b ∧ Blk w' b 5 (bys l)
theorem Put_spec (l : List (BitVec 8)) (a : Option Addr) (c : Nat) (at' n : Nat) (v : BitVec 64) (w : World) (hl : l.length ≤ 100000000) (h : RowAt w a (bys l)) (hi : inside at' n l.length) :
    Yld Try.prog n_bits_Put #[.slice a l.length c, i64 at', i64 n, u64 v] w fun u w' => PutOk w w' u (putV l at' n v) := by
  refine bits_Put_of ?_
  unfold bits_Put
  have hn : n ≤ 8 ∧ at' + n ≤ l.length ∧ 1 ≤ n := by unfold inside at hi; omega
  simp (disch := (first | omega | decide | (simp only [World.size_alloc, World.size_setCell, World.size_drew, List.mem_cons, List.not_mem_nil, or_false, not_false_eq_true] <;> omega) | fail)) only [↓xBox_r, ↓loadK_some, ↓loadsK_s, ↓loadsK_n, ↓loadsR_s, ↓loadsR_n, ↓storesK_s, ↓storesK_n, setCells_c, setCells_n, World.setCell_alloc_at, World.setCell_alloc_past, World.cell?_alloc_at, World.cell?_alloc_past, 
      World.frozen?_alloc_at, World.frozen?_alloc_past, World.size_alloc, ↓xPick_t, ↓xPick_f, ↓xGuard_tt, ↓xGuard_ff, ↓xGuard_tf, ↓xGuard_ft, ↓xGuard_u, ↓xNil_r, Option.isNone_some, Option.isNone_none, ↓xIf_t, tick_eq, tickV_eq, ne_eq, 
      dlt_t, dlt_f, dle_t, dle_f, deq_t, deq_f, dne_t, dne_f, not_true_eq_false, Int.reduceAdd, Int.reduceSub, Int.reduceMul, Int.reduceEq, Int.reduceLT, Int.reduceLE, Bool.false_and, Bool.true_and, Bool.and_true, 
      Bool.and_false, ↓xBin_add', ↓xBin_sub', ↓xBin_mul', ↓xBin_quo', ↓xBin_rem', wrap_in, ↓xIf_f, ↓xIf_tt, ↓xEx0, ↓xEx1, ↓xEx2, ↓xEx3, ↓xBin_eqs, ↓xBin_nes, ↓xUn_not, ↓xu8_add, ↓xu8_mul, ↓xu8_com, ↓xu8_shr, ↓xu8_lss, ↓xu16_add, 
      ↓xu16_mul, ↓xu16_com, ↓xu16_shr, ↓xu16_lss, ↓xu32_add, ↓xu32_mul, ↓xu32_com, ↓xu32_shr, ↓xu32_lss, ↓xu64_add, ↓xu64_mul, ↓xu64_com, ↓xu64_shr, ↓xu64_lss, ↓xi64_lss, ↓xi64_shr, Int.toNat_natCast, Int.reduceToNat, 
      Nat.reduceMul, Nat.reduceAdd, Nat.reduceSub, Nat.mul_one, List.nil_append, List.cons_append, List.getElem?_toArray, List.getElem?_cons_zero, List.getElem?_cons_succ, cells_int, cells_bool, cells_string, cells_slice, 
      cells_pointer, cells_agg, one_int, one_bool, one_string, one_slice, one_pointer, List.setIfInBounds_toArray, List.set_cons_zero, List.set_cons_succ, ↓xDet_s, ↓xDet_ld, ↓xDet_ld2, ↓xDet_ld3, ↓xDet_ld4, World.size_drew, 
      Nat.zero_add, Nat.add_zero, cell_drew, frozen_drew, cell_set_eq, cell_set_o, cell_set_b, Option.map_some, World.frozen?_setCell, decide_true, decide_false, List.not_mem_nil, not_false_eq_true, ↓xGuard_tt, Bool.not_true, 
      Bool.not_false, ←decide_not, ↓st_5, ↓cv_64_5, ↓ia_51, ↓ln_51, ↓mk_51, eq_self]
  refine bits_within_call (Gives.to (within_spec _ _ _ _ (by omega) (by omega)) fun w1 E1 => ?_)
  have z1 := E1.size
  try simp only [World.size_alloc, World.size_setCell, World.size_drew] at z1
  simp (disch := (first | omega | decide | (simp only [World.size_alloc, World.size_setCell, World.size_drew, List.mem_cons, List.not_mem_nil, or_false, not_false_eq_true] <;> omega) | fail)) only [↓xBox_r, ↓loadK_some, ↓loadsK_s, ↓loadsK_n, ↓loadsR_s, ↓loadsR_n, ↓storesK_s, ↓storesK_n, setCells_c, setCells_n, World.setCell_alloc_at, World.setCell_alloc_past, World.cell?_alloc_at, World.cell?_alloc_past, 
      World.frozen?_alloc_at, World.frozen?_alloc_past, World.size_alloc, ↓xPick_t, ↓xPick_f, ↓xGuard_tt, ↓xGuard_ff, ↓xGuard_tf, ↓xGuard_ft, ↓xGuard_u, ↓xNil_r, Option.isNone_some, Option.isNone_none, ↓xIf_t, tick_eq, tickV_eq, ne_eq, 
      dlt_t, dlt_f, dle_t, dle_f, deq_t, deq_f, dne_t, dne_f, not_true_eq_false, Int.reduceAdd, Int.reduceSub, Int.reduceMul, Int.reduceEq, Int.reduceLT, Int.reduceLE, Bool.false_and, Bool.true_and, Bool.and_true, 
      Bool.and_false, ↓xBin_add', ↓xBin_sub', ↓xBin_mul', ↓xBin_quo', ↓xBin_rem', wrap_in, ↓xIf_f, ↓xIf_tt, ↓xEx0, ↓xEx1, ↓xEx2, ↓xEx3, ↓xBin_eqs, ↓xBin_nes, ↓xUn_not, ↓xu8_add, ↓xu8_mul, ↓xu8_com, ↓xu8_shr, ↓xu8_lss, ↓xu16_add, 
      ↓xu16_mul, ↓xu16_com, ↓xu16_shr, ↓xu16_lss, ↓xu32_add, ↓xu32_mul, ↓xu32_com, ↓xu32_shr, ↓xu32_lss, ↓xu64_add, ↓xu64_mul, ↓xu64_com, ↓xu64_shr, ↓xu64_lss, ↓xi64_lss, ↓xi64_shr, Int.toNat_natCast, Int.reduceToNat, 
      Nat.reduceMul, Nat.reduceAdd, Nat.reduceSub, Nat.mul_one, List.nil_append, List.cons_append, List.getElem?_toArray, List.getElem?_cons_zero, List.getElem?_cons_succ, cells_int, cells_bool, cells_string, cells_slice, 
      cells_pointer, cells_agg, one_int, one_bool, one_string, one_slice, one_pointer, List.setIfInBounds_toArray, List.set_cons_zero, List.set_cons_succ, ↓xDet_s, ↓xDet_ld, ↓xDet_ld2, ↓xDet_ld3, ↓xDet_ld4, World.size_drew, 
      Nat.zero_add, Nat.add_zero, cell_drew, frozen_drew, cell_set_eq, cell_set_o, cell_set_b, Option.map_some, World.frozen?_setCell, decide_true, decide_false, List.not_mem_nil, not_false_eq_true, ↓xGuard_tt, Bool.not_true, 
      Bool.not_false, ←decide_not, ↓st_5, ↓cv_64_5, ↓ia_51, ↓ln_51, ↓mk_51, decide_eq_true hi]
  have E2 : Ext [] w (w1.alloc (.cells (List.replicate l.length (c8 0)).toArray 5)) := by (repeat (first | with_reducible exact Ext.refl _ _ | with_reducible assumption | with_reducible refine Ext.alloc' ?_ _ | with_reducible refine Ext.drew' ?_ | with_reducible refine Ext.set' ?_ ?_ | exact .inr (by first | omega | (simp only [World.size_alloc, World.size_drew, World.size_setCell] <;> omega)) | refine Ext.trans ?_ (by with_reducible assumption)))
  have hb := Blk.new (e := 5) w1 (List.replicate l.length (c8 0))
  have hro : roomy (w1.alloc (.cells (List.replicate l.length (c8 0)).toArray 5)) w1.heap.size 0 (bys l) := hb.roomy (by simp) (by simp [Value.oneCell'])
  have hb2 := hb.sets (l := bys l) (o := 0) (by simp)
  have E3 := E2.sets (g := w1.heap.size) (o := 0) (l := bys l) (.inr z1)
  rw [xCopy_all (e := 5) (by kernel_rfl) (by kernel_rfl) (by simp) (Nat.le_refl _) (h.ext0 E2) hro]
  generalize hw2 : (w1.alloc (.cells (List.replicate l.length (c8 0)).toArray 5)).setCells w1.heap.size 0 (bys l) = w2 at *
  have hb3 : Blk w2 w1.heap.size 5 (bys (putV l at' 0 v)) := by
    rw [putV_zero]
    simpa [List.drop_eq_nil_of_le] using hb2
  refine xLoop_n n (fun k => [i64 k]) (fun k w' => Ext [] w w' ∧ Blk w' w1.heap.size 5 (bys (putV l at' k v))) ?_ ⟨E3, hb3⟩ ?_ ?_
  · rfl
  · rintro k hk u v1 hu ⟨F1, B1⟩ nxt hnx
    simp only [List.map_cons, List.map_nil, List.cons.injEq, and_true] at hu
    rw [hu]
    have hlen : (putV l at' k v).length = l.length := putV_length (by omega)
    have c1 : ∀ i, v1.cell? ⟨w1.heap.size, i, none⟩ = (bys (putV l at' k v))[i]? := fun i => B1.cell
    have c2 : (bys (putV l at' k v))[at' + k]? = some (u8 ((putV l at' k v)[at' + k]'(by omega))) := by simp [show at' + k < (putV l at' k v).length by omega]
    have f1 : ∀ i, v1.frozen? ⟨w1.heap.size, i, none⟩ = false := fun i => B1.frozen
    have t1 : ((at' : Int) + (k : Int)).toNat = at' + k := by omega
    have t2 : (8 * (k : Int)).toNat = 8 * k := by omega
    unfold bits_Put_l1
    simp (disch := (first | omega | decide | (simp only [World.size_alloc, World.size_setCell, World.size_drew, List.mem_cons, List.not_mem_nil, or_false, not_false_eq_true] <;> omega) | fail)) only [↓xBox_r, ↓loadK_some, ↓loadsK_s, ↓loadsK_n, ↓loadsR_s, ↓loadsR_n, ↓storesK_s, ↓storesK_n, setCells_c, setCells_n, World.setCell_alloc_at, World.setCell_alloc_past, World.cell?_alloc_at, World.cell?_alloc_past, 
      World.frozen?_alloc_at, World.frozen?_alloc_past, World.size_alloc, ↓xPick_t, ↓xPick_f, ↓xGuard_tt, ↓xGuard_ff, ↓xGuard_tf, ↓xGuard_ft, ↓xGuard_u, ↓xNil_r, Option.isNone_some, Option.isNone_none, ↓xIf_t, tick_eq, tickV_eq, ne_eq, 
      dlt_t, dlt_f, dle_t, dle_f, deq_t, deq_f, dne_t, dne_f, not_true_eq_false, Int.reduceAdd, Int.reduceSub, Int.reduceMul, Int.reduceEq, Int.reduceLT, Int.reduceLE, Bool.false_and, Bool.true_and, Bool.and_true, 
      Bool.and_false, ↓xBin_add', ↓xBin_sub', ↓xBin_mul', ↓xBin_quo', ↓xBin_rem', wrap_in, ↓xIf_f, ↓xIf_tt, ↓xEx0, ↓xEx1, ↓xEx2, ↓xEx3, ↓xBin_eqs, ↓xBin_nes, ↓xUn_not, ↓xu8_add, ↓xu8_mul, ↓xu8_com, ↓xu8_shr, ↓xu8_lss, ↓xu16_add, 
      ↓xu16_mul, ↓xu16_com, ↓xu16_shr, ↓xu16_lss, ↓xu32_add, ↓xu32_mul, ↓xu32_com, ↓xu32_shr, ↓xu32_lss, ↓xu64_add, ↓xu64_mul, ↓xu64_com, ↓xu64_shr, ↓xu64_lss, ↓xi64_lss, ↓xi64_shr, Int.toNat_natCast, Int.reduceToNat, 
      Nat.reduceMul, Nat.reduceAdd, Nat.reduceSub, Nat.mul_one, List.nil_append, List.cons_append, List.getElem?_toArray, List.getElem?_cons_zero, List.getElem?_cons_succ, cells_int, cells_bool, cells_string, cells_slice, 
      cells_pointer, cells_agg, one_int, one_bool, one_string, one_slice, one_pointer, List.setIfInBounds_toArray, List.set_cons_zero, List.set_cons_succ, ↓xDet_s, ↓xDet_ld, ↓xDet_ld2, ↓xDet_ld3, ↓xDet_ld4, World.size_drew, 
      Nat.zero_add, Nat.add_zero, cell_drew, frozen_drew, cell_set_eq, cell_set_o, cell_set_b, Option.map_some, World.frozen?_setCell, decide_true, decide_false, List.not_mem_nil, not_false_eq_true, ↓xGuard_tt, Bool.not_true, 
      Bool.not_false, ←decide_not, ↓st_5, ↓cv_64_5, ↓ia_51, ↓ln_51, ↓mk_51, decide_eq_true hi, c1, c2, f1, t1, t2]
    have B2 := B1.set (i := at' + k) (v := u8 (byteOf v k))
    rw [bys_set, putV_take hk (by omega)] at B2
    exact hnx _ ⟨F1.set' (.inr z1), B2⟩
  · rintro u v1 hu ⟨F1, B1⟩ nxt
    simp only [List.map_cons, List.map_nil, List.cons.injEq, and_true] at hu
    rw [hu]
    unfold bits_Put_l1
    simp (disch := (first | omega | decide | (simp only [World.size_alloc, World.size_setCell, World.size_drew, List.mem_cons, List.not_mem_nil, or_false, not_false_eq_true] <;> omega) | fail)) only [↓xBox_r, ↓loadK_some, ↓loadsK_s, ↓loadsK_n, ↓loadsR_s, ↓loadsR_n, ↓storesK_s, ↓storesK_n, setCells_c, setCells_n, World.setCell_alloc_at, World.setCell_alloc_past, World.cell?_alloc_at, World.cell?_alloc_past, 
      World.frozen?_alloc_at, World.frozen?_alloc_past, World.size_alloc, ↓xPick_t, ↓xPick_f, ↓xGuard_tt, ↓xGuard_ff, ↓xGuard_tf, ↓xGuard_ft, ↓xGuard_u, ↓xNil_r, Option.isNone_some, Option.isNone_none, ↓xIf_t, tick_eq, tickV_eq, ne_eq, 
      dlt_t, dlt_f, dle_t, dle_f, deq_t, deq_f, dne_t, dne_f, not_true_eq_false, Int.reduceAdd, Int.reduceSub, Int.reduceMul, Int.reduceEq, Int.reduceLT, Int.reduceLE, Bool.false_and, Bool.true_and, Bool.and_true, 
      Bool.and_false, ↓xBin_add', ↓xBin_sub', ↓xBin_mul', ↓xBin_quo', ↓xBin_rem', wrap_in, ↓xIf_f, ↓xIf_tt, ↓xEx0, ↓xEx1, ↓xEx2, ↓xEx3, ↓xBin_eqs, ↓xBin_nes, ↓xUn_not, ↓xu8_add, ↓xu8_mul, ↓xu8_com, ↓xu8_shr, ↓xu8_lss, ↓xu16_add, 
      ↓xu16_mul, ↓xu16_com, ↓xu16_shr, ↓xu16_lss, ↓xu32_add, ↓xu32_mul, ↓xu32_com, ↓xu32_shr, ↓xu32_lss, ↓xu64_add, ↓xu64_mul, ↓xu64_com, ↓xu64_shr, ↓xu64_lss, ↓xi64_lss, ↓xi64_shr, Int.toNat_natCast, Int.reduceToNat, 
      Nat.reduceMul, Nat.reduceAdd, Nat.reduceSub, Nat.mul_one, List.nil_append, List.cons_append, List.getElem?_toArray, List.getElem?_cons_zero, List.getElem?_cons_succ, cells_int, cells_bool, cells_string, cells_slice, 
      cells_pointer, cells_agg, one_int, one_bool, one_string, one_slice, one_pointer, List.setIfInBounds_toArray, List.set_cons_zero, List.set_cons_succ, ↓xDet_s, ↓xDet_ld, ↓xDet_ld2, ↓xDet_ld3, ↓xDet_ld4, World.size_drew, 
      Nat.zero_add, Nat.add_zero, cell_drew, frozen_drew, cell_set_eq, cell_set_o, cell_set_b, Option.map_some, World.frozen?_setCell, decide_true, decide_false, List.not_mem_nil, not_false_eq_true, ↓xGuard_tt, Bool.not_true, 
      Bool.not_false, ←decide_not, ↓st_5, ↓cv_64_5, ↓ia_51, ↓ln_51, ↓mk_51, decide_eq_true hi]
    have hlen : (putV l at' n v).length = l.length := putV_length (by omega)
    exact ⟨F1, w1.heap.size, by rw [hlen], z1, B1⟩

theorem Equal_spec (l l' : List (BitVec 8)) (a a' : Option Addr) (n n' c c' : Nat) (w : World) (hn : n = l.length) (hn' : n' = l'.length) (h : RowAt w a (bys l)) (h' : RowAt w a' (bys l')) : Gives Try.prog n_bytes_Equal #[.slice a n c, .slice a' n' c'] w (.bool (decide (l = l'))) := by
  refine bytes_Equal_of ?_
  unfold bytes_Equal
  rw [xConv_str (e := 5) (by kernel_rfl) (by kernel_rfl) (by kernel_rfl) hn h, xConv_str (e := 5) (by kernel_rfl) (by kernel_rfl) (by kernel_rfl) hn' h']
  simp (disch := (first | omega | decide | (simp only [World.size_alloc, World.size_setCell, World.size_drew, List.mem_cons, List.not_mem_nil, or_false, not_false_eq_true] <;> omega) | fail)) only [↓xBox_r, ↓loadK_some, ↓loadsK_s, ↓loadsK_n, ↓loadsR_s, ↓loadsR_n, ↓storesK_s, ↓storesK_n, setCells_c, setCells_n, World.setCell_alloc_at, World.setCell_alloc_past, World.cell?_alloc_at, World.cell?_alloc_past, 
      World.frozen?_alloc_at, World.frozen?_alloc_past, World.size_alloc, ↓xPick_t, ↓xPick_f, ↓xGuard_tt, ↓xGuard_ff, ↓xGuard_tf, ↓xGuard_ft, ↓xGuard_u, ↓xNil_r, Option.isNone_some, Option.isNone_none, ↓xIf_t, tick_eq, tickV_eq, ne_eq, 
      dlt_t, dlt_f, dle_t, dle_f, deq_t, deq_f, dne_t, dne_f, not_true_eq_false, Int.reduceAdd, Int.reduceSub, Int.reduceMul, Int.reduceEq, Int.reduceLT, Int.reduceLE, Bool.false_and, Bool.true_and, Bool.and_true, 
      Bool.and_false, ↓xBin_add', ↓xBin_sub', ↓xBin_mul', ↓xBin_quo', ↓xBin_rem', wrap_in, ↓xIf_f, ↓xIf_tt, ↓xEx0, ↓xEx1, ↓xEx2, ↓xEx3, ↓xBin_eqs, ↓xBin_nes, ↓xUn_not, ↓xu8_eql, ↓xu16_eql, ↓xu32_eql, ↓xu64_eql, ↓xi64_eql, Int.toNat_natCast, 
      Int.reduceToNat, Nat.reduceMul, Nat.reduceAdd, Nat.reduceSub, Nat.mul_one, List.nil_append, List.cons_append, List.getElem?_toArray, List.getElem?_cons_zero, List.getElem?_cons_succ, cells_int, cells_bool, cells_string, 
      cells_slice, cells_pointer, cells_agg, one_int, one_bool, one_string, one_slice, one_pointer, List.setIfInBounds_toArray, List.set_cons_zero, List.set_cons_succ, ↓xDet_s, ↓xDet_ld, ↓xDet_ld2, ↓xDet_ld3, ↓xDet_ld4, 
      World.size_drew, Nat.zero_add, Nat.add_zero, cell_drew, frozen_drew, cell_set_eq, cell_set_o, cell_set_b, Option.map_some, World.frozen?_setCell, decide_true, decide_false, List.not_mem_nil, not_false_eq_true, ↓xGuard_tt, 
      Bool.not_true, Bool.not_false, ←decide_not, eq_self, eq_self]
  exact ⟨by simp only [strOf_inj], by (repeat (first | with_reducible exact Ext.refl _ _ | with_reducible assumption | with_reducible refine Ext.alloc' ?_ _ | with_reducible refine Ext.drew' ?_ | with_reducible refine Ext.set' ?_ ?_ | exact .inr (by first | omega | (simp only [World.size_alloc, World.size_drew, World.size_setCell] <;> omega)) | refine Ext.trans ?_ (by with_reducible assumption)))⟩
/-- what a function hands back in a new row of bytes -/
def SlOk (w w' : World) (u : Value) (l : List (BitVec 8)) : Prop := Ext [] w w' ∧ ∃ b c, u = .slice (some ⟨b, 0, none⟩) l.length c ∧ l.length ≤ c ∧ w.heap.size ≤ b ∧ RowAt w' (some ⟨b, 0, none⟩) (bys l)
theorem putV_end {l m : List (BitVec 8)} {v : BitVec 64} {n : Nat} (h : m.length = n) : putV (l ++ m) l.length n v = l ++ (List.range n).map (byteOf v) := by
  unfold putV
  rw [List.take_left, List.drop_eq_nil_of_le (by simp; omega), List.append_nil]
theorem Seal_spec (l : List (BitVec 8)) (a : Option Addr) (n c : Nat) (w : World) (hn : n = l.length) (hl : l.length ≤ 1000000) (h : RowAt w a (bys l)) : Yld Try.prog n_crc_Seal #[.slice a n c] w fun u w' => SlOk w w' u (sealV l) := by
  subst hn
  refine crc_Seal_of ?_
  unfold crc_Seal
  have t1 : ((l.length : Int) + 4).toNat = l.length + 4 := by omega
  simp (disch := (first | omega | decide | (simp only [World.size_alloc, World.size_setCell, World.size_drew, List.mem_cons, List.not_mem_nil, or_false, not_false_eq_true] <;> omega) | fail)) only [↓xBox_r, ↓loadK_some, ↓loadsK_s, ↓loadsK_n, ↓loadsR_s, ↓loadsR_n, ↓storesK_s, ↓storesK_n, setCells_c, setCells_n, World.setCell_alloc_at, World.setCell_alloc_past, World.cell?_alloc_at, World.cell?_alloc_past, 
      World.frozen?_alloc_at, World.frozen?_alloc_past, World.size_alloc, ↓xPick_t, ↓xPick_f, ↓xGuard_tt, ↓xGuard_ff, ↓xGuard_tf, ↓xGuard_ft, ↓xGuard_u, ↓xNil_r, Option.isNone_some, Option.isNone_none, ↓xIf_t, tick_eq, tickV_eq, ne_eq, 
      dlt_t, dlt_f, dle_t, dle_f, deq_t, deq_f, dne_t, dne_f, not_true_eq_false, Int.reduceAdd, Int.reduceSub, Int.reduceMul, Int.reduceEq, Int.reduceLT, Int.reduceLE, Bool.false_and, Bool.true_and, Bool.and_true, 
      Bool.and_false, ↓xBin_add', ↓xBin_sub', ↓xBin_mul', ↓xBin_quo', ↓xBin_rem', wrap_in, ↓xIf_f, ↓xIf_tt, ↓xEx0, ↓xEx1, ↓xEx2, ↓xEx3, ↓xBin_eqs, ↓xBin_nes, ↓xUn_not, ↓xu8_add, ↓xu16_add, ↓xu32_add, ↓xu64_add, Int.toNat_natCast, 
      Int.reduceToNat, Nat.reduceMul, Nat.reduceAdd, Nat.reduceSub, Nat.mul_one, List.nil_append, List.cons_append, List.getElem?_toArray, List.getElem?_cons_zero, List.getElem?_cons_succ, cells_int, cells_bool, cells_string, 
      cells_slice, cells_pointer, cells_agg, one_int, one_bool, one_string, one_slice, one_pointer, List.setIfInBounds_toArray, List.set_cons_zero, List.set_cons_succ, ↓xDet_s, ↓xDet_ld, ↓xDet_ld2, ↓xDet_ld3, ↓xDet_ld4, 
      World.size_drew, Nat.zero_add, Nat.add_zero, cell_drew, frozen_drew, cell_set_eq, cell_set_o, cell_set_b, Option.map_some, World.frozen?_setCell, decide_true, decide_false, List.not_mem_nil, not_false_eq_true, ↓xGuard_tt, 
      Bool.not_true, Bool.not_false, ←decide_not, ↓cv_52_64, ↓ln_51, ↓bs_50_1, ↓bs_50_2, ↓mk_51, t1]
  have E2 : Ext [] w (w.alloc (.cells (List.replicate (l.length + 4) (c8 0)).toArray 5)) := by (repeat (first | with_reducible exact Ext.refl _ _ | with_reducible assumption | with_reducible refine Ext.alloc' ?_ _ | with_reducible refine Ext.drew' ?_ | with_reducible refine Ext.set' ?_ ?_ | exact .inr (by first | omega | (simp only [World.size_alloc, World.size_drew, World.size_setCell] <;> omega)) | refine Ext.trans ?_ (by with_reducible assumption)))
  have hb := Blk.new (e := 5) w (List.replicate (l.length + 4) (c8 0))
  have hro : roomy (w.alloc (.cells (List.replicate (l.length + 4) (c8 0)).toArray 5)) w.heap.size 0 (bys l) := hb.roomy (by simp) (by simp [Value.oneCell'])
  have hb2 := hb.sets (l := bys l) (o := 0) (by simp)
  have E3 := E2.sets (g := w.heap.size) (o := 0) (l := bys l) (.inr (Nat.le_refl _))
  rw [xCopy_all (e := 5) (by kernel_rfl) (by kernel_rfl) (by simp) (by omega) (h.ext0 E2) hro]
  generalize hw2 : (w.alloc (.cells (List.replicate (l.length + 4) (c8 0)).toArray 5)).setCells w.heap.size 0 (bys l) = w2 at *
  have hb3 : Blk w2 w.heap.size 5 (bys (l ++ List.replicate 4 (BitVec.ofNat 8 0))) := by
    have e : bys (l ++ List.replicate 4 (BitVec.ofNat 8 0)) = List.take 0 (List.replicate (l.length + 4) (c8 0)) ++ bys l ++ List.drop (0 + (bys l).length) (List.replicate (l.length + 4) (c8 0)) := by
      simp [bys, List.drop_replicate]
    rw [e]; exact hb2
  simp (disch := (first | omega | decide | (simp only [World.size_alloc, World.size_setCell, World.size_drew, List.mem_cons, List.not_mem_nil, or_false, not_false_eq_true] <;> omega) | fail)) only [↓xBox_r, ↓loadK_some, ↓loadsK_s, ↓loadsK_n, ↓loadsR_s, ↓loadsR_n, ↓storesK_s, ↓storesK_n, setCells_c, setCells_n, World.setCell_alloc_at, World.setCell_alloc_past, World.cell?_alloc_at, World.cell?_alloc_past, 
      World.frozen?_alloc_at, World.frozen?_alloc_past, World.size_alloc, ↓xPick_t, ↓xPick_f, ↓xGuard_tt, ↓xGuard_ff, ↓xGuard_tf, ↓xGuard_ft, ↓xGuard_u, ↓xNil_r, Option.isNone_some, Option.isNone_none, ↓xIf_t, tick_eq, tickV_eq, ne_eq, 
      dlt_t, dlt_f, dle_t, dle_f, deq_t, deq_f, dne_t, dne_f, not_true_eq_false, Int.reduceAdd, Int.reduceSub, Int.reduceMul, Int.reduceEq, Int.reduceLT, Int.reduceLE, Bool.false_and, Bool.true_and, Bool.and_true, 
      Bool.and_false, ↓xBin_add', ↓xBin_sub', ↓xBin_mul', ↓xBin_quo', ↓xBin_rem', wrap_in, ↓xIf_f, ↓xIf_tt, ↓xEx0, ↓xEx1, ↓xEx2, ↓xEx3, ↓xBin_eqs, ↓xBin_nes, ↓xUn_not, ↓xu8_add, ↓xu16_add, ↓xu32_add, ↓xu64_add, Int.toNat_natCast, 
      Int.reduceToNat, Nat.reduceMul, Nat.reduceAdd, Nat.reduceSub, Nat.mul_one, List.nil_append, List.cons_append, List.getElem?_toArray, List.getElem?_cons_zero, List.getElem?_cons_succ, cells_int, cells_bool, cells_string, 
      cells_slice, cells_pointer, cells_agg, one_int, one_bool, one_string, one_slice, one_pointer, List.setIfInBounds_toArray, List.set_cons_zero, List.set_cons_succ, ↓xDet_s, ↓xDet_ld, ↓xDet_ld2, ↓xDet_ld3, ↓xDet_ld4, 
      World.size_drew, Nat.zero_add, Nat.add_zero, cell_drew, frozen_drew, cell_set_eq, cell_set_o, cell_set_b, Option.map_some, World.frozen?_setCell, decide_true, decide_false, List.not_mem_nil, not_false_eq_true, ↓xGuard_tt, 
      Bool.not_true, Bool.not_false, ←decide_not, ↓cv_52_64, ↓ln_51, ↓bs_50_1, ↓bs_50_2, ↓mk_51, t1]
  have E4 : Ext [] w2 (w2.alloc (.cells [Value.slice a l.length c].toArray 51)) := by (repeat (first | with_reducible exact Ext.refl _ _ | with_reducible assumption | with_reducible refine Ext.alloc' ?_ _ | with_reducible refine Ext.drew' ?_ | with_reducible refine Ext.set' ?_ ?_ | exact .inr (by first | omega | (simp only [World.size_alloc, World.size_drew, World.size_setCell] <;> omega)) | refine Ext.trans ?_ (by with_reducible assumption)))
  have hparts : partsAt (w2.alloc (.cells [Value.slice a l.length c].toArray 51)) (some ⟨w2.heap.size, 0, none⟩) [(a, c, l)] := by
    refine ⟨(Blk.new (e := 51) w2 [Value.slice a l.length c]).row, fun p hp => ?_⟩
    simp at hp; subst hp
    exact ⟨(h.ext0 E3).ext0 E4, by simp; omega⟩
  refine crc_Sum_call (Gives.to (Sum_spec _ _ _ _ _ rfl (by decide) hparts) fun w1 E1 => ?_)
  have z1 := E1.size
  try simp only [World.size_alloc, World.size_setCell, World.size_drew] at z1
  simp (disch := (first | omega | decide | (simp only [World.size_alloc, World.size_setCell, World.size_drew, List.mem_cons, List.not_mem_nil, or_false, not_false_eq_true] <;> omega) | fail)) only [↓xBox_r, ↓loadK_some, ↓loadsK_s, ↓loadsK_n, ↓loadsR_s, ↓loadsR_n, ↓storesK_s, ↓storesK_n, setCells_c, setCells_n, World.setCell_alloc_at, World.setCell_alloc_past, World.cell?_alloc_at, World.cell?_alloc_past, 
      World.frozen?_alloc_at, World.frozen?_alloc_past, World.size_alloc, ↓xPick_t, ↓xPick_f, ↓xGuard_tt, ↓xGuard_ff, ↓xGuard_tf, ↓xGuard_ft, ↓xGuard_u, ↓xNil_r, Option.isNone_some, Option.isNone_none, ↓xIf_t, tick_eq, tickV_eq, ne_eq, 
      dlt_t, dlt_f, dle_t, dle_f, deq_t, deq_f, dne_t, dne_f, not_true_eq_false, Int.reduceAdd, Int.reduceSub, Int.reduceMul, Int.reduceEq, Int.reduceLT, Int.reduceLE, Bool.false_and, Bool.true_and, Bool.and_true, 
      Bool.and_false, ↓xBin_add', ↓xBin_sub', ↓xBin_mul', ↓xBin_quo', ↓xBin_rem', wrap_in, ↓xIf_f, ↓xIf_tt, ↓xEx0, ↓xEx1, ↓xEx2, ↓xEx3, ↓xBin_eqs, ↓xBin_nes, ↓xUn_not, ↓xu8_add, ↓xu16_add, ↓xu32_add, ↓xu64_add, Int.toNat_natCast, 
      Int.reduceToNat, Nat.reduceMul, Nat.reduceAdd, Nat.reduceSub, Nat.mul_one, List.nil_append, List.cons_append, List.getElem?_toArray, List.getElem?_cons_zero, List.getElem?_cons_succ, cells_int, cells_bool, cells_string, 
      cells_slice, cells_pointer, cells_agg, one_int, one_bool, one_string, one_slice, one_pointer, List.setIfInBounds_toArray, List.set_cons_zero, List.set_cons_succ, ↓xDet_s, ↓xDet_ld, ↓xDet_ld2, ↓xDet_ld3, ↓xDet_ld4, 
      World.size_drew, Nat.zero_add, Nat.add_zero, cell_drew, frozen_drew, cell_set_eq, cell_set_o, cell_set_b, Option.map_some, World.frozen?_setCell, decide_true, decide_false, List.not_mem_nil, not_false_eq_true, ↓xGuard_tt, 
      Bool.not_true, Bool.not_false, ←decide_not, ↓cv_52_64, ↓ln_51, ↓bs_50_1, ↓bs_50_2, ↓mk_51, t1]
  have hb4 : Blk w1 w.heap.size 5 (bys (l ++ List.replicate 4 (BitVec.ofNat 8 0))) := (hb3.ext E4 (by simp)).ext E1 (by simp)
  have hlen : l.length + 4 = (l ++ List.replicate 4 (BitVec.ofNat 8 0)).length := by simp
  rw [hlen]
  refine bits_Put_call (Yld.mono (Put_spec (l ++ List.replicate 4 (BitVec.ofNat 8 0)) (some ⟨w.heap.size, 0, none⟩) _ l.length 4 _ w1 (by simp; omega) hb4.row (by unfold inside; simp; omega)) ?_)
  rintro u w5 ⟨F1, b, rfl, hbn, B5⟩
  simp (disch := (first | omega | decide | (simp only [World.size_alloc, World.size_setCell, World.size_drew, List.mem_cons, List.not_mem_nil, or_false, not_false_eq_true] <;> omega) | fail)) only [↓xBox_r, ↓loadK_some, ↓loadsK_s, ↓loadsK_n, ↓loadsR_s, ↓loadsR_n, ↓storesK_s, ↓storesK_n, setCells_c, setCells_n, World.setCell_alloc_at, World.setCell_alloc_past, World.cell?_alloc_at, World.cell?_alloc_past, 
      World.frozen?_alloc_at, World.frozen?_alloc_past, World.size_alloc, ↓xPick_t, ↓xPick_f, ↓xGuard_tt, ↓xGuard_ff, ↓xGuard_tf, ↓xGuard_ft, ↓xGuard_u, ↓xNil_r, Option.isNone_some, Option.isNone_none, ↓xIf_t, tick_eq, tickV_eq, ne_eq, 
      dlt_t, dlt_f, dle_t, dle_f, deq_t, deq_f, dne_t, dne_f, not_true_eq_false, Int.reduceAdd, Int.reduceSub, Int.reduceMul, Int.reduceEq, Int.reduceLT, Int.reduceLE, Bool.false_and, Bool.true_and, Bool.and_true, 
      Bool.and_false, ↓xBin_add', ↓xBin_sub', ↓xBin_mul', ↓xBin_quo', ↓xBin_rem', wrap_in, ↓xIf_f, ↓xIf_tt, ↓xEx0, ↓xEx1, ↓xEx2, ↓xEx3, ↓xBin_eqs, ↓xBin_nes, ↓xUn_not, ↓xu8_add, ↓xu16_add, ↓xu32_add, ↓xu64_add, Int.toNat_natCast, 
      Int.reduceToNat, Nat.reduceMul, Nat.reduceAdd, Nat.reduceSub, Nat.mul_one, List.nil_append, List.cons_append, List.getElem?_toArray, List.getElem?_cons_zero, List.getElem?_cons_succ, cells_int, cells_bool, cells_string, 
      cells_slice, cells_pointer, cells_agg, one_int, one_bool, one_string, one_slice, one_pointer, List.setIfInBounds_toArray, List.set_cons_zero, List.set_cons_succ, ↓xDet_s, ↓xDet_ld, ↓xDet_ld2, ↓xDet_ld3, ↓xDet_ld4, 
      World.size_drew, Nat.zero_add, Nat.add_zero, cell_drew, frozen_drew, cell_set_eq, cell_set_o, cell_set_b, Option.map_some, World.frozen?_setCell, decide_true, decide_false, List.not_mem_nil, not_false_eq_true, ↓xGuard_tt, 
      Bool.not_true, Bool.not_false, ←decide_not, ↓cv_52_64, ↓ln_51, ↓bs_50_1, ↓bs_50_2, ↓mk_51, t1]
  have e1 : putV (l ++ List.replicate 4 (BitVec.ofNat 8 0)) l.length 4 ((sumsV (BitVec.ofNat 32 0) [l]).setWidth 64) = sealV l := by rw [putV_end (by simp)]; rfl
  have E5 : Ext [] w w5 := ((E3.trans E4).trans E1).trans F1
  simp only [List.map_cons, List.map_nil] at B5 ⊢
  rw [e1] at B5 ⊢
  exact ⟨E5, b, _, rfl, Nat.le_refl _, Nat.le_trans ((E3.trans E4).trans E1).size hbn, B5.row⟩
theorem Right_spec2 (l : List (BitVec 8)) (a : Option Addr) (n c : Nat) (w : World) (hn : n = l.length) (hc : n ≤ c) (hl : l.length ≤ 1000000) (h : RowAt w a (bys l)) : Gives Try.prog n_crc_Right #[.slice a n c] w (.bool (rightB l)) := by
  subst hn
  refine crc_Right_of ?_
  unfold crc_Right
  simp (disch := (first | omega | decide | (simp only [World.size_alloc, World.size_setCell, World.size_drew, List.mem_cons, List.not_mem_nil, or_false, not_false_eq_true] <;> omega) | fail)) only [↓xBox_r, ↓loadK_some, ↓loadsK_s, ↓loadsK_n, ↓loadsR_s, ↓loadsR_n, ↓storesK_s, ↓storesK_n, setCells_c, setCells_n, World.setCell_alloc_at, World.setCell_alloc_past, World.cell?_alloc_at, World.cell?_alloc_past, 
      World.frozen?_alloc_at, World.frozen?_alloc_past, World.size_alloc, ↓xPick_t, ↓xPick_f, ↓xGuard_tt, ↓xGuard_ff, ↓xGuard_tf, ↓xGuard_ft, ↓xGuard_u, ↓xNil_r, Option.isNone_some, Option.isNone_none, ↓xIf_t, tick_eq, tickV_eq, ne_eq, 
      dlt_t, dlt_f, dle_t, dle_f, deq_t, deq_f, dne_t, dne_f, not_true_eq_false, Int.reduceAdd, Int.reduceSub, Int.reduceMul, Int.reduceEq, Int.reduceLT, Int.reduceLE, Bool.false_and, Bool.true_and, Bool.and_true, 
      Bool.and_false, ↓xBin_add', ↓xBin_sub', ↓xBin_mul', ↓xBin_quo', ↓xBin_rem', wrap_in, ↓xIf_f, ↓xIf_tt, ↓xEx0, ↓xEx1, ↓xEx2, ↓xEx3, ↓xBin_eqs, ↓xBin_nes, ↓xUn_not, ↓xu8_sub, ↓xu8_geq, ↓xu16_sub, ↓xu16_geq, ↓xu32_sub, ↓xu32_geq, 
      ↓xu64_sub, ↓xu64_geq, ↓xi64_geq, Int.toNat_natCast, Int.reduceToNat, Nat.reduceMul, Nat.reduceAdd, Nat.reduceSub, Nat.mul_one, List.nil_append, List.cons_append, List.getElem?_toArray, List.getElem?_cons_zero, List.getElem?_cons_succ, 
      cells_int, cells_bool, cells_string, cells_slice, cells_pointer, cells_agg, one_int, one_bool, one_string, one_slice, one_pointer, List.setIfInBounds_toArray, List.set_cons_zero, List.set_cons_succ, ↓xDet_s, ↓xDet_ld, 
      ↓xDet_ld2, ↓xDet_ld3, ↓xDet_ld4, World.size_drew, Nat.zero_add, Nat.add_zero, cell_drew, frozen_drew, cell_set_eq, cell_set_o, cell_set_b, Option.map_some, World.frozen?_setCell, decide_true, decide_false, List.not_mem_nil, 
      not_false_eq_true, ↓xGuard_tt, Bool.not_true, Bool.not_false, ←decide_not, ↓ln_51, ↓sh_51, ↓sl_51, eq_self]
  by_cases g1 : ¬ 4 ≤ (l.length : Int)
  · have hv : rightB l = false := decide_eq_false (by omega)
    simp (disch := (first | omega | decide | (simp only [World.size_alloc, World.size_setCell, World.size_drew, List.mem_cons, List.not_mem_nil, or_false, not_false_eq_true] <;> omega) | fail)) only [↓xBox_r, ↓loadK_some, ↓loadsK_s, ↓loadsK_n, ↓loadsR_s, ↓loadsR_n, ↓storesK_s, ↓storesK_n, setCells_c, setCells_n, World.setCell_alloc_at, World.setCell_alloc_past, World.cell?_alloc_at, World.cell?_alloc_past, 
      World.frozen?_alloc_at, World.frozen?_alloc_past, World.size_alloc, ↓xPick_t, ↓xPick_f, ↓xGuard_tt, ↓xGuard_ff, ↓xGuard_tf, ↓xGuard_ft, ↓xGuard_u, ↓xNil_r, Option.isNone_some, Option.isNone_none, ↓xIf_t, tick_eq, tickV_eq, ne_eq, 
      dlt_t, dlt_f, dle_t, dle_f, deq_t, deq_f, dne_t, dne_f, not_true_eq_false, Int.reduceAdd, Int.reduceSub, Int.reduceMul, Int.reduceEq, Int.reduceLT, Int.reduceLE, Bool.false_and, Bool.true_and, Bool.and_true, 
      Bool.and_false, ↓xBin_add', ↓xBin_sub', ↓xBin_mul', ↓xBin_quo', ↓xBin_rem', wrap_in, ↓xIf_f, ↓xIf_tt, ↓xEx0, ↓xEx1, ↓xEx2, ↓xEx3, ↓xBin_eqs, ↓xBin_nes, ↓xUn_not, ↓xu8_sub, ↓xu8_geq, ↓xu16_sub, ↓xu16_geq, ↓xu32_sub, ↓xu32_geq, 
      ↓xu64_sub, ↓xu64_geq, ↓xi64_geq, Int.toNat_natCast, Int.reduceToNat, Nat.reduceMul, Nat.reduceAdd, Nat.reduceSub, Nat.mul_one, List.nil_append, List.cons_append, List.getElem?_toArray, List.getElem?_cons_zero, List.getElem?_cons_succ, 
      cells_int, cells_bool, cells_string, cells_slice, cells_pointer, cells_agg, one_int, one_bool, one_string, one_slice, one_pointer, List.setIfInBounds_toArray, List.set_cons_zero, List.set_cons_succ, ↓xDet_s, ↓xDet_ld, 
      ↓xDet_ld2, ↓xDet_ld3, ↓xDet_ld4, World.size_drew, Nat.zero_add, Nat.add_zero, cell_drew, frozen_drew, cell_set_eq, cell_set_o, cell_set_b, Option.map_some, World.frozen?_setCell, decide_true, decide_false, List.not_mem_nil, 
      not_false_eq_true, ↓xGuard_tt, Bool.not_true, Bool.not_false, ←decide_not, ↓ln_51, ↓sh_51, ↓sl_51, eq_self, g1, hv]
    exact ⟨by trivial, by (repeat (first | with_reducible exact Ext.refl _ _ | with_reducible assumption | with_reducible refine Ext.alloc' ?_ _ | with_reducible refine Ext.drew' ?_ | with_reducible refine Ext.set' ?_ ?_ | exact .inr (by first | omega | (simp only [World.size_alloc, World.size_drew, World.size_setCell] <;> omega)) | refine Ext.trans ?_ (by with_reducible assumption)))⟩
  replace g1 := Decidable.not_not.1 g1
  have t1 : ((l.length : Int) - 4).toNat = l.length - 4 := by omega
  simp (disch := (first | omega | decide | (simp only [World.size_alloc, World.size_setCell, World.size_drew, List.mem_cons, List.not_mem_nil, or_false, not_false_eq_true] <;> omega) | fail)) only [↓xBox_r, ↓loadK_some, ↓loadsK_s, ↓loadsK_n, ↓loadsR_s, ↓loadsR_n, ↓storesK_s, ↓storesK_n, setCells_c, setCells_n, World.setCell_alloc_at, World.setCell_alloc_past, World.cell?_alloc_at, World.cell?_alloc_past, 
      World.frozen?_alloc_at, World.frozen?_alloc_past, World.size_alloc, ↓xPick_t, ↓xPick_f, ↓xGuard_tt, ↓xGuard_ff, ↓xGuard_tf, ↓xGuard_ft, ↓xGuard_u, ↓xNil_r, Option.isNone_some, Option.isNone_none, ↓xIf_t, tick_eq, tickV_eq, ne_eq, 
      dlt_t, dlt_f, dle_t, dle_f, deq_t, deq_f, dne_t, dne_f, not_true_eq_false, Int.reduceAdd, Int.reduceSub, Int.reduceMul, Int.reduceEq, Int.reduceLT, Int.reduceLE, Bool.false_and, Bool.true_and, Bool.and_true, 
      Bool.and_false, ↓xBin_add', ↓xBin_sub', ↓xBin_mul', ↓xBin_quo', ↓xBin_rem', wrap_in, ↓xIf_f, ↓xIf_tt, ↓xEx0, ↓xEx1, ↓xEx2, ↓xEx3, ↓xBin_eqs, ↓xBin_nes, ↓xUn_not, ↓xu8_sub, ↓xu8_geq, ↓xu16_sub, ↓xu16_geq, ↓xu32_sub, ↓xu32_geq, 
      ↓xu64_sub, ↓xu64_geq, ↓xi64_geq, Int.toNat_natCast, Int.reduceToNat, Nat.reduceMul, Nat.reduceAdd, Nat.reduceSub, Nat.mul_one, List.nil_append, List.cons_append, List.getElem?_toArray, List.getElem?_cons_zero, List.getElem?_cons_succ, 
      cells_int, cells_bool, cells_string, cells_slice, cells_pointer, cells_agg, one_int, one_bool, one_string, one_slice, one_pointer, List.setIfInBounds_toArray, List.set_cons_zero, List.set_cons_succ, ↓xDet_s, ↓xDet_ld, 
      ↓xDet_ld2, ↓xDet_ld3, ↓xDet_ld4, World.size_drew, Nat.zero_add, Nat.add_zero, cell_drew, frozen_drew, cell_set_eq, cell_set_o, cell_set_b, Option.map_some, World.frozen?_setCell, decide_true, decide_false, List.not_mem_nil, 
      not_false_eq_true, ↓xGuard_tt, Bool.not_true, Bool.not_false, ←decide_not, ↓ln_51, ↓sh_51, ↓sl_51, eq_true g1, t1]
  have ht : RowAt w a (bys (l.take (l.length - 4))) := by
    have := h.take (l.length - 4)
    rwa [← List.map_take] at this
  refine crc_Seal_call (Yld.mono (Seal_spec (l.take (l.length - 4)) a (l.length - 4) c w (by simp) (by simp; omega) ht) ?_)
  rintro u w5 ⟨F1, b, cc, rfl, hcc, hbn, R5⟩
  simp (disch := (first | omega | decide | (simp only [World.size_alloc, World.size_setCell, World.size_drew, List.mem_cons, List.not_mem_nil, or_false, not_false_eq_true] <;> omega) | fail)) only [↓xBox_r, ↓loadK_some, ↓loadsK_s, ↓loadsK_n, ↓loadsR_s, ↓loadsR_n, ↓storesK_s, ↓storesK_n, setCells_c, setCells_n, World.setCell_alloc_at, World.setCell_alloc_past, World.cell?_alloc_at, World.cell?_alloc_past, 
      World.frozen?_alloc_at, World.frozen?_alloc_past, World.size_alloc, ↓xPick_t, ↓xPick_f, ↓xGuard_tt, ↓xGuard_ff, ↓xGuard_tf, ↓xGuard_ft, ↓xGuard_u, ↓xNil_r, Option.isNone_some, Option.isNone_none, ↓xIf_t, tick_eq, tickV_eq, ne_eq, 
      dlt_t, dlt_f, dle_t, dle_f, deq_t, deq_f, dne_t, dne_f, not_true_eq_false, Int.reduceAdd, Int.reduceSub, Int.reduceMul, Int.reduceEq, Int.reduceLT, Int.reduceLE, Bool.false_and, Bool.true_and, Bool.and_true, 
      Bool.and_false, ↓xBin_add', ↓xBin_sub', ↓xBin_mul', ↓xBin_quo', ↓xBin_rem', wrap_in, ↓xIf_f, ↓xIf_tt, ↓xEx0, ↓xEx1, ↓xEx2, ↓xEx3, ↓xBin_eqs, ↓xBin_nes, ↓xUn_not, ↓xu8_sub, ↓xu8_geq, ↓xu16_sub, ↓xu16_geq, ↓xu32_sub, ↓xu32_geq, 
      ↓xu64_sub, ↓xu64_geq, ↓xi64_geq, Int.toNat_natCast, Int.reduceToNat, Nat.reduceMul, Nat.reduceAdd, Nat.reduceSub, Nat.mul_one, List.nil_append, List.cons_append, List.getElem?_toArray, List.getElem?_cons_zero, List.getElem?_cons_succ, 
      cells_int, cells_bool, cells_string, cells_slice, cells_pointer, cells_agg, one_int, one_bool, one_string, one_slice, one_pointer, List.setIfInBounds_toArray, List.set_cons_zero, List.set_cons_succ, ↓xDet_s, ↓xDet_ld, 
      ↓xDet_ld2, ↓xDet_ld3, ↓xDet_ld4, World.size_drew, Nat.zero_add, Nat.add_zero, cell_drew, frozen_drew, cell_set_eq, cell_set_o, cell_set_b, Option.map_some, World.frozen?_setCell, decide_true, decide_false, List.not_mem_nil, 
      not_false_eq_true, ↓xGuard_tt, Bool.not_true, Bool.not_false, ←decide_not, ↓ln_51, ↓sh_51, ↓sl_51, eq_true g1, t1]
  refine bytes_Equal_call (Gives.to (Equal_spec _ _ _ _ _ _ _ _ _ rfl rfl (h.ext0 F1) R5) fun w1 E1 => ?_)
  have z1 := E1.size
  try simp only [World.size_alloc, World.size_setCell, World.size_drew] at z1
  simp (disch := (first | omega | decide | (simp only [World.size_alloc, World.size_setCell, World.size_drew, List.mem_cons, List.not_mem_nil, or_false, not_false_eq_true] <;> omega) | fail)) only [↓xBox_r, ↓loadK_some, ↓loadsK_s, ↓loadsK_n, ↓loadsR_s, ↓loadsR_n, ↓storesK_s, ↓storesK_n, setCells_c, setCells_n, World.setCell_alloc_at, World.setCell_alloc_past, World.cell?_alloc_at, World.cell?_alloc_past, 
      World.frozen?_alloc_at, World.frozen?_alloc_past, World.size_alloc, ↓xPick_t, ↓xPick_f, ↓xGuard_tt, ↓xGuard_ff, ↓xGuard_tf, ↓xGuard_ft, ↓xGuard_u, ↓xNil_r, Option.isNone_some, Option.isNone_none, ↓xIf_t, tick_eq, tickV_eq, ne_eq, 
      dlt_t, dlt_f, dle_t, dle_f, deq_t, deq_f, dne_t, dne_f, not_true_eq_false, Int.reduceAdd, Int.reduceSub, Int.reduceMul, Int.reduceEq, Int.reduceLT, Int.reduceLE, Bool.false_and, Bool.true_and, Bool.and_true, 
      Bool.and_false, ↓xBin_add', ↓xBin_sub', ↓xBin_mul', ↓xBin_quo', ↓xBin_rem', wrap_in, ↓xIf_f, ↓xIf_tt, ↓xEx0, ↓xEx1, ↓xEx2, ↓xEx3, ↓xBin_eqs, ↓xBin_nes, ↓xUn_not, ↓xu8_sub, ↓xu8_geq, ↓xu16_sub, ↓xu16_geq, ↓xu32_sub, ↓xu32_geq, 
      ↓xu64_sub, ↓xu64_geq, ↓xi64_geq, Int.toNat_natCast, Int.reduceToNat, Nat.reduceMul, Nat.reduceAdd, Nat.reduceSub, Nat.mul_one, List.nil_append, List.cons_append, List.getElem?_toArray, List.getElem?_cons_zero, List.getElem?_cons_succ, 
      cells_int, cells_bool, cells_string, cells_slice, cells_pointer, cells_agg, one_int, one_bool, one_string, one_slice, one_pointer, List.setIfInBounds_toArray, List.set_cons_zero, List.set_cons_succ, ↓xDet_s, ↓xDet_ld, 
      ↓xDet_ld2, ↓xDet_ld3, ↓xDet_ld4, World.size_drew, Nat.zero_add, Nat.add_zero, cell_drew, frozen_drew, cell_set_eq, cell_set_o, cell_set_b, Option.map_some, World.frozen?_setCell, decide_true, decide_false, List.not_mem_nil, 
      not_false_eq_true, ↓xGuard_tt, Bool.not_true, Bool.not_false, ←decide_not, ↓ln_51, ↓sh_51, ↓sl_51, eq_true g1, t1]
  refine ⟨?_, F1.trans E1⟩
  unfold rightB
  congr 1
  simp only [show 4 ≤ l.length by omega, true_and]
end Go.Proofs.Ytohonkbneimkoaa
