/- What the document's functions on sums compute; the statement on any parts, walked. -/
import Derived.Test.YtohonkbneimkoaaSumX
set_option linter.unusedVariables false
set_option linter.unusedSimpArgs false
set_option maxHeartbeats 4000000
namespace Go.Proofs.Ytohonkbneimkoaa
open Go.Sh Go.RowKit

theorem rSum_spec (l : List (BitVec 8)) (a : Option Addr) (n c : Nat) (w : World) (hn : n = l.length) (hb : n ≤ 4294967296) (h : RowAt w a (bys l)) : Gives Try.prog n_loamref2_Sum #[.slice a n c] w (u32 (sumV l)) := by
  subst hn
  refine loamref2_Sum_of ?_
  unfold loamref2_Sum
  have e0 : BitVec.ofNat 32 4294967295 = ~~~(BitVec.ofNat 32 0) := by decide
  rw [show (c32 4294967295) = u32 (~~~(BitVec.ofNat 32 0)) from by rw [← e0]]
  generalize hs : ~~~(BitVec.ofNat 32 0) = s
  refine xLoop_n l.length (fun k => [u32 (crcRun s (l.take k)), i64 k]) (fun _ w' => Ext [] w w') ?_ (Ext.refl _ _) ?_ ?_
  · rfl
  · intro k hk u w1 hu E1 nxt hn
    simp only [List.map_cons, List.map_nil, List.cons.injEq, and_true] at hu
    obtain ⟨h1, h2⟩ := hu
    rw [h1, h2]
    obtain ⟨b, o, rfl, hb1, hc⟩ := (h.ext0 E1).at (i := k) (by simpa using hk)
    simp only [List.getElem_map] at hc
    unfold loamref2_Sum_l1
    simp (disch := (first | omega | decide | (simp only [World.size_alloc, World.size_setCell, World.size_drew, List.mem_cons, List.not_mem_nil, or_false, not_false_eq_true] <;> omega) | fail)) only [↓xBox_r, ↓loadK_some, ↓loadsK_s, ↓loadsK_n, ↓loadsR_s, ↓loadsR_n, ↓storesK_s, ↓storesK_n, setCells_c, setCells_n, World.setCell_alloc_at, World.setCell_alloc_past, World.cell?_alloc_at, World.cell?_alloc_past, 
      World.frozen?_alloc_at, World.frozen?_alloc_past, World.size_alloc, ↓xPick_t, ↓xPick_f, ↓xGuard_tt, ↓xGuard_ff, ↓xGuard_tf, ↓xGuard_ft, ↓xGuard_u, ↓xNil_r, Option.isNone_some, Option.isNone_none, ↓xIf_t, tick_eq, tickV_eq, ne_eq, 
      dlt_t, dlt_f, dle_t, dle_f, deq_t, deq_f, dne_t, dne_f, not_true_eq_false, Int.reduceAdd, Int.reduceSub, Int.reduceMul, Int.reduceEq, Int.reduceLT, Int.reduceLE, Bool.false_and, Bool.true_and, Bool.and_true, 
      Bool.and_false, ↓xBin_add', ↓xBin_sub', ↓xBin_mul', ↓xBin_quo', ↓xBin_rem', wrap_in, ↓xIf_f, ↓xIf_tt, ↓xEx0, ↓xEx1, ↓xEx2, ↓xEx3, ↓xBin_eqs, ↓xBin_nes, ↓xUn_not, ↓xu8_add, ↓xu8_and, ↓xu8_xor, ↓xu8_com, ↓xu8_shr, ↓xu8_eql, 
      ↓xu8_lss, ↓xu16_add, ↓xu16_and, ↓xu16_xor, ↓xu16_com, ↓xu16_shr, ↓xu16_eql, ↓xu16_lss, ↓xu32_add, ↓xu32_and, ↓xu32_xor, ↓xu32_com, ↓xu32_shr, ↓xu32_eql, ↓xu32_lss, ↓xu64_add, ↓xu64_and, ↓xu64_xor, ↓xu64_com, ↓xu64_shr, 
      ↓xu64_eql, ↓xu64_lss, ↓xi64_lss, ↓xi64_eql, ↓xi64_and, ↓xi64_xor, ↓xi64_shr, Int.toNat_natCast, Int.reduceToNat, Nat.reduceMul, Nat.reduceAdd, Nat.reduceSub, Nat.mul_one, List.nil_append, List.cons_append, List.getElem?_toArray, 
      List.getElem?_cons_zero, List.getElem?_cons_succ, cells_int, cells_bool, cells_string, cells_slice, cells_pointer, cells_agg, one_int, one_bool, one_string, one_slice, one_pointer, List.setIfInBounds_toArray, List.set_cons_zero, 
      List.set_cons_succ, ↓xDet_s, ↓xDet_ld, ↓xDet_ld2, ↓xDet_ld3, ↓xDet_ld4, World.size_drew, Nat.zero_add, Nat.add_zero, cell_drew, frozen_drew, cell_set_eq, cell_set_o, cell_set_b, Option.map_some, World.frozen?_setCell, decide_true, 
      decide_false, List.not_mem_nil, not_false_eq_true, ↓xGuard_tt, Bool.not_true, Bool.not_false, ←decide_not, ↓ld_5, ↓cv_5_52, ↓ia_51, ↓ln_51, hc]
    refine xLoop_n 8 (fun j => [u32 (crcSteps (crcRun s (l.take k) ^^^ l[k].setWidth 32) j), i64 j]) (fun _ w' => Ext [] w w') ?_ E1 ?_ ?_
    · rfl
    · intro j hj u w2 hu E2 nxt2 hn2
      simp only [List.map_cons, List.map_nil, List.cons.injEq, and_true] at hu
      obtain ⟨h1, h2⟩ := hu
      rw [h1, h2]
      unfold loamref2_Sum_l2 loamref2_Sum_j1
      generalize hx : crcSteps (crcRun s (l.take k) ^^^ l[k].setWidth 32) j = x at *
      by_cases hl : x &&& BitVec.ofNat 32 1 = BitVec.ofNat 32 1
      · simp (disch := (first | omega | decide | (simp only [World.size_alloc, World.size_setCell, World.size_drew, List.mem_cons, List.not_mem_nil, or_false, not_false_eq_true] <;> omega) | fail)) only [↓xBox_r, ↓loadK_some, ↓loadsK_s, ↓loadsK_n, ↓loadsR_s, ↓loadsR_n, ↓storesK_s, ↓storesK_n, setCells_c, setCells_n, World.setCell_alloc_at, World.setCell_alloc_past, World.cell?_alloc_at, World.cell?_alloc_past, 
      World.frozen?_alloc_at, World.frozen?_alloc_past, World.size_alloc, ↓xPick_t, ↓xPick_f, ↓xGuard_tt, ↓xGuard_ff, ↓xGuard_tf, ↓xGuard_ft, ↓xGuard_u, ↓xNil_r, Option.isNone_some, Option.isNone_none, ↓xIf_t, tick_eq, tickV_eq, ne_eq, 
      dlt_t, dlt_f, dle_t, dle_f, deq_t, deq_f, dne_t, dne_f, not_true_eq_false, Int.reduceAdd, Int.reduceSub, Int.reduceMul, Int.reduceEq, Int.reduceLT, Int.reduceLE, Bool.false_and, Bool.true_and, Bool.and_true, 
      Bool.and_false, ↓xBin_add', ↓xBin_sub', ↓xBin_mul', ↓xBin_quo', ↓xBin_rem', wrap_in, ↓xIf_f, ↓xIf_tt, ↓xEx0, ↓xEx1, ↓xEx2, ↓xEx3, ↓xBin_eqs, ↓xBin_nes, ↓xUn_not, ↓xu8_add, ↓xu8_and, ↓xu8_xor, ↓xu8_com, ↓xu8_shr, ↓xu8_eql, 
      ↓xu8_lss, ↓xu16_add, ↓xu16_and, ↓xu16_xor, ↓xu16_com, ↓xu16_shr, ↓xu16_eql, ↓xu16_lss, ↓xu32_add, ↓xu32_and, ↓xu32_xor, ↓xu32_com, ↓xu32_shr, ↓xu32_eql, ↓xu32_lss, ↓xu64_add, ↓xu64_and, ↓xu64_xor, ↓xu64_com, ↓xu64_shr, 
      ↓xu64_eql, ↓xu64_lss, ↓xi64_lss, ↓xi64_eql, ↓xi64_and, ↓xi64_xor, ↓xi64_shr, Int.toNat_natCast, Int.reduceToNat, Nat.reduceMul, Nat.reduceAdd, Nat.reduceSub, Nat.mul_one, List.nil_append, List.cons_append, List.getElem?_toArray, 
      List.getElem?_cons_zero, List.getElem?_cons_succ, cells_int, cells_bool, cells_string, cells_slice, cells_pointer, cells_agg, one_int, one_bool, one_string, one_slice, one_pointer, List.setIfInBounds_toArray, List.set_cons_zero, 
      List.set_cons_succ, ↓xDet_s, ↓xDet_ld, ↓xDet_ld2, ↓xDet_ld3, ↓xDet_ld4, World.size_drew, Nat.zero_add, Nat.add_zero, cell_drew, frozen_drew, cell_set_eq, cell_set_o, cell_set_b, Option.map_some, World.frozen?_setCell, decide_true, 
      decide_false, List.not_mem_nil, not_false_eq_true, ↓xGuard_tt, Bool.not_true, Bool.not_false, ←decide_not, ↓ld_5, ↓cv_5_52, ↓ia_51, ↓ln_51, hc, decide_eq_true hl]
        have := hn2 w2 E2
        simpa [crcSteps, hx, crcStep, if_pos hl] using this
      · simp (disch := (first | omega | decide | (simp only [World.size_alloc, World.size_setCell, World.size_drew, List.mem_cons, List.not_mem_nil, or_false, not_false_eq_true] <;> omega) | fail)) only [↓xBox_r, ↓loadK_some, ↓loadsK_s, ↓loadsK_n, ↓loadsR_s, ↓loadsR_n, ↓storesK_s, ↓storesK_n, setCells_c, setCells_n, World.setCell_alloc_at, World.setCell_alloc_past, World.cell?_alloc_at, World.cell?_alloc_past, 
      World.frozen?_alloc_at, World.frozen?_alloc_past, World.size_alloc, ↓xPick_t, ↓xPick_f, ↓xGuard_tt, ↓xGuard_ff, ↓xGuard_tf, ↓xGuard_ft, ↓xGuard_u, ↓xNil_r, Option.isNone_some, Option.isNone_none, ↓xIf_t, tick_eq, tickV_eq, ne_eq, 
      dlt_t, dlt_f, dle_t, dle_f, deq_t, deq_f, dne_t, dne_f, not_true_eq_false, Int.reduceAdd, Int.reduceSub, Int.reduceMul, Int.reduceEq, Int.reduceLT, Int.reduceLE, Bool.false_and, Bool.true_and, Bool.and_true, 
      Bool.and_false, ↓xBin_add', ↓xBin_sub', ↓xBin_mul', ↓xBin_quo', ↓xBin_rem', wrap_in, ↓xIf_f, ↓xIf_tt, ↓xEx0, ↓xEx1, ↓xEx2, ↓xEx3, ↓xBin_eqs, ↓xBin_nes, ↓xUn_not, ↓xu8_add, ↓xu8_and, ↓xu8_xor, ↓xu8_com, ↓xu8_shr, ↓xu8_eql, 
      ↓xu8_lss, ↓xu16_add, ↓xu16_and, ↓xu16_xor, ↓xu16_com, ↓xu16_shr, ↓xu16_eql, ↓xu16_lss, ↓xu32_add, ↓xu32_and, ↓xu32_xor, ↓xu32_com, ↓xu32_shr, ↓xu32_eql, ↓xu32_lss, ↓xu64_add, ↓xu64_and, ↓xu64_xor, ↓xu64_com, ↓xu64_shr, 
      ↓xu64_eql, ↓xu64_lss, ↓xi64_lss, ↓xi64_eql, ↓xi64_and, ↓xi64_xor, ↓xi64_shr, Int.toNat_natCast, Int.reduceToNat, Nat.reduceMul, Nat.reduceAdd, Nat.reduceSub, Nat.mul_one, List.nil_append, List.cons_append, List.getElem?_toArray, 
      List.getElem?_cons_zero, List.getElem?_cons_succ, cells_int, cells_bool, cells_string, cells_slice, cells_pointer, cells_agg, one_int, one_bool, one_string, one_slice, one_pointer, List.setIfInBounds_toArray, List.set_cons_zero, 
      List.set_cons_succ, ↓xDet_s, ↓xDet_ld, ↓xDet_ld2, ↓xDet_ld3, ↓xDet_ld4, World.size_drew, Nat.zero_add, Nat.add_zero, cell_drew, frozen_drew, cell_set_eq, cell_set_o, cell_set_b, Option.map_some, World.frozen?_setCell, decide_true, 
      decide_false, List.not_mem_nil, not_false_eq_true, ↓xGuard_tt, Bool.not_true, Bool.not_false, ←decide_not, ↓ld_5, ↓cv_5_52, ↓ia_51, ↓ln_51, hc, decide_eq_false hl]
        have := hn2 w2 E2
        simpa [crcSteps, hx, crcStep, if_neg hl] using this
    · intro u w2 hu E2 nxt2
      simp only [List.map_cons, List.map_nil, List.cons.injEq, and_true] at hu
      obtain ⟨h1, h2⟩ := hu
      rw [h1, h2]
      unfold loamref2_Sum_l2
      simp (disch := (first | omega | decide | (simp only [World.size_alloc, World.size_setCell, World.size_drew, List.mem_cons, List.not_mem_nil, or_false, not_false_eq_true] <;> omega) | fail)) only [↓xBox_r, ↓loadK_some, ↓loadsK_s, ↓loadsK_n, ↓loadsR_s, ↓loadsR_n, ↓storesK_s, ↓storesK_n, setCells_c, setCells_n, World.setCell_alloc_at, World.setCell_alloc_past, World.cell?_alloc_at, World.cell?_alloc_past, 
      World.frozen?_alloc_at, World.frozen?_alloc_past, World.size_alloc, ↓xPick_t, ↓xPick_f, ↓xGuard_tt, ↓xGuard_ff, ↓xGuard_tf, ↓xGuard_ft, ↓xGuard_u, ↓xNil_r, Option.isNone_some, Option.isNone_none, ↓xIf_t, tick_eq, tickV_eq, ne_eq, 
      dlt_t, dlt_f, dle_t, dle_f, deq_t, deq_f, dne_t, dne_f, not_true_eq_false, Int.reduceAdd, Int.reduceSub, Int.reduceMul, Int.reduceEq, Int.reduceLT, Int.reduceLE, Bool.false_and, Bool.true_and, Bool.and_true, 
      Bool.and_false, ↓xBin_add', ↓xBin_sub', ↓xBin_mul', ↓xBin_quo', ↓xBin_rem', wrap_in, ↓xIf_f, ↓xIf_tt, ↓xEx0, ↓xEx1, ↓xEx2, ↓xEx3, ↓xBin_eqs, ↓xBin_nes, ↓xUn_not, ↓xu8_add, ↓xu8_and, ↓xu8_xor, ↓xu8_com, ↓xu8_shr, ↓xu8_eql, 
      ↓xu8_lss, ↓xu16_add, ↓xu16_and, ↓xu16_xor, ↓xu16_com, ↓xu16_shr, ↓xu16_eql, ↓xu16_lss, ↓xu32_add, ↓xu32_and, ↓xu32_xor, ↓xu32_com, ↓xu32_shr, ↓xu32_eql, ↓xu32_lss, ↓xu64_add, ↓xu64_and, ↓xu64_xor, ↓xu64_com, ↓xu64_shr, 
      ↓xu64_eql, ↓xu64_lss, ↓xi64_lss, ↓xi64_eql, ↓xi64_and, ↓xi64_xor, ↓xi64_shr, Int.toNat_natCast, Int.reduceToNat, Nat.reduceMul, Nat.reduceAdd, Nat.reduceSub, Nat.mul_one, List.nil_append, List.cons_append, List.getElem?_toArray, 
      List.getElem?_cons_zero, List.getElem?_cons_succ, cells_int, cells_bool, cells_string, cells_slice, cells_pointer, cells_agg, one_int, one_bool, one_string, one_slice, one_pointer, List.setIfInBounds_toArray, List.set_cons_zero, 
      List.set_cons_succ, ↓xDet_s, ↓xDet_ld, ↓xDet_ld2, ↓xDet_ld3, ↓xDet_ld4, World.size_drew, Nat.zero_add, Nat.add_zero, cell_drew, frozen_drew, cell_set_eq, cell_set_o, cell_set_b, Option.map_some, World.frozen?_setCell, decide_true, 
      decide_false, List.not_mem_nil, not_false_eq_true, ↓xGuard_tt, Bool.not_true, Bool.not_false, ←decide_not, ↓ld_5, ↓cv_5_52, ↓ia_51, ↓ln_51, hc]
      have := hn w2 E2
      rw [crcRun_take hk] at this
      simpa [crcByte] using this
  · intro u w1 hu E1 nxt
    simp only [List.map_cons, List.map_nil, List.cons.injEq, and_true] at hu
    obtain ⟨h1, h2⟩ := hu
    rw [h1, h2]
    unfold loamref2_Sum_l1
    simp (disch := (first | omega | decide | (simp only [World.size_alloc, World.size_setCell, World.size_drew, List.mem_cons, List.not_mem_nil, or_false, not_false_eq_true] <;> omega) | fail)) only [↓xBox_r, ↓loadK_some, ↓loadsK_s, ↓loadsK_n, ↓loadsR_s, ↓loadsR_n, ↓storesK_s, ↓storesK_n, setCells_c, setCells_n, World.setCell_alloc_at, World.setCell_alloc_past, World.cell?_alloc_at, World.cell?_alloc_past, 
      World.frozen?_alloc_at, World.frozen?_alloc_past, World.size_alloc, ↓xPick_t, ↓xPick_f, ↓xGuard_tt, ↓xGuard_ff, ↓xGuard_tf, ↓xGuard_ft, ↓xGuard_u, ↓xNil_r, Option.isNone_some, Option.isNone_none, ↓xIf_t, tick_eq, tickV_eq, ne_eq, 
      dlt_t, dlt_f, dle_t, dle_f, deq_t, deq_f, dne_t, dne_f, not_true_eq_false, Int.reduceAdd, Int.reduceSub, Int.reduceMul, Int.reduceEq, Int.reduceLT, Int.reduceLE, Bool.false_and, Bool.true_and, Bool.and_true, 
      Bool.and_false, ↓xBin_add', ↓xBin_sub', ↓xBin_mul', ↓xBin_quo', ↓xBin_rem', wrap_in, ↓xIf_f, ↓xIf_tt, ↓xEx0, ↓xEx1, ↓xEx2, ↓xEx3, ↓xBin_eqs, ↓xBin_nes, ↓xUn_not, ↓xu8_add, ↓xu8_and, ↓xu8_xor, ↓xu8_com, ↓xu8_shr, ↓xu8_eql, 
      ↓xu8_lss, ↓xu16_add, ↓xu16_and, ↓xu16_xor, ↓xu16_com, ↓xu16_shr, ↓xu16_eql, ↓xu16_lss, ↓xu32_add, ↓xu32_and, ↓xu32_xor, ↓xu32_com, ↓xu32_shr, ↓xu32_eql, ↓xu32_lss, ↓xu64_add, ↓xu64_and, ↓xu64_xor, ↓xu64_com, ↓xu64_shr, 
      ↓xu64_eql, ↓xu64_lss, ↓xi64_lss, ↓xi64_eql, ↓xi64_and, ↓xi64_xor, ↓xi64_shr, Int.toNat_natCast, Int.reduceToNat, Nat.reduceMul, Nat.reduceAdd, Nat.reduceSub, Nat.mul_one, List.nil_append, List.cons_append, List.getElem?_toArray, 
      List.getElem?_cons_zero, List.getElem?_cons_succ, cells_int, cells_bool, cells_string, cells_slice, cells_pointer, cells_agg, one_int, one_bool, one_string, one_slice, one_pointer, List.setIfInBounds_toArray, List.set_cons_zero, 
      List.set_cons_succ, ↓xDet_s, ↓xDet_ld, ↓xDet_ld2, ↓xDet_ld3, ↓xDet_ld4, World.size_drew, Nat.zero_add, Nat.add_zero, cell_drew, frozen_drew, cell_set_eq, cell_set_o, cell_set_b, Option.map_some, World.frozen?_setCell, decide_true, 
      decide_false, List.not_mem_nil, not_false_eq_true, ↓xGuard_tt, Bool.not_true, Bool.not_false, ←decide_not, ↓ld_5, ↓cv_5_52, ↓ia_51, ↓ln_51, eq_self]
    rw [List.take_length, ← hs]
    exact ⟨by rfl, E1⟩
def RowR (w w' : World) (u : Value) (l : List (BitVec 8)) : Prop := Ext [] w w' ∧ ∃ a c, u = .slice a l.length c ∧ l.length ≤ c ∧ RowAt w' a (bys l) ∧ (a = none → c = 0)
abbrev low4 (x : BitVec 32) : List (BitVec 8) := (List.range 4).map (byteOf (x.setWidth 64))
theorem low4_eq (x : BitVec 32) : low4 x = [x.setWidth 8, (x >>> 8).setWidth 8, (x >>> 16).setWidth 8, (x >>> 24).setWidth 8] := by
  have e : ∀ k, k < 4 → byteOf (x.setWidth 64) k = (x >>> (8 * k)).setWidth 8 := by
    intro k hk
    apply BitVec.eq_of_getLsbD_eq
    intro i hi
    simp only [byteOf, BitVec.getLsbD_setWidth, BitVec.getLsbD_ushiftRight]
    simp [hi, show 8 * k + i < 64 by omega]
  simp [low4, List.range_succ, e]
theorem rLow_spec (x : BitVec 32) (w : World) : Yld Try.prog n_loamref2_Low #[u32 x] w fun u w' => RowR w w' u (low4 x) := by
  refine loamref2_Low_of ?_
  unfold loamref2_Low
  simp (disch := (first | omega | decide | (simp only [World.size_alloc, World.size_setCell, World.size_drew, List.mem_cons, List.not_mem_nil, or_false, not_false_eq_true] <;> omega) | fail)) only [↓xBox_r, ↓loadK_some, ↓loadsK_s, ↓loadsK_n, ↓loadsR_s, ↓loadsR_n, ↓storesK_s, ↓storesK_n, setCells_c, setCells_n, World.setCell_alloc_at, World.setCell_alloc_past, World.cell?_alloc_at, World.cell?_alloc_past, 
      World.frozen?_alloc_at, World.frozen?_alloc_past, World.size_alloc, ↓xPick_t, ↓xPick_f, ↓xGuard_tt, ↓xGuard_ff, ↓xGuard_tf, ↓xGuard_ft, ↓xGuard_u, ↓xNil_r, Option.isNone_some, Option.isNone_none, ↓xIf_t, tick_eq, tickV_eq, ne_eq, 
      dlt_t, dlt_f, dle_t, dle_f, deq_t, deq_f, dne_t, dne_f, not_true_eq_false, Int.reduceAdd, Int.reduceSub, Int.reduceMul, Int.reduceEq, Int.reduceLT, Int.reduceLE, Bool.false_and, Bool.true_and, Bool.and_true, 
      Bool.and_false, ↓xBin_add', ↓xBin_sub', ↓xBin_mul', ↓xBin_quo', ↓xBin_rem', wrap_in, ↓xIf_f, ↓xIf_tt, ↓xEx0, ↓xEx1, ↓xEx2, ↓xEx3, ↓xBin_eqs, ↓xBin_nes, ↓xUn_not, ↓xu8_shr, ↓xu16_shr, ↓xu32_shr, ↓xu64_shr, ↓xi64_shr, Int.toNat_natCast, 
      Int.reduceToNat, Nat.reduceMul, Nat.reduceAdd, Nat.reduceSub, Nat.mul_one, List.nil_append, List.cons_append, List.getElem?_toArray, List.getElem?_cons_zero, List.getElem?_cons_succ, cells_int, cells_bool, cells_string, 
      cells_slice, cells_pointer, cells_agg, one_int, one_bool, one_string, one_slice, one_pointer, List.setIfInBounds_toArray, List.set_cons_zero, List.set_cons_succ, ↓xDet_s, ↓xDet_ld, ↓xDet_ld2, ↓xDet_ld3, ↓xDet_ld4, 
      World.size_drew, Nat.zero_add, Nat.add_zero, cell_drew, frozen_drew, cell_set_eq, cell_set_o, cell_set_b, Option.map_some, World.frozen?_setCell, decide_true, decide_false, List.not_mem_nil, not_false_eq_true, ↓xGuard_tt, 
      Bool.not_true, Bool.not_false, ←decide_not, ↓cv_52_5, ↓bs_51_0, ↓bs_51_1, ↓bs_51_3, ↓bs_51_4, ↓bs_51_5, eq_self]
  refine ⟨Ext.alloc _ _ _, _, _, rfl, Nat.le_refl _, ?_, fun h => by cases h⟩
  rw [low4_eq]
  exact (Blk.new (e := 5) w (bys _)).row
theorem rSeal_spec (l : List (BitVec 8)) (a : Option Addr) (n c : Nat) (w : World) (hn : n = l.length) (hl : l.length ≤ 1000000) (h : RowAt w a (bys l)) (hnil : a = none → c = 0) : Yld Try.prog n_loamref2_Seal #[.slice a n c] w fun u w' => RowR w w' u (sealV l) := by
  subst hn
  refine loamref2_Seal_of ?_
  unfold loamref2_Seal
  simp (disch := (first | omega | decide | (simp only [World.size_alloc, World.size_setCell, World.size_drew, List.mem_cons, List.not_mem_nil, or_false, not_false_eq_true] <;> omega) | fail)) only [↓xBox_r, ↓loadK_some, ↓loadsK_s, ↓loadsK_n, ↓loadsR_s, ↓loadsR_n, ↓storesK_s, ↓storesK_n, setCells_c, setCells_n, World.setCell_alloc_at, World.setCell_alloc_past, World.cell?_alloc_at, World.cell?_alloc_past, 
      World.frozen?_alloc_at, World.frozen?_alloc_past, World.size_alloc, ↓xPick_t, ↓xPick_f, ↓xGuard_tt, ↓xGuard_ff, ↓xGuard_tf, ↓xGuard_ft, ↓xGuard_u, ↓xNil_r, Option.isNone_some, Option.isNone_none, ↓xIf_t, tick_eq, tickV_eq, ne_eq, 
      dlt_t, dlt_f, dle_t, dle_f, deq_t, deq_f, dne_t, dne_f, not_true_eq_false, Int.reduceAdd, Int.reduceSub, Int.reduceMul, Int.reduceEq, Int.reduceLT, Int.reduceLE, Bool.false_and, Bool.true_and, Bool.and_true, 
      Bool.and_false, ↓xBin_add', ↓xBin_sub', ↓xBin_mul', ↓xBin_quo', ↓xBin_rem', wrap_in, ↓xIf_f, ↓xIf_tt, ↓xEx0, ↓xEx1, ↓xEx2, ↓xEx3, ↓xBin_eqs, ↓xBin_nes, ↓xUn_not, Int.toNat_natCast, Int.reduceToNat, Nat.reduceMul, Nat.reduceAdd, 
      Nat.reduceSub, Nat.mul_one, List.nil_append, List.cons_append, List.getElem?_toArray, List.getElem?_cons_zero, List.getElem?_cons_succ, cells_int, cells_bool, cells_string, cells_slice, cells_pointer, cells_agg, one_int, 
      one_bool, one_string, one_slice, one_pointer, List.setIfInBounds_toArray, List.set_cons_zero, List.set_cons_succ, ↓xDet_s, ↓xDet_ld, ↓xDet_ld2, ↓xDet_ld3, ↓xDet_ld4, World.size_drew, Nat.zero_add, Nat.add_zero, 
      cell_drew, frozen_drew, cell_set_eq, cell_set_o, cell_set_b, Option.map_some, World.frozen?_setCell, decide_true, decide_false, List.not_mem_nil, not_false_eq_true, ↓xGuard_tt, Bool.not_true, Bool.not_false, ←decide_not, ↓bs_51_0, ↓bs_51_1, ↓bs_51_3, ↓bs_51_4, ↓bs_51_5, eq_self]
  have F0 : Ext [] w (w.alloc (.cells [].toArray 5)) := Ext.alloc _ _ _
  refine xAppend_own (e := 5) (base := w.heap.size) (xs := []) (news := bys l) (z := .int .u8 0) (bytes := 1) (by kernel_rfl) (by kernel_rfl) (by rfl) (World.ownsRow_lit w #[] 0 (Nat.le_refl _) (by decide) (by rfl)) (by simp) (h.ext0 F0) hnil (by simp [Value.oneCell']) (by omega) (by omega) (by simp) ?_
  intro v' w' hown hgr
  rw [Nat.zero_add, List.nil_append] at hown
  have F2 : Ext [] w w' := grownBy_new F0 hgr (fun k hk => by simp [Value.ownBlock] at hk; omega)
  refine loamref2_Sum_call (Gives.to (rSum_spec l a l.length c w' rfl (by omega) (h.ext0 F2)) fun w3 F3 => ?_)
  refine loamref2_Low_call (Yld.mono (rLow_spec _ w3) ?_)
  rintro u w4 ⟨F4, a4, c4, rfl, hc4, R4, hn4⟩
  have hl4 : (low4 (sumV l)).length = 4 := by simp
  rw [hl4] at hc4 ⊢
  have O4 := own_ext (own_ext hown F3) F4
  have G4 := (F2.trans F3).trans F4
  refine xAppend_own (e := 5) (base := w.heap.size) (news := bys (low4 (sumV l))) (z := .int .u8 0) (bytes := 1) (by kernel_rfl) (by kernel_rfl) (by rfl) O4 (by simp) R4 hn4 (by simp [Value.oneCell']) (by omega) (by omega) G4.size ?_
  intro v5 w5 hown5 hgr5
  have F5 : Ext [] w w5 := grownBy_new G4 hgr5 (fun k hk => (O4.lt k hk).1)
  obtain ⟨a5, c5, e5, h1, h2, h3, h4⟩ := own_slice hown5
  refine ⟨F5, a5, c5, by rw [e5, sealV_length], by rw [sealV_length]; exact h2, ?_, h3⟩
  rw [sealV, bys, List.map_append]
  exact h4
theorem right_iff (l : List (BitVec 8)) (h : 4 ≤ l.length) : rightB l = decide (low4 (sumV (l.take (l.length - 4))) = l.drop (l.length - 4)) := by
  unfold rightB sealV
  refine decide_eq_decide.2 ⟨fun hx => ?_, fun hx => ⟨h, ?_⟩⟩
  · have := hx.2
    have e : l.take (l.length - 4) ++ l.drop (l.length - 4) = l.take (l.length - 4) ++ low4 (sumV (l.take (l.length - 4))) := by rw [List.take_append_drop]; exact this
    exact (List.append_cancel_left e).symm
  · show l = l.take (l.length - 4) ++ low4 (sumV (l.take (l.length - 4)))
    rw [hx, List.take_append_drop]
theorem rRight_spec (l : List (BitVec 8)) (a : Option Addr) (n c : Nat) (w : World) (hn : n = l.length) (hc : n ≤ c) (hl : l.length ≤ 1000000) (h : RowAt w a (bys l)) : Gives Try.prog n_loamref2_Right #[.slice a n c] w (.bool (rightB l)) := by
  subst hn
  refine loamref2_Right_of ?_
  unfold loamref2_Right
  simp (disch := (first | omega | decide | (simp only [World.size_alloc, World.size_setCell, World.size_drew, List.mem_cons, List.not_mem_nil, or_false, not_false_eq_true] <;> omega) | fail)) only [↓xBox_r, ↓loadK_some, ↓loadsK_s, ↓loadsK_n, ↓loadsR_s, ↓loadsR_n, ↓storesK_s, ↓storesK_n, setCells_c, setCells_n, World.setCell_alloc_at, World.setCell_alloc_past, World.cell?_alloc_at, World.cell?_alloc_past, 
      World.frozen?_alloc_at, World.frozen?_alloc_past, World.size_alloc, ↓xPick_t, ↓xPick_f, ↓xGuard_tt, ↓xGuard_ff, ↓xGuard_tf, ↓xGuard_ft, ↓xGuard_u, ↓xNil_r, Option.isNone_some, Option.isNone_none, ↓xIf_t, tick_eq, tickV_eq, ne_eq, 
      dlt_t, dlt_f, dle_t, dle_f, deq_t, deq_f, dne_t, dne_f, not_true_eq_false, Int.reduceAdd, Int.reduceSub, Int.reduceMul, Int.reduceEq, Int.reduceLT, Int.reduceLE, Bool.false_and, Bool.true_and, Bool.and_true, 
      Bool.and_false, ↓xBin_add', ↓xBin_sub', ↓xBin_mul', ↓xBin_quo', ↓xBin_rem', wrap_in, ↓xIf_f, ↓xIf_tt, ↓xEx0, ↓xEx1, ↓xEx2, ↓xEx3, ↓xBin_eqs, ↓xBin_nes, ↓xUn_not, ↓xu8_sub, ↓xu8_eql, ↓xu8_geq, ↓xu16_sub, ↓xu16_eql, ↓xu16_geq, 
      ↓xu32_sub, ↓xu32_eql, ↓xu32_geq, ↓xu64_sub, ↓xu64_eql, ↓xu64_geq, ↓xi64_geq, ↓xi64_eql, Int.toNat_natCast, Int.reduceToNat, Nat.reduceMul, Nat.reduceAdd, Nat.reduceSub, Nat.mul_one, List.nil_append, List.cons_append, 
      List.getElem?_toArray, List.getElem?_cons_zero, List.getElem?_cons_succ, cells_int, cells_bool, cells_string, cells_slice, cells_pointer, cells_agg, one_int, one_bool, one_string, one_slice, one_pointer, List.setIfInBounds_toArray, 
      List.set_cons_zero, List.set_cons_succ, ↓xDet_s, ↓xDet_ld, ↓xDet_ld2, ↓xDet_ld3, ↓xDet_ld4, World.size_drew, Nat.zero_add, Nat.add_zero, cell_drew, frozen_drew, cell_set_eq, cell_set_o, cell_set_b, Option.map_some, World.frozen?_setCell, 
      decide_true, decide_false, List.not_mem_nil, not_false_eq_true, ↓xGuard_tt, Bool.not_true, Bool.not_false, ←decide_not, ↓ln_51, ↓sh_51, ↓sl_51, eq_self]
  refine xDraw_ext [] [] ?_
  by_cases g : 4 ≤ l.length
  · have t1 : ((l.length : Int) - 4).toNat = l.length - 4 := by omega
    have e1 : l.length - (l.length - 4) = 4 := by omega
    have h0 := h.ext0 (Ext.drew [] w)
    have ht : RowAt w.drew a (bys (l.take (l.length - 4))) := by
      have := h0.take (l.length - 4)
      rwa [← List.map_take] at this
    have hd := h0.drop (l.length - 4) c (by simpa using hc)
    rw [← List.map_drop] at hd
    simp (disch := (first | omega | decide | (simp only [World.size_alloc, World.size_setCell, World.size_drew, List.mem_cons, List.not_mem_nil, or_false, not_false_eq_true] <;> omega) | fail)) only [↓xBox_r, ↓loadK_some, ↓loadsK_s, ↓loadsK_n, ↓loadsR_s, ↓loadsR_n, ↓storesK_s, ↓storesK_n, setCells_c, setCells_n, World.setCell_alloc_at, World.setCell_alloc_past, World.cell?_alloc_at, World.cell?_alloc_past, 
      World.frozen?_alloc_at, World.frozen?_alloc_past, World.size_alloc, ↓xPick_t, ↓xPick_f, ↓xGuard_tt, ↓xGuard_ff, ↓xGuard_tf, ↓xGuard_ft, ↓xGuard_u, ↓xNil_r, Option.isNone_some, Option.isNone_none, ↓xIf_t, tick_eq, tickV_eq, ne_eq, 
      dlt_t, dlt_f, dle_t, dle_f, deq_t, deq_f, dne_t, dne_f, not_true_eq_false, Int.reduceAdd, Int.reduceSub, Int.reduceMul, Int.reduceEq, Int.reduceLT, Int.reduceLE, Bool.false_and, Bool.true_and, Bool.and_true, 
      Bool.and_false, ↓xBin_add', ↓xBin_sub', ↓xBin_mul', ↓xBin_quo', ↓xBin_rem', wrap_in, ↓xIf_f, ↓xIf_tt, ↓xEx0, ↓xEx1, ↓xEx2, ↓xEx3, ↓xBin_eqs, ↓xBin_nes, ↓xUn_not, ↓xu8_sub, ↓xu8_eql, ↓xu8_geq, ↓xu16_sub, ↓xu16_eql, ↓xu16_geq, 
      ↓xu32_sub, ↓xu32_eql, ↓xu32_geq, ↓xu64_sub, ↓xu64_eql, ↓xu64_geq, ↓xi64_geq, ↓xi64_eql, Int.toNat_natCast, Int.reduceToNat, Nat.reduceMul, Nat.reduceAdd, Nat.reduceSub, Nat.mul_one, List.nil_append, List.cons_append, 
      List.getElem?_toArray, List.getElem?_cons_zero, List.getElem?_cons_succ, cells_int, cells_bool, cells_string, cells_slice, cells_pointer, cells_agg, one_int, one_bool, one_string, one_slice, one_pointer, List.setIfInBounds_toArray, 
      List.set_cons_zero, List.set_cons_succ, ↓xDet_s, ↓xDet_ld, ↓xDet_ld2, ↓xDet_ld3, ↓xDet_ld4, World.size_drew, Nat.zero_add, Nat.add_zero, cell_drew, frozen_drew, cell_set_eq, cell_set_o, cell_set_b, Option.map_some, World.frozen?_setCell, 
      decide_true, decide_false, List.not_mem_nil, not_false_eq_true, ↓xGuard_tt, Bool.not_true, Bool.not_false, ←decide_not, ↓ln_51, ↓sh_51, ↓sl_51, t1]
    apply xDet_x
    · intro wq hq
      rw [xConv_str (e := 5) (l := l.drop (l.length - 4)) (by kernel_rfl) (by kernel_rfl) (by kernel_rfl) (by first | (simp; done) | omega) (RowAt.ext0 (hd) hq.ext)]
      exact ⟨rfl, Lq.refl _ _ _⟩
    simp (disch := (first | omega | decide | (simp only [World.size_alloc, World.size_setCell, World.size_drew, List.mem_cons, List.not_mem_nil, or_false, not_false_eq_true] <;> omega) | fail)) only [↓xBox_r, ↓loadK_some, ↓loadsK_s, ↓loadsK_n, ↓loadsR_s, ↓loadsR_n, ↓storesK_s, ↓storesK_n, setCells_c, setCells_n, World.setCell_alloc_at, World.setCell_alloc_past, World.cell?_alloc_at, World.cell?_alloc_past, 
      World.frozen?_alloc_at, World.frozen?_alloc_past, World.size_alloc, ↓xPick_t, ↓xPick_f, ↓xGuard_tt, ↓xGuard_ff, ↓xGuard_tf, ↓xGuard_ft, ↓xGuard_u, ↓xNil_r, Option.isNone_some, Option.isNone_none, ↓xIf_t, tick_eq, tickV_eq, ne_eq, 
      dlt_t, dlt_f, dle_t, dle_f, deq_t, deq_f, dne_t, dne_f, not_true_eq_false, Int.reduceAdd, Int.reduceSub, Int.reduceMul, Int.reduceEq, Int.reduceLT, Int.reduceLE, Bool.false_and, Bool.true_and, Bool.and_true, 
      Bool.and_false, ↓xBin_add', ↓xBin_sub', ↓xBin_mul', ↓xBin_quo', ↓xBin_rem', wrap_in, ↓xIf_f, ↓xIf_tt, ↓xEx0, ↓xEx1, ↓xEx2, ↓xEx3, ↓xBin_eqs, ↓xBin_nes, ↓xUn_not, ↓xu8_sub, ↓xu8_eql, ↓xu8_geq, ↓xu16_sub, ↓xu16_eql, ↓xu16_geq, 
      ↓xu32_sub, ↓xu32_eql, ↓xu32_geq, ↓xu64_sub, ↓xu64_eql, ↓xu64_geq, ↓xi64_geq, ↓xi64_eql, Int.toNat_natCast, Int.reduceToNat, Nat.reduceMul, Nat.reduceAdd, Nat.reduceSub, Nat.mul_one, List.nil_append, List.cons_append, 
      List.getElem?_toArray, List.getElem?_cons_zero, List.getElem?_cons_succ, cells_int, cells_bool, cells_string, cells_slice, cells_pointer, cells_agg, one_int, one_bool, one_string, one_slice, one_pointer, List.setIfInBounds_toArray, 
      List.set_cons_zero, List.set_cons_succ, ↓xDet_s, ↓xDet_ld, ↓xDet_ld2, ↓xDet_ld3, ↓xDet_ld4, World.size_drew, Nat.zero_add, Nat.add_zero, cell_drew, frozen_drew, cell_set_eq, cell_set_o, cell_set_b, Option.map_some, World.frozen?_setCell, 
      decide_true, decide_false, List.not_mem_nil, not_false_eq_true, ↓xGuard_tt, Bool.not_true, Bool.not_false, ←decide_not, ↓ln_51, ↓sh_51, ↓sl_51, t1]
    apply xDet_x
    · exact fun w2 hw => loamref2_Sum_call (Gives.lq (rSum_spec (l.take (l.length - 4)) a (l.length - 4) c w2 (by simp) (by omega) (ht.ext0 hw.ext)))
    refine xStr_x (.string (strOf (low4 (sumV (l.take (l.length - 4)))))) ?_ ?_
    · refine xNon_x (V := fun u w' => ∃ a c, u = .slice a 4 c ∧ RowAt w' a (bys (low4 (sumV (l.take (l.length - 4)))))) (fun u w1 w2 hV hq => ?_) (fun wq hq => ?_) fun u => xDet_x (fun wq hq => ?_) rfl
      · obtain ⟨a, c, e, hr⟩ := hV
        exact ⟨a, c, e, hr.ext0 hq.ext⟩
      · simp (disch := (first | omega | decide | (simp only [World.size_alloc, World.size_setCell, World.size_drew, List.mem_cons, List.not_mem_nil, or_false, not_false_eq_true] <;> omega) | fail)) only [↓xBox_r, ↓loadK_some, ↓loadsK_s, ↓loadsK_n, ↓loadsR_s, ↓loadsR_n, ↓storesK_s, ↓storesK_n, setCells_c, setCells_n, World.setCell_alloc_at, World.setCell_alloc_past, World.cell?_alloc_at, World.cell?_alloc_past, 
      World.frozen?_alloc_at, World.frozen?_alloc_past, World.size_alloc, ↓xPick_t, ↓xPick_f, ↓xGuard_tt, ↓xGuard_ff, ↓xGuard_tf, ↓xGuard_ft, ↓xGuard_u, ↓xNil_r, Option.isNone_some, Option.isNone_none, ↓xIf_t, tick_eq, tickV_eq, ne_eq, 
      dlt_t, dlt_f, dle_t, dle_f, deq_t, deq_f, dne_t, dne_f, not_true_eq_false, Int.reduceAdd, Int.reduceSub, Int.reduceMul, Int.reduceEq, Int.reduceLT, Int.reduceLE, Bool.false_and, Bool.true_and, Bool.and_true, 
      Bool.and_false, ↓xBin_add', ↓xBin_sub', ↓xBin_mul', ↓xBin_quo', ↓xBin_rem', wrap_in, ↓xIf_f, ↓xIf_tt, ↓xEx0, ↓xEx1, ↓xEx2, ↓xEx3, ↓xBin_eqs, ↓xBin_nes, ↓xUn_not, ↓xu8_sub, ↓xu8_eql, ↓xu8_geq, ↓xu16_sub, ↓xu16_eql, ↓xu16_geq, 
      ↓xu32_sub, ↓xu32_eql, ↓xu32_geq, ↓xu64_sub, ↓xu64_eql, ↓xu64_geq, ↓xi64_geq, ↓xi64_eql, Int.toNat_natCast, Int.reduceToNat, Nat.reduceMul, Nat.reduceAdd, Nat.reduceSub, Nat.mul_one, List.nil_append, List.cons_append, 
      List.getElem?_toArray, List.getElem?_cons_zero, List.getElem?_cons_succ, cells_int, cells_bool, cells_string, cells_slice, cells_pointer, cells_agg, one_int, one_bool, one_string, one_slice, one_pointer, List.setIfInBounds_toArray, 
      List.set_cons_zero, List.set_cons_succ, ↓xDet_s, ↓xDet_ld, ↓xDet_ld2, ↓xDet_ld3, ↓xDet_ld4, World.size_drew, Nat.zero_add, Nat.add_zero, cell_drew, frozen_drew, cell_set_eq, cell_set_o, cell_set_b, Option.map_some, World.frozen?_setCell, 
      decide_true, decide_false, List.not_mem_nil, not_false_eq_true, ↓xGuard_tt, Bool.not_true, Bool.not_false, ←decide_not, ↓ln_51, ↓sh_51, ↓sl_51, t1]
        refine loamref2_Low_call (Yld.mono (rLow_spec _ wq) ?_)
        rintro u w' ⟨F, a, c, e, h1, h2, h3⟩
        exact ⟨⟨a, c, by rw [e]; simp, h2⟩, Lq.of F⟩
      · obtain ⟨hq, aL, cL, rfl, hr⟩ := hq
        simp (disch := (first | omega | decide | (simp only [World.size_alloc, World.size_setCell, World.size_drew, List.mem_cons, List.not_mem_nil, or_false, not_false_eq_true] <;> omega) | fail)) only [↓xBox_r, ↓loadK_some, ↓loadsK_s, ↓loadsK_n, ↓loadsR_s, ↓loadsR_n, ↓storesK_s, ↓storesK_n, setCells_c, setCells_n, World.setCell_alloc_at, World.setCell_alloc_past, World.cell?_alloc_at, World.cell?_alloc_past, 
      World.frozen?_alloc_at, World.frozen?_alloc_past, World.size_alloc, ↓xPick_t, ↓xPick_f, ↓xGuard_tt, ↓xGuard_ff, ↓xGuard_tf, ↓xGuard_ft, ↓xGuard_u, ↓xNil_r, Option.isNone_some, Option.isNone_none, ↓xIf_t, tick_eq, tickV_eq, ne_eq, 
      dlt_t, dlt_f, dle_t, dle_f, deq_t, deq_f, dne_t, dne_f, not_true_eq_false, Int.reduceAdd, Int.reduceSub, Int.reduceMul, Int.reduceEq, Int.reduceLT, Int.reduceLE, Bool.false_and, Bool.true_and, Bool.and_true, 
      Bool.and_false, ↓xBin_add', ↓xBin_sub', ↓xBin_mul', ↓xBin_quo', ↓xBin_rem', wrap_in, ↓xIf_f, ↓xIf_tt, ↓xEx0, ↓xEx1, ↓xEx2, ↓xEx3, ↓xBin_eqs, ↓xBin_nes, ↓xUn_not, ↓xu8_sub, ↓xu8_eql, ↓xu8_geq, ↓xu16_sub, ↓xu16_eql, ↓xu16_geq, 
      ↓xu32_sub, ↓xu32_eql, ↓xu32_geq, ↓xu64_sub, ↓xu64_eql, ↓xu64_geq, ↓xi64_geq, ↓xi64_eql, Int.toNat_natCast, Int.reduceToNat, Nat.reduceMul, Nat.reduceAdd, Nat.reduceSub, Nat.mul_one, List.nil_append, List.cons_append, 
      List.getElem?_toArray, List.getElem?_cons_zero, List.getElem?_cons_succ, cells_int, cells_bool, cells_string, cells_slice, cells_pointer, cells_agg, one_int, one_bool, one_string, one_slice, one_pointer, List.setIfInBounds_toArray, 
      List.set_cons_zero, List.set_cons_succ, ↓xDet_s, ↓xDet_ld, ↓xDet_ld2, ↓xDet_ld3, ↓xDet_ld4, World.size_drew, Nat.zero_add, Nat.add_zero, cell_drew, frozen_drew, cell_set_eq, cell_set_o, cell_set_b, Option.map_some, World.frozen?_setCell, 
      decide_true, decide_false, List.not_mem_nil, not_false_eq_true, ↓xGuard_tt, Bool.not_true, Bool.not_false, ←decide_not, ↓ln_51, ↓sh_51, ↓sl_51, t1]
        rw [xConv_str (e := 5) (l := low4 (sumV (l.take (l.length - 4)))) (by kernel_rfl) (by kernel_rfl) (by kernel_rfl) (by simp) hr]
        exact ⟨rfl, Lq.refl _ _ _⟩
    · simp (disch := (first | omega | decide | (simp only [World.size_alloc, World.size_setCell, World.size_drew, List.mem_cons, List.not_mem_nil, or_false, not_false_eq_true] <;> omega) | fail)) only [↓xBox_r, ↓loadK_some, ↓loadsK_s, ↓loadsK_n, ↓loadsR_s, ↓loadsR_n, ↓storesK_s, ↓storesK_n, setCells_c, setCells_n, World.setCell_alloc_at, World.setCell_alloc_past, World.cell?_alloc_at, World.cell?_alloc_past, 
      World.frozen?_alloc_at, World.frozen?_alloc_past, World.size_alloc, ↓xPick_t, ↓xPick_f, ↓xGuard_tt, ↓xGuard_ff, ↓xGuard_tf, ↓xGuard_ft, ↓xGuard_u, ↓xNil_r, Option.isNone_some, Option.isNone_none, ↓xIf_t, tick_eq, tickV_eq, ne_eq, 
      dlt_t, dlt_f, dle_t, dle_f, deq_t, deq_f, dne_t, dne_f, not_true_eq_false, Int.reduceAdd, Int.reduceSub, Int.reduceMul, Int.reduceEq, Int.reduceLT, Int.reduceLE, Bool.false_and, Bool.true_and, Bool.and_true, 
      Bool.and_false, ↓xBin_add', ↓xBin_sub', ↓xBin_mul', ↓xBin_quo', ↓xBin_rem', wrap_in, ↓xIf_f, ↓xIf_tt, ↓xEx0, ↓xEx1, ↓xEx2, ↓xEx3, ↓xBin_eqs, ↓xBin_nes, ↓xUn_not, ↓xu8_sub, ↓xu8_eql, ↓xu8_geq, ↓xu16_sub, ↓xu16_eql, ↓xu16_geq, 
      ↓xu32_sub, ↓xu32_eql, ↓xu32_geq, ↓xu64_sub, ↓xu64_eql, ↓xu64_geq, ↓xi64_geq, ↓xi64_eql, Int.toNat_natCast, Int.reduceToNat, Nat.reduceMul, Nat.reduceAdd, Nat.reduceSub, Nat.mul_one, List.nil_append, List.cons_append, 
      List.getElem?_toArray, List.getElem?_cons_zero, List.getElem?_cons_succ, cells_int, cells_bool, cells_string, cells_slice, cells_pointer, cells_agg, one_int, one_bool, one_string, one_slice, one_pointer, List.setIfInBounds_toArray, 
      List.set_cons_zero, List.set_cons_succ, ↓xDet_s, ↓xDet_ld, ↓xDet_ld2, ↓xDet_ld3, ↓xDet_ld4, World.size_drew, Nat.zero_add, Nat.add_zero, cell_drew, frozen_drew, cell_set_eq, cell_set_o, cell_set_b, Option.map_some, World.frozen?_setCell, 
      decide_true, decide_false, List.not_mem_nil, not_false_eq_true, ↓xGuard_tt, Bool.not_true, Bool.not_false, ←decide_not, ↓ln_51, ↓sh_51, ↓sl_51, t1]
      refine xEndU_i fun uS w9 hw => ?_
      refine ⟨?_, (Ext.drew [] _).trans hw.ext⟩
      simp only [strOf_inj]
      rw [right_iff l g]
  · have hv : rightB l = false := decide_eq_false (by omega)
    have g' : ¬ 0 ≤ (l.length : Int) - 4 := by omega
    simp (disch := (first | omega | decide | (simp only [World.size_alloc, World.size_setCell, World.size_drew, List.mem_cons, List.not_mem_nil, or_false, not_false_eq_true] <;> omega) | fail)) only [↓xBox_r, ↓loadK_some, ↓loadsK_s, ↓loadsK_n, ↓loadsR_s, ↓loadsR_n, ↓storesK_s, ↓storesK_n, setCells_c, setCells_n, World.setCell_alloc_at, World.setCell_alloc_past, World.cell?_alloc_at, World.cell?_alloc_past, 
      World.frozen?_alloc_at, World.frozen?_alloc_past, World.size_alloc, ↓xPick_t, ↓xPick_f, ↓xGuard_tt, ↓xGuard_ff, ↓xGuard_tf, ↓xGuard_ft, ↓xGuard_u, ↓xNil_r, Option.isNone_some, Option.isNone_none, ↓xIf_t, tick_eq, tickV_eq, ne_eq, 
      dlt_t, dlt_f, dle_t, dle_f, deq_t, deq_f, dne_t, dne_f, not_true_eq_false, Int.reduceAdd, Int.reduceSub, Int.reduceMul, Int.reduceEq, Int.reduceLT, Int.reduceLE, Bool.false_and, Bool.true_and, Bool.and_true, 
      Bool.and_false, ↓xBin_add', ↓xBin_sub', ↓xBin_mul', ↓xBin_quo', ↓xBin_rem', wrap_in, ↓xIf_f, ↓xIf_tt, ↓xEx0, ↓xEx1, ↓xEx2, ↓xEx3, ↓xBin_eqs, ↓xBin_nes, ↓xUn_not, ↓xu8_sub, ↓xu8_eql, ↓xu8_geq, ↓xu16_sub, ↓xu16_eql, ↓xu16_geq, 
      ↓xu32_sub, ↓xu32_eql, ↓xu32_geq, ↓xu64_sub, ↓xu64_eql, ↓xu64_geq, ↓xi64_geq, ↓xi64_eql, Int.toNat_natCast, Int.reduceToNat, Nat.reduceMul, Nat.reduceAdd, Nat.reduceSub, Nat.mul_one, List.nil_append, List.cons_append, 
      List.getElem?_toArray, List.getElem?_cons_zero, List.getElem?_cons_succ, cells_int, cells_bool, cells_string, cells_slice, cells_pointer, cells_agg, one_int, one_bool, one_string, one_slice, one_pointer, List.setIfInBounds_toArray, 
      List.set_cons_zero, List.set_cons_succ, ↓xDet_s, ↓xDet_ld, ↓xDet_ld2, ↓xDet_ld3, ↓xDet_ld4, World.size_drew, Nat.zero_add, Nat.add_zero, cell_drew, frozen_drew, cell_set_eq, cell_set_o, cell_set_b, Option.map_some, World.frozen?_setCell, 
      decide_true, decide_false, List.not_mem_nil, not_false_eq_true, ↓xGuard_tt, Bool.not_true, Bool.not_false, ←decide_not, ↓ln_51, ↓sh_51, ↓sl_51, eq_false g', hv]
    refine xStr_x undef ?_ ?_
    · refine xNon_x (V := fun u _ => u = undef) (fun _ _ _ h _ => h) (fun wq hq => ?_) fun u => xDet_x (fun wq hq => ?_) rfl
      · simp (disch := (first | omega | decide | (simp only [World.size_alloc, World.size_setCell, World.size_drew, List.mem_cons, List.not_mem_nil, or_false, not_false_eq_true] <;> omega) | fail)) only [↓xBox_r, ↓loadK_some, ↓loadsK_s, ↓loadsK_n, ↓loadsR_s, ↓loadsR_n, ↓storesK_s, ↓storesK_n, setCells_c, setCells_n, World.setCell_alloc_at, World.setCell_alloc_past, World.cell?_alloc_at, World.cell?_alloc_past, 
      World.frozen?_alloc_at, World.frozen?_alloc_past, World.size_alloc, ↓xPick_t, ↓xPick_f, ↓xGuard_tt, ↓xGuard_ff, ↓xGuard_tf, ↓xGuard_ft, ↓xGuard_u, ↓xNil_r, Option.isNone_some, Option.isNone_none, ↓xIf_t, tick_eq, tickV_eq, ne_eq, 
      dlt_t, dlt_f, dle_t, dle_f, deq_t, deq_f, dne_t, dne_f, not_true_eq_false, Int.reduceAdd, Int.reduceSub, Int.reduceMul, Int.reduceEq, Int.reduceLT, Int.reduceLE, Bool.false_and, Bool.true_and, Bool.and_true, 
      Bool.and_false, ↓xBin_add', ↓xBin_sub', ↓xBin_mul', ↓xBin_quo', ↓xBin_rem', wrap_in, ↓xIf_f, ↓xIf_tt, ↓xEx0, ↓xEx1, ↓xEx2, ↓xEx3, ↓xBin_eqs, ↓xBin_nes, ↓xUn_not, ↓xu8_sub, ↓xu8_eql, ↓xu8_geq, ↓xu16_sub, ↓xu16_eql, ↓xu16_geq, 
      ↓xu32_sub, ↓xu32_eql, ↓xu32_geq, ↓xu64_sub, ↓xu64_eql, ↓xu64_geq, ↓xi64_geq, ↓xi64_eql, Int.toNat_natCast, Int.reduceToNat, Nat.reduceMul, Nat.reduceAdd, Nat.reduceSub, Nat.mul_one, List.nil_append, List.cons_append, 
      List.getElem?_toArray, List.getElem?_cons_zero, List.getElem?_cons_succ, cells_int, cells_bool, cells_string, cells_slice, cells_pointer, cells_agg, one_int, one_bool, one_string, one_slice, one_pointer, List.setIfInBounds_toArray, 
      List.set_cons_zero, List.set_cons_succ, ↓xDet_s, ↓xDet_ld, ↓xDet_ld2, ↓xDet_ld3, ↓xDet_ld4, World.size_drew, Nat.zero_add, Nat.add_zero, cell_drew, frozen_drew, cell_set_eq, cell_set_o, cell_set_b, Option.map_some, World.frozen?_setCell, 
      decide_true, decide_false, List.not_mem_nil, not_false_eq_true, ↓xGuard_tt, Bool.not_true, Bool.not_false, ←decide_not, ↓ln_51, ↓sh_51, ↓sl_51, eq_false g', hv]
        exact ⟨by trivial, Lq.refl _ _ _⟩
      · obtain ⟨hq, rfl⟩ := hq
        simp (disch := (first | omega | decide | (simp only [World.size_alloc, World.size_setCell, World.size_drew, List.mem_cons, List.not_mem_nil, or_false, not_false_eq_true] <;> omega) | fail)) only [↓xBox_r, ↓loadK_some, ↓loadsK_s, ↓loadsK_n, ↓loadsR_s, ↓loadsR_n, ↓storesK_s, ↓storesK_n, setCells_c, setCells_n, World.setCell_alloc_at, World.setCell_alloc_past, World.cell?_alloc_at, World.cell?_alloc_past, 
      World.frozen?_alloc_at, World.frozen?_alloc_past, World.size_alloc, ↓xPick_t, ↓xPick_f, ↓xGuard_tt, ↓xGuard_ff, ↓xGuard_tf, ↓xGuard_ft, ↓xGuard_u, ↓xNil_r, Option.isNone_some, Option.isNone_none, ↓xIf_t, tick_eq, tickV_eq, ne_eq, 
      dlt_t, dlt_f, dle_t, dle_f, deq_t, deq_f, dne_t, dne_f, not_true_eq_false, Int.reduceAdd, Int.reduceSub, Int.reduceMul, Int.reduceEq, Int.reduceLT, Int.reduceLE, Bool.false_and, Bool.true_and, Bool.and_true, 
      Bool.and_false, ↓xBin_add', ↓xBin_sub', ↓xBin_mul', ↓xBin_quo', ↓xBin_rem', wrap_in, ↓xIf_f, ↓xIf_tt, ↓xEx0, ↓xEx1, ↓xEx2, ↓xEx3, ↓xBin_eqs, ↓xBin_nes, ↓xUn_not, ↓xu8_sub, ↓xu8_eql, ↓xu8_geq, ↓xu16_sub, ↓xu16_eql, ↓xu16_geq, 
      ↓xu32_sub, ↓xu32_eql, ↓xu32_geq, ↓xu64_sub, ↓xu64_eql, ↓xu64_geq, ↓xi64_geq, ↓xi64_eql, Int.toNat_natCast, Int.reduceToNat, Nat.reduceMul, Nat.reduceAdd, Nat.reduceSub, Nat.mul_one, List.nil_append, List.cons_append, 
      List.getElem?_toArray, List.getElem?_cons_zero, List.getElem?_cons_succ, cells_int, cells_bool, cells_string, cells_slice, cells_pointer, cells_agg, one_int, one_bool, one_string, one_slice, one_pointer, List.setIfInBounds_toArray, 
      List.set_cons_zero, List.set_cons_succ, ↓xDet_s, ↓xDet_ld, ↓xDet_ld2, ↓xDet_ld3, ↓xDet_ld4, World.size_drew, Nat.zero_add, Nat.add_zero, cell_drew, frozen_drew, cell_set_eq, cell_set_o, cell_set_b, Option.map_some, World.frozen?_setCell, 
      decide_true, decide_false, List.not_mem_nil, not_false_eq_true, ↓xGuard_tt, Bool.not_true, Bool.not_false, ←decide_not, ↓ln_51, ↓sh_51, ↓sl_51, eq_false g', hv]
        exact ⟨by trivial, Lq.refl _ _ _⟩
    · simp (disch := (first | omega | decide | (simp only [World.size_alloc, World.size_setCell, World.size_drew, List.mem_cons, List.not_mem_nil, or_false, not_false_eq_true] <;> omega) | fail)) only [↓xBox_r, ↓loadK_some, ↓loadsK_s, ↓loadsK_n, ↓loadsR_s, ↓loadsR_n, ↓storesK_s, ↓storesK_n, setCells_c, setCells_n, World.setCell_alloc_at, World.setCell_alloc_past, World.cell?_alloc_at, World.cell?_alloc_past, 
      World.frozen?_alloc_at, World.frozen?_alloc_past, World.size_alloc, ↓xPick_t, ↓xPick_f, ↓xGuard_tt, ↓xGuard_ff, ↓xGuard_tf, ↓xGuard_ft, ↓xGuard_u, ↓xNil_r, Option.isNone_some, Option.isNone_none, ↓xIf_t, tick_eq, tickV_eq, ne_eq, 
      dlt_t, dlt_f, dle_t, dle_f, deq_t, deq_f, dne_t, dne_f, not_true_eq_false, Int.reduceAdd, Int.reduceSub, Int.reduceMul, Int.reduceEq, Int.reduceLT, Int.reduceLE, Bool.false_and, Bool.true_and, Bool.and_true, 
      Bool.and_false, ↓xBin_add', ↓xBin_sub', ↓xBin_mul', ↓xBin_quo', ↓xBin_rem', wrap_in, ↓xIf_f, ↓xIf_tt, ↓xEx0, ↓xEx1, ↓xEx2, ↓xEx3, ↓xBin_eqs, ↓xBin_nes, ↓xUn_not, ↓xu8_sub, ↓xu8_eql, ↓xu8_geq, ↓xu16_sub, ↓xu16_eql, ↓xu16_geq, 
      ↓xu32_sub, ↓xu32_eql, ↓xu32_geq, ↓xu64_sub, ↓xu64_eql, ↓xu64_geq, ↓xi64_geq, ↓xi64_eql, Int.toNat_natCast, Int.reduceToNat, Nat.reduceMul, Nat.reduceAdd, Nat.reduceSub, Nat.mul_one, List.nil_append, List.cons_append, 
      List.getElem?_toArray, List.getElem?_cons_zero, List.getElem?_cons_succ, cells_int, cells_bool, cells_string, cells_slice, cells_pointer, cells_agg, one_int, one_bool, one_string, one_slice, one_pointer, List.setIfInBounds_toArray, 
      List.set_cons_zero, List.set_cons_succ, ↓xDet_s, ↓xDet_ld, ↓xDet_ld2, ↓xDet_ld3, ↓xDet_ld4, World.size_drew, Nat.zero_add, Nat.add_zero, cell_drew, frozen_drew, cell_set_eq, cell_set_o, cell_set_b, Option.map_some, World.frozen?_setCell, 
      decide_true, decide_false, List.not_mem_nil, not_false_eq_true, ↓xGuard_tt, Bool.not_true, Bool.not_false, ←decide_not, ↓ln_51, ↓sh_51, ↓sl_51, eq_false g', hv]
      refine xEndU_i fun uS w9 hw => ?_
      exact ⟨by rw [hv], (Ext.drew [] _).trans hw.ext⟩
theorem sums_flat : ∀ (ls : List (List (BitVec 8))) (s : BitVec 32), sumsV s ls = addV s ls.flatten
  | [], s => by simp [sumsV, addV, crcRun]
  | l :: ls, s => by
    have e : sumsV s (l :: ls) = sumsV (addV s l) ls := rfl
    rw [e, sums_flat ls, List.flatten_cons]
    simp [addV, crcRun, List.foldl_append]
theorem sums_all (ls : List (List (BitVec 8))) : sumsV (BitVec.ofNat 32 0) ls = sumV ls.flatten := sums_flat ls _
/-- the seal's bytes as a string -/
theorem seal_strand {w0 : World} {next : Value → Prop} {l : List (BitVec 8)} {a : Option Addr} {n c : Nat} (h : RowAt w0 a (bys l)) (hn : n = l.length) (hl : l.length ≤ 1000000) (hx : next (.string (strOf (sealV l)))) :
    xStr (fun N => xNon (Lq [] []) (Lq [] [] w0) (fun w K => xGuard (.bool true) true (fun w K => xCall Try.prog (fnv 35) [.slice a n c] w K) w K) fun t hh =>
      xDet (Lq [] []) (fun w => Lq [] [] w0 w ∧ hh w) (fun w K => xGuard (.bool true) true (fun w K => xConv Try.prog 51 9 t w K) w K) N) next := by
  refine xStr_x _ ?_ hx
  refine xNon_x (V := fun u w' => ∃ a c, u = .slice a (sealV l).length c ∧ RowAt w' a (bys (sealV l))) (fun u w1 w2 hV hq => ?_) (fun wq hq => ?_) fun u => xDet_x (fun wq hq => ?_) rfl
  · obtain ⟨a, c, e, hr⟩ := hV
    exact ⟨a, c, e, hr.ext0 hq.ext⟩
  · simp (disch := (first | omega | decide | (simp only [World.size_alloc, World.size_setCell, World.size_drew, List.mem_cons, List.not_mem_nil, or_false, not_false_eq_true] <;> omega) | fail)) only [↓xBox_r, ↓loadK_some, ↓loadsK_s, ↓loadsK_n, ↓loadsR_s, ↓loadsR_n, ↓storesK_s, ↓storesK_n, setCells_c, setCells_n, World.setCell_alloc_at, World.setCell_alloc_past, World.cell?_alloc_at, World.cell?_alloc_past, 
      World.frozen?_alloc_at, World.frozen?_alloc_past, World.size_alloc, ↓xPick_t, ↓xPick_f, ↓xGuard_tt, ↓xGuard_ff, ↓xGuard_tf, ↓xGuard_ft, ↓xGuard_u, ↓xNil_r, Option.isNone_some, Option.isNone_none, ↓xIf_t, tick_eq, tickV_eq, ne_eq, 
      dlt_t, dlt_f, dle_t, dle_f, deq_t, deq_f, dne_t, dne_f, not_true_eq_false, Int.reduceAdd, Int.reduceSub, Int.reduceMul, Int.reduceEq, Int.reduceLT, Int.reduceLE, Bool.false_and, Bool.true_and, Bool.and_true, 
      Bool.and_false, ↓xBin_add', ↓xBin_sub', ↓xBin_mul', ↓xBin_quo', ↓xBin_rem', wrap_in, ↓xIf_f, ↓xIf_tt, ↓xEx0, ↓xEx1, ↓xEx2, ↓xEx3, ↓xBin_eqs, ↓xBin_nes, ↓xUn_not, Int.toNat_natCast, Int.reduceToNat, Nat.reduceMul, Nat.reduceAdd, 
      Nat.reduceSub, Nat.mul_one, List.nil_append, List.cons_append, List.getElem?_toArray, List.getElem?_cons_zero, List.getElem?_cons_succ, cells_int, cells_bool, cells_string, cells_slice, cells_pointer, cells_agg, one_int, 
      one_bool, one_string, one_slice, one_pointer, List.setIfInBounds_toArray, List.set_cons_zero, List.set_cons_succ, ↓xDet_s, ↓xDet_ld, ↓xDet_ld2, ↓xDet_ld3, ↓xDet_ld4, World.size_drew, Nat.zero_add, Nat.add_zero, 
      cell_drew, frozen_drew, cell_set_eq, cell_set_o, cell_set_b, Option.map_some, World.frozen?_setCell, decide_true, decide_false, List.not_mem_nil, not_false_eq_true, ↓xGuard_tt, Bool.not_true, Bool.not_false, ←decide_not, eq_self, eq_self]
    refine crc_Seal_call (Yld.mono (Seal_spec l a n c wq hn hl (h.ext0 hq.ext)) ?_)
    rintro u w' ⟨F, b, c, e, h1, h2, h3⟩
    exact ⟨⟨_, c, e, h3⟩, Lq.of F⟩
  · obtain ⟨hq, aL, cL, rfl, hr⟩ := hq
    simp (disch := (first | omega | decide | (simp only [World.size_alloc, World.size_setCell, World.size_drew, List.mem_cons, List.not_mem_nil, or_false, not_false_eq_true] <;> omega) | fail)) only [↓xBox_r, ↓loadK_some, ↓loadsK_s, ↓loadsK_n, ↓loadsR_s, ↓loadsR_n, ↓storesK_s, ↓storesK_n, setCells_c, setCells_n, World.setCell_alloc_at, World.setCell_alloc_past, World.cell?_alloc_at, World.cell?_alloc_past, 
      World.frozen?_alloc_at, World.frozen?_alloc_past, World.size_alloc, ↓xPick_t, ↓xPick_f, ↓xGuard_tt, ↓xGuard_ff, ↓xGuard_tf, ↓xGuard_ft, ↓xGuard_u, ↓xNil_r, Option.isNone_some, Option.isNone_none, ↓xIf_t, tick_eq, tickV_eq, ne_eq, 
      dlt_t, dlt_f, dle_t, dle_f, deq_t, deq_f, dne_t, dne_f, not_true_eq_false, Int.reduceAdd, Int.reduceSub, Int.reduceMul, Int.reduceEq, Int.reduceLT, Int.reduceLE, Bool.false_and, Bool.true_and, Bool.and_true, 
      Bool.and_false, ↓xBin_add', ↓xBin_sub', ↓xBin_mul', ↓xBin_quo', ↓xBin_rem', wrap_in, ↓xIf_f, ↓xIf_tt, ↓xEx0, ↓xEx1, ↓xEx2, ↓xEx3, ↓xBin_eqs, ↓xBin_nes, ↓xUn_not, Int.toNat_natCast, Int.reduceToNat, Nat.reduceMul, Nat.reduceAdd, 
      Nat.reduceSub, Nat.mul_one, List.nil_append, List.cons_append, List.getElem?_toArray, List.getElem?_cons_zero, List.getElem?_cons_succ, cells_int, cells_bool, cells_string, cells_slice, cells_pointer, cells_agg, one_int, 
      one_bool, one_string, one_slice, one_pointer, List.setIfInBounds_toArray, List.set_cons_zero, List.set_cons_succ, ↓xDet_s, ↓xDet_ld, ↓xDet_ld2, ↓xDet_ld3, ↓xDet_ld4, World.size_drew, Nat.zero_add, Nat.add_zero, 
      cell_drew, frozen_drew, cell_set_eq, cell_set_o, cell_set_b, Option.map_some, World.frozen?_setCell, decide_true, decide_false, List.not_mem_nil, not_false_eq_true, ↓xGuard_tt, Bool.not_true, Bool.not_false, ←decide_not, eq_self, eq_self]
    rw [xConv_str (e := 5) (l := sealV l) (by kernel_rfl) (by kernel_rfl) (by kernel_rfl) rfl hr]
    exact ⟨rfl, Lq.refl _ _ _⟩
theorem rseal_strand {w0 : World} {next : Value → Prop} {l : List (BitVec 8)} {a : Option Addr} {n c : Nat} (h : RowAt w0 a (bys l)) (hn : n = l.length) (hl : l.length ≤ 1000000) (hnil : a = none → c = 0) (hx : next (.string (strOf (sealV l)))) :
    xStr (fun N => xNon (Lq [] []) (Lq [] [] w0) (fun w K => xGuard (.bool true) true (fun w K => xCall Try.prog (fnv 36) [.slice a n c] w K) w K) fun t hh =>
      xDet (Lq [] []) (fun w => Lq [] [] w0 w ∧ hh w) (fun w K => xGuard (.bool true) true (fun w K => xConv Try.prog 51 9 t w K) w K) N) next := by
  refine xStr_x _ ?_ hx
  refine xNon_x (V := fun u w' => ∃ a c, u = .slice a (sealV l).length c ∧ RowAt w' a (bys (sealV l))) (fun u w1 w2 hV hq => ?_) (fun wq hq => ?_) fun u => xDet_x (fun wq hq => ?_) rfl
  · obtain ⟨a, c, e, hr⟩ := hV
    exact ⟨a, c, e, hr.ext0 hq.ext⟩
  · simp (disch := (first | omega | decide | (simp only [World.size_alloc, World.size_setCell, World.size_drew, List.mem_cons, List.not_mem_nil, or_false, not_false_eq_true] <;> omega) | fail)) only [↓xBox_r, ↓loadK_some, ↓loadsK_s, ↓loadsK_n, ↓loadsR_s, ↓loadsR_n, ↓storesK_s, ↓storesK_n, setCells_c, setCells_n, World.setCell_alloc_at, World.setCell_alloc_past, World.cell?_alloc_at, World.cell?_alloc_past, 
      World.frozen?_alloc_at, World.frozen?_alloc_past, World.size_alloc, ↓xPick_t, ↓xPick_f, ↓xGuard_tt, ↓xGuard_ff, ↓xGuard_tf, ↓xGuard_ft, ↓xGuard_u, ↓xNil_r, Option.isNone_some, Option.isNone_none, ↓xIf_t, tick_eq, tickV_eq, ne_eq, 
      dlt_t, dlt_f, dle_t, dle_f, deq_t, deq_f, dne_t, dne_f, not_true_eq_false, Int.reduceAdd, Int.reduceSub, Int.reduceMul, Int.reduceEq, Int.reduceLT, Int.reduceLE, Bool.false_and, Bool.true_and, Bool.and_true, 
      Bool.and_false, ↓xBin_add', ↓xBin_sub', ↓xBin_mul', ↓xBin_quo', ↓xBin_rem', wrap_in, ↓xIf_f, ↓xIf_tt, ↓xEx0, ↓xEx1, ↓xEx2, ↓xEx3, ↓xBin_eqs, ↓xBin_nes, ↓xUn_not, Int.toNat_natCast, Int.reduceToNat, Nat.reduceMul, Nat.reduceAdd, 
      Nat.reduceSub, Nat.mul_one, List.nil_append, List.cons_append, List.getElem?_toArray, List.getElem?_cons_zero, List.getElem?_cons_succ, cells_int, cells_bool, cells_string, cells_slice, cells_pointer, cells_agg, one_int, 
      one_bool, one_string, one_slice, one_pointer, List.setIfInBounds_toArray, List.set_cons_zero, List.set_cons_succ, ↓xDet_s, ↓xDet_ld, ↓xDet_ld2, ↓xDet_ld3, ↓xDet_ld4, World.size_drew, Nat.zero_add, Nat.add_zero, 
      cell_drew, frozen_drew, cell_set_eq, cell_set_o, cell_set_b, Option.map_some, World.frozen?_setCell, decide_true, decide_false, List.not_mem_nil, not_false_eq_true, ↓xGuard_tt, Bool.not_true, Bool.not_false, ←decide_not, eq_self, eq_self]
    refine loamref2_Seal_call (Yld.mono (rSeal_spec l a n c wq hn hl (h.ext0 hq.ext) hnil) ?_)
    rintro u w' ⟨F, b, c, e, h1, h2, h3⟩
    exact ⟨⟨_, c, e, h2⟩, Lq.of F⟩
  · obtain ⟨hq, aL, cL, rfl, hr⟩ := hq
    simp (disch := (first | omega | decide | (simp only [World.size_alloc, World.size_setCell, World.size_drew, List.mem_cons, List.not_mem_nil, or_false, not_false_eq_true] <;> omega) | fail)) only [↓xBox_r, ↓loadK_some, ↓loadsK_s, ↓loadsK_n, ↓loadsR_s, ↓loadsR_n, ↓storesK_s, ↓storesK_n, setCells_c, setCells_n, World.setCell_alloc_at, World.setCell_alloc_past, World.cell?_alloc_at, World.cell?_alloc_past, 
      World.frozen?_alloc_at, World.frozen?_alloc_past, World.size_alloc, ↓xPick_t, ↓xPick_f, ↓xGuard_tt, ↓xGuard_ff, ↓xGuard_tf, ↓xGuard_ft, ↓xGuard_u, ↓xNil_r, Option.isNone_some, Option.isNone_none, ↓xIf_t, tick_eq, tickV_eq, ne_eq, 
      dlt_t, dlt_f, dle_t, dle_f, deq_t, deq_f, dne_t, dne_f, not_true_eq_false, Int.reduceAdd, Int.reduceSub, Int.reduceMul, Int.reduceEq, Int.reduceLT, Int.reduceLE, Bool.false_and, Bool.true_and, Bool.and_true, 
      Bool.and_false, ↓xBin_add', ↓xBin_sub', ↓xBin_mul', ↓xBin_quo', ↓xBin_rem', wrap_in, ↓xIf_f, ↓xIf_tt, ↓xEx0, ↓xEx1, ↓xEx2, ↓xEx3, ↓xBin_eqs, ↓xBin_nes, ↓xUn_not, Int.toNat_natCast, Int.reduceToNat, Nat.reduceMul, Nat.reduceAdd, 
      Nat.reduceSub, Nat.mul_one, List.nil_append, List.cons_append, List.getElem?_toArray, List.getElem?_cons_zero, List.getElem?_cons_succ, cells_int, cells_bool, cells_string, cells_slice, cells_pointer, cells_agg, one_int, 
      one_bool, one_string, one_slice, one_pointer, List.setIfInBounds_toArray, List.set_cons_zero, List.set_cons_succ, ↓xDet_s, ↓xDet_ld, ↓xDet_ld2, ↓xDet_ld3, ↓xDet_ld4, World.size_drew, Nat.zero_add, Nat.add_zero, 
      cell_drew, frozen_drew, cell_set_eq, cell_set_o, cell_set_b, Option.map_some, World.frozen?_setCell, decide_true, decide_false, List.not_mem_nil, not_false_eq_true, ↓xGuard_tt, Bool.not_true, Bool.not_false, ←decide_not, eq_self, eq_self]
    rw [xConv_str (e := 5) (l := sealV l) (by kernel_rfl) (by kernel_rfl) (by kernel_rfl) rfl hr]
    exact ⟨rfl, Lq.refl _ _ _⟩
theorem right_strand {w0 : World} {next : Value → Prop} {l : List (BitVec 8)} {a : Option Addr} {n c : Nat} (h : RowAt w0 a (bys l)) (hn : n = l.length) (hl : l.length ≤ 100000) (hx : next (.bool true)) :
    xStr (fun N => xNon (Lq [] []) (Lq [] [] w0) (fun w K => xGuard (.bool true) true (fun w K => xCall Try.prog (fnv 35) [.slice a n c] w K) w K) fun t hh =>
      xDet (Lq [] []) (fun w => Lq [] [] w0 w ∧ hh w) (fun w K => xGuard (.bool true) true (fun w K => xCall Try.prog (fnv 37) [t] w K) w K) N) next := by
  refine xStr_x _ ?_ hx
  refine xNon_x (V := fun u w' => ∃ a c, u = .slice a (sealV l).length c ∧ (sealV l).length ≤ c ∧ RowAt w' a (bys (sealV l))) (fun u w1 w2 hV hq => ?_) (fun wq hq => ?_) fun u => xDet_x (fun wq hq => ?_) rfl
  · obtain ⟨a, c, e, hc, hr⟩ := hV
    exact ⟨a, c, e, hc, hr.ext0 hq.ext⟩
  · simp (disch := (first | omega | decide | (simp only [World.size_alloc, World.size_setCell, World.size_drew, List.mem_cons, List.not_mem_nil, or_false, not_false_eq_true] <;> omega) | fail)) only [↓xBox_r, ↓loadK_some, ↓loadsK_s, ↓loadsK_n, ↓loadsR_s, ↓loadsR_n, ↓storesK_s, ↓storesK_n, setCells_c, setCells_n, World.setCell_alloc_at, World.setCell_alloc_past, World.cell?_alloc_at, World.cell?_alloc_past, 
      World.frozen?_alloc_at, World.frozen?_alloc_past, World.size_alloc, ↓xPick_t, ↓xPick_f, ↓xGuard_tt, ↓xGuard_ff, ↓xGuard_tf, ↓xGuard_ft, ↓xGuard_u, ↓xNil_r, Option.isNone_some, Option.isNone_none, ↓xIf_t, tick_eq, tickV_eq, ne_eq, 
      dlt_t, dlt_f, dle_t, dle_f, deq_t, deq_f, dne_t, dne_f, not_true_eq_false, Int.reduceAdd, Int.reduceSub, Int.reduceMul, Int.reduceEq, Int.reduceLT, Int.reduceLE, Bool.false_and, Bool.true_and, Bool.and_true, 
      Bool.and_false, ↓xBin_add', ↓xBin_sub', ↓xBin_mul', ↓xBin_quo', ↓xBin_rem', wrap_in, ↓xIf_f, ↓xIf_tt, ↓xEx0, ↓xEx1, ↓xEx2, ↓xEx3, ↓xBin_eqs, ↓xBin_nes, ↓xUn_not, Int.toNat_natCast, Int.reduceToNat, Nat.reduceMul, Nat.reduceAdd, 
      Nat.reduceSub, Nat.mul_one, List.nil_append, List.cons_append, List.getElem?_toArray, List.getElem?_cons_zero, List.getElem?_cons_succ, cells_int, cells_bool, cells_string, cells_slice, cells_pointer, cells_agg, one_int, 
      one_bool, one_string, one_slice, one_pointer, List.setIfInBounds_toArray, List.set_cons_zero, List.set_cons_succ, ↓xDet_s, ↓xDet_ld, ↓xDet_ld2, ↓xDet_ld3, ↓xDet_ld4, World.size_drew, Nat.zero_add, Nat.add_zero, 
      cell_drew, frozen_drew, cell_set_eq, cell_set_o, cell_set_b, Option.map_some, World.frozen?_setCell, decide_true, decide_false, List.not_mem_nil, not_false_eq_true, ↓xGuard_tt, Bool.not_true, Bool.not_false, ←decide_not, eq_self, eq_self]
    refine crc_Seal_call (Yld.mono (Seal_spec l a n c wq hn (by omega) (h.ext0 hq.ext)) ?_)
    rintro u w' ⟨F, b, c, e, h1, h2, h3⟩
    exact ⟨⟨_, c, e, h1, h3⟩, Lq.of F⟩
  · obtain ⟨hq, aL, cL, rfl, hc, hr⟩ := hq
    simp (disch := (first | omega | decide | (simp only [World.size_alloc, World.size_setCell, World.size_drew, List.mem_cons, List.not_mem_nil, or_false, not_false_eq_true] <;> omega) | fail)) only [↓xBox_r, ↓loadK_some, ↓loadsK_s, ↓loadsK_n, ↓loadsR_s, ↓loadsR_n, ↓storesK_s, ↓storesK_n, setCells_c, setCells_n, World.setCell_alloc_at, World.setCell_alloc_past, World.cell?_alloc_at, World.cell?_alloc_past, 
      World.frozen?_alloc_at, World.frozen?_alloc_past, World.size_alloc, ↓xPick_t, ↓xPick_f, ↓xGuard_tt, ↓xGuard_ff, ↓xGuard_tf, ↓xGuard_ft, ↓xGuard_u, ↓xNil_r, Option.isNone_some, Option.isNone_none, ↓xIf_t, tick_eq, tickV_eq, ne_eq, 
      dlt_t, dlt_f, dle_t, dle_f, deq_t, deq_f, dne_t, dne_f, not_true_eq_false, Int.reduceAdd, Int.reduceSub, Int.reduceMul, Int.reduceEq, Int.reduceLT, Int.reduceLE, Bool.false_and, Bool.true_and, Bool.and_true, 
      Bool.and_false, ↓xBin_add', ↓xBin_sub', ↓xBin_mul', ↓xBin_quo', ↓xBin_rem', wrap_in, ↓xIf_f, ↓xIf_tt, ↓xEx0, ↓xEx1, ↓xEx2, ↓xEx3, ↓xBin_eqs, ↓xBin_nes, ↓xUn_not, Int.toNat_natCast, Int.reduceToNat, Nat.reduceMul, Nat.reduceAdd, 
      Nat.reduceSub, Nat.mul_one, List.nil_append, List.cons_append, List.getElem?_toArray, List.getElem?_cons_zero, List.getElem?_cons_succ, cells_int, cells_bool, cells_string, cells_slice, cells_pointer, cells_agg, one_int, 
      one_bool, one_string, one_slice, one_pointer, List.setIfInBounds_toArray, List.set_cons_zero, List.set_cons_succ, ↓xDet_s, ↓xDet_ld, ↓xDet_ld2, ↓xDet_ld3, ↓xDet_ld4, World.size_drew, Nat.zero_add, Nat.add_zero, 
      cell_drew, frozen_drew, cell_set_eq, cell_set_o, cell_set_b, Option.map_some, World.frozen?_setCell, decide_true, decide_false, List.not_mem_nil, not_false_eq_true, ↓xGuard_tt, Bool.not_true, Bool.not_false, ←decide_not, eq_self, eq_self]
    have := Right_spec2 (sealV l) aL (sealV l).length cL wq rfl hc (by rw [sealV_length]; omega) hr
    rw [right_seal] at this
    exact crc_Right_call (Gives.lq this)
theorem SumsAny_spec (ps : List Part) (a : Option Addr) (n c : Nat) (l : List (BitVec 8)) (a' : Option Addr) (n' c' : Nat) (w : World) (ha : PartsArg w ps a n c) (hb : BytesArg w l a' n' c') :
    Gives Try.prog n_loamlaw2_SumsAny #[.slice a n c, .slice a' n' c'] w (.bool true) := by
  obtain ⟨rfl, hcap, -, hnil, h, hps⟩ := ha
  obtain ⟨rfl, hcap', -, hnil', h'⟩ := hb
  refine loamlaw2_SumsAny_of ?_
  unfold loamlaw2_SumsAny
  refine loamlaw2_known_call (Gives.to (known2_spec _) fun w1 E1 => ?_)
  have z1 := E1.size
  try simp only [World.size_alloc, World.size_setCell, World.size_drew] at z1
  simp (disch := (first | omega | decide | (simp only [World.size_alloc, World.size_setCell, World.size_drew, List.mem_cons, List.not_mem_nil, or_false, not_false_eq_true] <;> omega) | fail)) only [↓xBox_r, ↓loadK_some, ↓loadsK_s, ↓loadsK_n, ↓loadsR_s, ↓loadsR_n, ↓storesK_s, ↓storesK_n, setCells_c, setCells_n, World.setCell_alloc_at, World.setCell_alloc_past, World.cell?_alloc_at, World.cell?_alloc_past, 
      World.frozen?_alloc_at, World.frozen?_alloc_past, World.size_alloc, ↓xPick_t, ↓xPick_f, ↓xGuard_tt, ↓xGuard_ff, ↓xGuard_tf, ↓xGuard_ft, ↓xGuard_u, ↓xNil_r, Option.isNone_some, Option.isNone_none, ↓xIf_t, tick_eq, tickV_eq, ne_eq, 
      dlt_t, dlt_f, dle_t, dle_f, deq_t, deq_f, dne_t, dne_f, not_true_eq_false, Int.reduceAdd, Int.reduceSub, Int.reduceMul, Int.reduceEq, Int.reduceLT, Int.reduceLE, Bool.false_and, Bool.true_and, Bool.and_true, 
      Bool.and_false, ↓xBin_add', ↓xBin_sub', ↓xBin_mul', ↓xBin_quo', ↓xBin_rem', wrap_in, ↓xIf_f, ↓xIf_tt, ↓xEx0, ↓xEx1, ↓xEx2, ↓xEx3, ↓xBin_eqs, ↓xBin_nes, ↓xUn_not, ↓xu8_add, ↓xu8_com, ↓xu8_eql, ↓xu8_lss, ↓xu8_gtr, ↓xu16_add, 
      ↓xu16_com, ↓xu16_eql, ↓xu16_lss, ↓xu16_gtr, ↓xu32_add, ↓xu32_com, ↓xu32_eql, ↓xu32_lss, ↓xu32_gtr, ↓xu64_add, ↓xu64_com, ↓xu64_eql, ↓xu64_lss, ↓xu64_gtr, ↓xi64_lss, ↓xi64_gtr, ↓xi64_eql, Int.toNat_natCast, Int.reduceToNat, 
      Nat.reduceMul, Nat.reduceAdd, Nat.reduceSub, Nat.mul_one, List.nil_append, List.cons_append, List.getElem?_toArray, List.getElem?_cons_zero, List.getElem?_cons_succ, cells_int, cells_bool, cells_string, cells_slice, 
      cells_pointer, cells_agg, one_int, one_bool, one_string, one_slice, one_pointer, List.setIfInBounds_toArray, List.set_cons_zero, List.set_cons_succ, ↓xDet_s, ↓xDet_ld, ↓xDet_ld2, ↓xDet_ld3, ↓xDet_ld4, World.size_drew, 
      Nat.zero_add, Nat.add_zero, cell_drew, frozen_drew, cell_set_eq, cell_set_o, cell_set_b, Option.map_some, World.frozen?_setCell, decide_true, decide_false, List.not_mem_nil, not_false_eq_true, ↓xGuard_tt, Bool.not_true, 
      Bool.not_false, ←decide_not, ↓ld_51, ↓eb_4, ↓nb_4, ↓ia_50, ↓ln_50, ↓ln_51, eq_self]
  by_cases g1 : 20 < (ps.length : Int)
  · simp (disch := (first | omega | decide | (simp only [World.size_alloc, World.size_setCell, World.size_drew, List.mem_cons, List.not_mem_nil, or_false, not_false_eq_true] <;> omega) | fail)) only [↓xBox_r, ↓loadK_some, ↓loadsK_s, ↓loadsK_n, ↓loadsR_s, ↓loadsR_n, ↓storesK_s, ↓storesK_n, setCells_c, setCells_n, World.setCell_alloc_at, World.setCell_alloc_past, World.cell?_alloc_at, World.cell?_alloc_past, 
      World.frozen?_alloc_at, World.frozen?_alloc_past, World.size_alloc, ↓xPick_t, ↓xPick_f, ↓xGuard_tt, ↓xGuard_ff, ↓xGuard_tf, ↓xGuard_ft, ↓xGuard_u, ↓xNil_r, Option.isNone_some, Option.isNone_none, ↓xIf_t, tick_eq, tickV_eq, ne_eq, 
      dlt_t, dlt_f, dle_t, dle_f, deq_t, deq_f, dne_t, dne_f, not_true_eq_false, Int.reduceAdd, Int.reduceSub, Int.reduceMul, Int.reduceEq, Int.reduceLT, Int.reduceLE, Bool.false_and, Bool.true_and, Bool.and_true, 
      Bool.and_false, ↓xBin_add', ↓xBin_sub', ↓xBin_mul', ↓xBin_quo', ↓xBin_rem', wrap_in, ↓xIf_f, ↓xIf_tt, ↓xEx0, ↓xEx1, ↓xEx2, ↓xEx3, ↓xBin_eqs, ↓xBin_nes, ↓xUn_not, ↓xu8_add, ↓xu8_com, ↓xu8_eql, ↓xu8_lss, ↓xu8_gtr, ↓xu16_add, 
      ↓xu16_com, ↓xu16_eql, ↓xu16_lss, ↓xu16_gtr, ↓xu32_add, ↓xu32_com, ↓xu32_eql, ↓xu32_lss, ↓xu32_gtr, ↓xu64_add, ↓xu64_com, ↓xu64_eql, ↓xu64_lss, ↓xu64_gtr, ↓xi64_lss, ↓xi64_gtr, ↓xi64_eql, Int.toNat_natCast, Int.reduceToNat, 
      Nat.reduceMul, Nat.reduceAdd, Nat.reduceSub, Nat.mul_one, List.nil_append, List.cons_append, List.getElem?_toArray, List.getElem?_cons_zero, List.getElem?_cons_succ, cells_int, cells_bool, cells_string, cells_slice, 
      cells_pointer, cells_agg, one_int, one_bool, one_string, one_slice, one_pointer, List.setIfInBounds_toArray, List.set_cons_zero, List.set_cons_succ, ↓xDet_s, ↓xDet_ld, ↓xDet_ld2, ↓xDet_ld3, ↓xDet_ld4, World.size_drew, 
      Nat.zero_add, Nat.add_zero, cell_drew, frozen_drew, cell_set_eq, cell_set_o, cell_set_b, Option.map_some, World.frozen?_setCell, decide_true, decide_false, List.not_mem_nil, not_false_eq_true, ↓xGuard_tt, Bool.not_true, 
      Bool.not_false, ←decide_not, ↓ld_51, ↓eb_4, ↓nb_4, ↓ia_50, ↓ln_50, ↓ln_51, eq_self, g1]
    exact ⟨by trivial, by (repeat (first | with_reducible exact Ext.refl _ _ | with_reducible assumption | with_reducible refine Ext.alloc' ?_ _ | with_reducible refine Ext.drew' ?_ | with_reducible refine Ext.set' ?_ ?_ | exact .inr (by first | omega | (simp only [World.size_alloc, World.size_drew, World.size_setCell] <;> omega)) | refine Ext.trans ?_ (by with_reducible assumption)))⟩
  by_cases g2 : 1000 < (l.length : Int)
  · simp (disch := (first | omega | decide | (simp only [World.size_alloc, World.size_setCell, World.size_drew, List.mem_cons, List.not_mem_nil, or_false, not_false_eq_true] <;> omega) | fail)) only [↓xBox_r, ↓loadK_some, ↓loadsK_s, ↓loadsK_n, ↓loadsR_s, ↓loadsR_n, ↓storesK_s, ↓storesK_n, setCells_c, setCells_n, World.setCell_alloc_at, World.setCell_alloc_past, World.cell?_alloc_at, World.cell?_alloc_past, 
      World.frozen?_alloc_at, World.frozen?_alloc_past, World.size_alloc, ↓xPick_t, ↓xPick_f, ↓xGuard_tt, ↓xGuard_ff, ↓xGuard_tf, ↓xGuard_ft, ↓xGuard_u, ↓xNil_r, Option.isNone_some, Option.isNone_none, ↓xIf_t, tick_eq, tickV_eq, ne_eq, 
      dlt_t, dlt_f, dle_t, dle_f, deq_t, deq_f, dne_t, dne_f, not_true_eq_false, Int.reduceAdd, Int.reduceSub, Int.reduceMul, Int.reduceEq, Int.reduceLT, Int.reduceLE, Bool.false_and, Bool.true_and, Bool.and_true, 
      Bool.and_false, ↓xBin_add', ↓xBin_sub', ↓xBin_mul', ↓xBin_quo', ↓xBin_rem', wrap_in, ↓xIf_f, ↓xIf_tt, ↓xEx0, ↓xEx1, ↓xEx2, ↓xEx3, ↓xBin_eqs, ↓xBin_nes, ↓xUn_not, ↓xu8_add, ↓xu8_com, ↓xu8_eql, ↓xu8_lss, ↓xu8_gtr, ↓xu16_add, 
      ↓xu16_com, ↓xu16_eql, ↓xu16_lss, ↓xu16_gtr, ↓xu32_add, ↓xu32_com, ↓xu32_eql, ↓xu32_lss, ↓xu32_gtr, ↓xu64_add, ↓xu64_com, ↓xu64_eql, ↓xu64_lss, ↓xu64_gtr, ↓xi64_lss, ↓xi64_gtr, ↓xi64_eql, Int.toNat_natCast, Int.reduceToNat, 
      Nat.reduceMul, Nat.reduceAdd, Nat.reduceSub, Nat.mul_one, List.nil_append, List.cons_append, List.getElem?_toArray, List.getElem?_cons_zero, List.getElem?_cons_succ, cells_int, cells_bool, cells_string, cells_slice, 
      cells_pointer, cells_agg, one_int, one_bool, one_string, one_slice, one_pointer, List.setIfInBounds_toArray, List.set_cons_zero, List.set_cons_succ, ↓xDet_s, ↓xDet_ld, ↓xDet_ld2, ↓xDet_ld3, ↓xDet_ld4, World.size_drew, 
      Nat.zero_add, Nat.add_zero, cell_drew, frozen_drew, cell_set_eq, cell_set_o, cell_set_b, Option.map_some, World.frozen?_setCell, decide_true, decide_false, List.not_mem_nil, not_false_eq_true, ↓xGuard_tt, Bool.not_true, 
      Bool.not_false, ←decide_not, ↓ld_51, ↓eb_4, ↓nb_4, ↓ia_50, ↓ln_50, ↓ln_51, g1, g2]
    exact ⟨by trivial, by (repeat (first | with_reducible exact Ext.refl _ _ | with_reducible assumption | with_reducible refine Ext.alloc' ?_ _ | with_reducible refine Ext.drew' ?_ | with_reducible refine Ext.set' ?_ ?_ | exact .inr (by first | omega | (simp only [World.size_alloc, World.size_drew, World.size_setCell] <;> omega)) | refine Ext.trans ?_ (by with_reducible assumption)))⟩
  simp (disch := (first | omega | decide | (simp only [World.size_alloc, World.size_setCell, World.size_drew, List.mem_cons, List.not_mem_nil, or_false, not_false_eq_true] <;> omega) | fail)) only [↓xBox_r, ↓loadK_some, ↓loadsK_s, ↓loadsK_n, ↓loadsR_s, ↓loadsR_n, ↓storesK_s, ↓storesK_n, setCells_c, setCells_n, World.setCell_alloc_at, World.setCell_alloc_past, World.cell?_alloc_at, World.cell?_alloc_past, 
      World.frozen?_alloc_at, World.frozen?_alloc_past, World.size_alloc, ↓xPick_t, ↓xPick_f, ↓xGuard_tt, ↓xGuard_ff, ↓xGuard_tf, ↓xGuard_ft, ↓xGuard_u, ↓xNil_r, Option.isNone_some, Option.isNone_none, ↓xIf_t, tick_eq, tickV_eq, ne_eq, 
      dlt_t, dlt_f, dle_t, dle_f, deq_t, deq_f, dne_t, dne_f, not_true_eq_false, Int.reduceAdd, Int.reduceSub, Int.reduceMul, Int.reduceEq, Int.reduceLT, Int.reduceLE, Bool.false_and, Bool.true_and, Bool.and_true, 
      Bool.and_false, ↓xBin_add', ↓xBin_sub', ↓xBin_mul', ↓xBin_quo', ↓xBin_rem', wrap_in, ↓xIf_f, ↓xIf_tt, ↓xEx0, ↓xEx1, ↓xEx2, ↓xEx3, ↓xBin_eqs, ↓xBin_nes, ↓xUn_not, ↓xu8_add, ↓xu8_com, ↓xu8_eql, ↓xu8_lss, ↓xu8_gtr, ↓xu16_add, 
      ↓xu16_com, ↓xu16_eql, ↓xu16_lss, ↓xu16_gtr, ↓xu32_add, ↓xu32_com, ↓xu32_eql, ↓xu32_lss, ↓xu32_gtr, ↓xu64_add, ↓xu64_com, ↓xu64_eql, ↓xu64_lss, ↓xu64_gtr, ↓xi64_lss, ↓xi64_gtr, ↓xi64_eql, Int.toNat_natCast, Int.reduceToNat, 
      Nat.reduceMul, Nat.reduceAdd, Nat.reduceSub, Nat.mul_one, List.nil_append, List.cons_append, List.getElem?_toArray, List.getElem?_cons_zero, List.getElem?_cons_succ, cells_int, cells_bool, cells_string, cells_slice, 
      cells_pointer, cells_agg, one_int, one_bool, one_string, one_slice, one_pointer, List.setIfInBounds_toArray, List.set_cons_zero, List.set_cons_succ, ↓xDet_s, ↓xDet_ld, ↓xDet_ld2, ↓xDet_ld3, ↓xDet_ld4, World.size_drew, 
      Nat.zero_add, Nat.add_zero, cell_drew, frozen_drew, cell_set_eq, cell_set_o, cell_set_b, Option.map_some, World.frozen?_setCell, decide_true, decide_false, List.not_mem_nil, not_false_eq_true, ↓xGuard_tt, Bool.not_true, 
      Bool.not_false, ←decide_not, ↓ld_51, ↓eb_4, ↓nb_4, ↓ia_50, ↓ln_50, ↓ln_51, g1, g2]
  refine crc_Sum_call (Gives.to (Sum_spec [] none 0 0 w1 rfl (by decide) ⟨RowAt.nil, by simp⟩) fun w2 F2 => ?_)
  have G2 := E1.trans F2
  refine xLoop_r ps.length (fun k vs v => ∃ s, vs = [s, u32 (sumsV (BitVec.ofNat 32 0) ((ps.map (·.2.2)).take k)), i64 k] ∧ Ext [] w2 v ∧ v.ownsRow w2.heap.size 5 1 s ((ps.map (·.2.2)).take k).flatten.length (bys ((ps.map (·.2.2)).take k).flatten) ∧
    ((ps.map (·.2.2)).take k).flatten.length ≤ 300 * k ∧ ∀ p ∈ ps.take k, p.2.2.length ≤ 300) ⟨.slice none 0 0, rfl, Ext.refl _ _, World.ownsRow_nil _ _ _ _, by simp, by simp⟩ ?_ ?_
  · rintro k hk u v ⟨s, hu, F, O, hle, hsm⟩ nxt hnx
    simp only [List.map_cons, List.map_nil, List.cons.injEq, and_true] at hu
    obtain ⟨q1, q2, q3⟩ := hu
    rw [q1, q2, q3]
    unfold loamlaw2_SumsAny_l1
    have hz := F.size
    have hv := (h.ext0 G2).ext0 F
    obtain ⟨b, o, rfl, hb1, hc⟩ := hv.at (i := k) (by simpa using hk)
    simp only [List.getElem_map] at hc
    obtain ⟨hr, hpc, hpm, hpn⟩ := hps ps[k] (by simp)
    have hr2 := (hr.ext0 G2).ext0 F
    by_cases g : 300 < (ps[k].2.2.length : Int)
    · simp (disch := (first | omega | decide | (simp only [World.size_alloc, World.size_setCell, World.size_drew, List.mem_cons, List.not_mem_nil, or_false, not_false_eq_true] <;> omega) | fail)) only [↓xBox_r, ↓loadK_some, ↓loadsK_s, ↓loadsK_n, ↓loadsR_s, ↓loadsR_n, ↓storesK_s, ↓storesK_n, setCells_c, setCells_n, World.setCell_alloc_at, World.setCell_alloc_past, World.cell?_alloc_at, World.cell?_alloc_past, 
      World.frozen?_alloc_at, World.frozen?_alloc_past, World.size_alloc, ↓xPick_t, ↓xPick_f, ↓xGuard_tt, ↓xGuard_ff, ↓xGuard_tf, ↓xGuard_ft, ↓xGuard_u, ↓xNil_r, Option.isNone_some, Option.isNone_none, ↓xIf_t, tick_eq, tickV_eq, ne_eq, 
      dlt_t, dlt_f, dle_t, dle_f, deq_t, deq_f, dne_t, dne_f, not_true_eq_false, Int.reduceAdd, Int.reduceSub, Int.reduceMul, Int.reduceEq, Int.reduceLT, Int.reduceLE, Bool.false_and, Bool.true_and, Bool.and_true, 
      Bool.and_false, ↓xBin_add', ↓xBin_sub', ↓xBin_mul', ↓xBin_quo', ↓xBin_rem', wrap_in, ↓xIf_f, ↓xIf_tt, ↓xEx0, ↓xEx1, ↓xEx2, ↓xEx3, ↓xBin_eqs, ↓xBin_nes, ↓xUn_not, ↓xu8_add, ↓xu8_com, ↓xu8_eql, ↓xu8_lss, ↓xu8_gtr, ↓xu16_add, 
      ↓xu16_com, ↓xu16_eql, ↓xu16_lss, ↓xu16_gtr, ↓xu32_add, ↓xu32_com, ↓xu32_eql, ↓xu32_lss, ↓xu32_gtr, ↓xu64_add, ↓xu64_com, ↓xu64_eql, ↓xu64_lss, ↓xu64_gtr, ↓xi64_lss, ↓xi64_gtr, ↓xi64_eql, Int.toNat_natCast, Int.reduceToNat, 
      Nat.reduceMul, Nat.reduceAdd, Nat.reduceSub, Nat.mul_one, List.nil_append, List.cons_append, List.getElem?_toArray, List.getElem?_cons_zero, List.getElem?_cons_succ, cells_int, cells_bool, cells_string, cells_slice, 
      cells_pointer, cells_agg, one_int, one_bool, one_string, one_slice, one_pointer, List.setIfInBounds_toArray, List.set_cons_zero, List.set_cons_succ, ↓xDet_s, ↓xDet_ld, ↓xDet_ld2, ↓xDet_ld3, ↓xDet_ld4, World.size_drew, 
      Nat.zero_add, Nat.add_zero, cell_drew, frozen_drew, cell_set_eq, cell_set_o, cell_set_b, Option.map_some, World.frozen?_setCell, decide_true, decide_false, List.not_mem_nil, not_false_eq_true, ↓xGuard_tt, Bool.not_true, 
      Bool.not_false, ←decide_not, ↓ld_51, ↓eb_4, ↓nb_4, ↓ia_50, ↓ln_50, ↓ln_51, g1, g2, hc, g]
      exact ⟨by trivial, G2.trans F⟩
    · simp (disch := (first | omega | decide | (simp only [World.size_alloc, World.size_setCell, World.size_drew, List.mem_cons, List.not_mem_nil, or_false, not_false_eq_true] <;> omega) | fail)) only [↓xBox_r, ↓loadK_some, ↓loadsK_s, ↓loadsK_n, ↓loadsR_s, ↓loadsR_n, ↓storesK_s, ↓storesK_n, setCells_c, setCells_n, World.setCell_alloc_at, World.setCell_alloc_past, World.cell?_alloc_at, World.cell?_alloc_past, 
      World.frozen?_alloc_at, World.frozen?_alloc_past, World.size_alloc, ↓xPick_t, ↓xPick_f, ↓xGuard_tt, ↓xGuard_ff, ↓xGuard_tf, ↓xGuard_ft, ↓xGuard_u, ↓xNil_r, Option.isNone_some, Option.isNone_none, ↓xIf_t, tick_eq, tickV_eq, ne_eq, 
      dlt_t, dlt_f, dle_t, dle_f, deq_t, deq_f, dne_t, dne_f, not_true_eq_false, Int.reduceAdd, Int.reduceSub, Int.reduceMul, Int.reduceEq, Int.reduceLT, Int.reduceLE, Bool.false_and, Bool.true_and, Bool.and_true, 
      Bool.and_false, ↓xBin_add', ↓xBin_sub', ↓xBin_mul', ↓xBin_quo', ↓xBin_rem', wrap_in, ↓xIf_f, ↓xIf_tt, ↓xEx0, ↓xEx1, ↓xEx2, ↓xEx3, ↓xBin_eqs, ↓xBin_nes, ↓xUn_not, ↓xu8_add, ↓xu8_com, ↓xu8_eql, ↓xu8_lss, ↓xu8_gtr, ↓xu16_add, 
      ↓xu16_com, ↓xu16_eql, ↓xu16_lss, ↓xu16_gtr, ↓xu32_add, ↓xu32_com, ↓xu32_eql, ↓xu32_lss, ↓xu32_gtr, ↓xu64_add, ↓xu64_com, ↓xu64_eql, ↓xu64_lss, ↓xu64_gtr, ↓xi64_lss, ↓xi64_gtr, ↓xi64_eql, Int.toNat_natCast, Int.reduceToNat, 
      Nat.reduceMul, Nat.reduceAdd, Nat.reduceSub, Nat.mul_one, List.nil_append, List.cons_append, List.getElem?_toArray, List.getElem?_cons_zero, List.getElem?_cons_succ, cells_int, cells_bool, cells_string, cells_slice, 
      cells_pointer, cells_agg, one_int, one_bool, one_string, one_slice, one_pointer, List.setIfInBounds_toArray, List.set_cons_zero, List.set_cons_succ, ↓xDet_s, ↓xDet_ld, ↓xDet_ld2, ↓xDet_ld3, ↓xDet_ld4, World.size_drew, 
      Nat.zero_add, Nat.add_zero, cell_drew, frozen_drew, cell_set_eq, cell_set_o, cell_set_b, Option.map_some, World.frozen?_setCell, decide_true, decide_false, List.not_mem_nil, not_false_eq_true, ↓xGuard_tt, Bool.not_true, 
      Bool.not_false, ←decide_not, ↓ld_51, ↓eb_4, ↓nb_4, ↓ia_50, ↓ln_50, ↓ln_51, g1, g2, hc, g]
      refine xAppend_own (e := 5) (base := w2.heap.size) (news := bys ps[k].2.2) (z := .int .u8 0) (bytes := 1) (by kernel_rfl) (by kernel_rfl) (by rfl) O (by simp) hr2 hpn (by simp [Value.oneCell']) (by omega) (by omega) F.size ?_
      intro v5 w5 hown5 hgr5
      have F5 : Ext [] w2 w5 := grownBy_new F hgr5 (fun k hk => (O.lt k hk).1)
      obtain ⟨b2, o2, e2, hb2, hc2⟩ := ((h.ext0 G2).ext0 F5).at (i := k) (by simpa using hk)
      cases e2
      simp only [List.getElem_map] at hc2
      simp (disch := (first | omega | decide | (simp only [World.size_alloc, World.size_setCell, World.size_drew, List.mem_cons, List.not_mem_nil, or_false, not_false_eq_true] <;> omega) | fail)) only [↓xBox_r, ↓loadK_some, ↓loadsK_s, ↓loadsK_n, ↓loadsR_s, ↓loadsR_n, ↓storesK_s, ↓storesK_n, setCells_c, setCells_n, World.setCell_alloc_at, World.setCell_alloc_past, World.cell?_alloc_at, World.cell?_alloc_past, 
      World.frozen?_alloc_at, World.frozen?_alloc_past, World.size_alloc, ↓xPick_t, ↓xPick_f, ↓xGuard_tt, ↓xGuard_ff, ↓xGuard_tf, ↓xGuard_ft, ↓xGuard_u, ↓xNil_r, Option.isNone_some, Option.isNone_none, ↓xIf_t, tick_eq, tickV_eq, ne_eq, 
      dlt_t, dlt_f, dle_t, dle_f, deq_t, deq_f, dne_t, dne_f, not_true_eq_false, Int.reduceAdd, Int.reduceSub, Int.reduceMul, Int.reduceEq, Int.reduceLT, Int.reduceLE, Bool.false_and, Bool.true_and, Bool.and_true, 
      Bool.and_false, ↓xBin_add', ↓xBin_sub', ↓xBin_mul', ↓xBin_quo', ↓xBin_rem', wrap_in, ↓xIf_f, ↓xIf_tt, ↓xEx0, ↓xEx1, ↓xEx2, ↓xEx3, ↓xBin_eqs, ↓xBin_nes, ↓xUn_not, ↓xu8_add, ↓xu8_com, ↓xu8_eql, ↓xu8_lss, ↓xu8_gtr, ↓xu16_add, 
      ↓xu16_com, ↓xu16_eql, ↓xu16_lss, ↓xu16_gtr, ↓xu32_add, ↓xu32_com, ↓xu32_eql, ↓xu32_lss, ↓xu32_gtr, ↓xu64_add, ↓xu64_com, ↓xu64_eql, ↓xu64_lss, ↓xu64_gtr, ↓xi64_lss, ↓xi64_gtr, ↓xi64_eql, Int.toNat_natCast, Int.reduceToNat, 
      Nat.reduceMul, Nat.reduceAdd, Nat.reduceSub, Nat.mul_one, List.nil_append, List.cons_append, List.getElem?_toArray, List.getElem?_cons_zero, List.getElem?_cons_succ, cells_int, cells_bool, cells_string, cells_slice, 
      cells_pointer, cells_agg, one_int, one_bool, one_string, one_slice, one_pointer, List.setIfInBounds_toArray, List.set_cons_zero, List.set_cons_succ, ↓xDet_s, ↓xDet_ld, ↓xDet_ld2, ↓xDet_ld3, ↓xDet_ld4, World.size_drew, 
      Nat.zero_add, Nat.add_zero, cell_drew, frozen_drew, cell_set_eq, cell_set_o, cell_set_b, Option.map_some, World.frozen?_setCell, decide_true, decide_false, List.not_mem_nil, not_false_eq_true, ↓xGuard_tt, Bool.not_true, 
      Bool.not_false, ←decide_not, ↓ld_51, ↓eb_4, ↓nb_4, ↓ia_50, ↓ln_50, ↓ln_51, g1, g2, hc, g, hc2]
      refine crc_Add_call (Gives.to (Add_spec _ _ _ _ _ w5 rfl (by omega) ((hr.ext0 G2).ext0 F5)) fun w6 F6 => ?_)
      simp (disch := (first | omega | decide | (simp only [World.size_alloc, World.size_setCell, World.size_drew, List.mem_cons, List.not_mem_nil, or_false, not_false_eq_true] <;> omega) | fail)) only [↓xBox_r, ↓loadK_some, ↓loadsK_s, ↓loadsK_n, ↓loadsR_s, ↓loadsR_n, ↓storesK_s, ↓storesK_n, setCells_c, setCells_n, World.setCell_alloc_at, World.setCell_alloc_past, World.cell?_alloc_at, World.cell?_alloc_past, 
      World.frozen?_alloc_at, World.frozen?_alloc_past, World.size_alloc, ↓xPick_t, ↓xPick_f, ↓xGuard_tt, ↓xGuard_ff, ↓xGuard_tf, ↓xGuard_ft, ↓xGuard_u, ↓xNil_r, Option.isNone_some, Option.isNone_none, ↓xIf_t, tick_eq, tickV_eq, ne_eq, 
      dlt_t, dlt_f, dle_t, dle_f, deq_t, deq_f, dne_t, dne_f, not_true_eq_false, Int.reduceAdd, Int.reduceSub, Int.reduceMul, Int.reduceEq, Int.reduceLT, Int.reduceLE, Bool.false_and, Bool.true_and, Bool.and_true, 
      Bool.and_false, ↓xBin_add', ↓xBin_sub', ↓xBin_mul', ↓xBin_quo', ↓xBin_rem', wrap_in, ↓xIf_f, ↓xIf_tt, ↓xEx0, ↓xEx1, ↓xEx2, ↓xEx3, ↓xBin_eqs, ↓xBin_nes, ↓xUn_not, ↓xu8_add, ↓xu8_com, ↓xu8_eql, ↓xu8_lss, ↓xu8_gtr, ↓xu16_add, 
      ↓xu16_com, ↓xu16_eql, ↓xu16_lss, ↓xu16_gtr, ↓xu32_add, ↓xu32_com, ↓xu32_eql, ↓xu32_lss, ↓xu32_gtr, ↓xu64_add, ↓xu64_com, ↓xu64_eql, ↓xu64_lss, ↓xu64_gtr, ↓xi64_lss, ↓xi64_gtr, ↓xi64_eql, Int.toNat_natCast, Int.reduceToNat, 
      Nat.reduceMul, Nat.reduceAdd, Nat.reduceSub, Nat.mul_one, List.nil_append, List.cons_append, List.getElem?_toArray, List.getElem?_cons_zero, List.getElem?_cons_succ, cells_int, cells_bool, cells_string, cells_slice, 
      cells_pointer, cells_agg, one_int, one_bool, one_string, one_slice, one_pointer, List.setIfInBounds_toArray, List.set_cons_zero, List.set_cons_succ, ↓xDet_s, ↓xDet_ld, ↓xDet_ld2, ↓xDet_ld3, ↓xDet_ld4, World.size_drew, 
      Nat.zero_add, Nat.add_zero, cell_drew, frozen_drew, cell_set_eq, cell_set_o, cell_set_b, Option.map_some, World.frozen?_setCell, decide_true, decide_false, List.not_mem_nil, not_false_eq_true, ↓xGuard_tt, Bool.not_true, 
      Bool.not_false, ←decide_not, ↓ld_51, ↓eb_4, ↓nb_4, ↓ia_50, ↓ln_50, ↓ln_51, g1, g2, hc, g, hc2]
      have et : (ps.map (·.2.2)).take (k + 1) = (ps.map (·.2.2)).take k ++ [ps[k].2.2] := by rw [List.take_succ_eq_append_getElem (by simpa using hk)]; simp
      refine hnx _ _ ⟨v5, ?_, F5.trans F6, ?_, ?_, ?_⟩
      · rw [sumsV_take (by simpa using hk)]
        simp
      · rw [et, List.flatten_append, bys, List.map_append, List.length_append]
        simpa using own_ext hown5 F6
      · rw [et, List.flatten_append, List.length_append]
        simp only [List.flatten_cons, List.flatten_nil, List.append_nil]
        omega
      · intro p hp
        rw [List.take_succ_eq_append_getElem hk] at hp
        rcases List.mem_append.1 hp with hp | hp
        · exact hsm p hp
        · simp at hp; rw [hp]; omega
  · rintro u v ⟨s, hu, F, O, hle, hsm⟩ nxt
    simp only [List.map_cons, List.map_nil, List.cons.injEq, and_true] at hu
    obtain ⟨q1, q2, q3⟩ := hu
    rw [q1, q2, q3]
    unfold loamlaw2_SumsAny_l1
    rw [List.take_of_length_le (by simp)] at O hle ⊢
    rw [List.take_length] at hsm
    rw [sums_all]
    generalize hall : (ps.map (·.2.2)).flatten = all at *
    obtain ⟨a9, c9, rfl, hl1, hl2, hl3, hl4⟩ := own_slice O
    have G := G2.trans F
    have hparts : partsAt v.drew a ps := ⟨(h.ext0 G).ext0 (Ext.drew _ _), fun p hp => ⟨((hps p hp).1.ext0 G).ext0 (Ext.drew _ _), by have := hsm p hp; omega⟩⟩
    have hrow : RowAt v.drew a9 (bys all) := hl4.ext0 (Ext.drew _ _)
    have hrb : RowAt v.drew a' (bys l) := (h'.ext0 G).ext0 (Ext.drew _ _)
    simp (disch := (first | omega | decide | (simp only [World.size_alloc, World.size_setCell, World.size_drew, List.mem_cons, List.not_mem_nil, or_false, not_false_eq_true] <;> omega) | fail)) only [↓xBox_r, ↓loadK_some, ↓loadsK_s, ↓loadsK_n, ↓loadsR_s, ↓loadsR_n, ↓storesK_s, ↓storesK_n, setCells_c, setCells_n, World.setCell_alloc_at, World.setCell_alloc_past, World.cell?_alloc_at, World.cell?_alloc_past, 
      World.frozen?_alloc_at, World.frozen?_alloc_past, World.size_alloc, ↓xPick_t, ↓xPick_f, ↓xGuard_tt, ↓xGuard_ff, ↓xGuard_tf, ↓xGuard_ft, ↓xGuard_u, ↓xNil_r, Option.isNone_some, Option.isNone_none, ↓xIf_t, tick_eq, tickV_eq, ne_eq, 
      dlt_t, dlt_f, dle_t, dle_f, deq_t, deq_f, dne_t, dne_f, not_true_eq_false, Int.reduceAdd, Int.reduceSub, Int.reduceMul, Int.reduceEq, Int.reduceLT, Int.reduceLE, Bool.false_and, Bool.true_and, Bool.and_true, 
      Bool.and_false, ↓xBin_add', ↓xBin_sub', ↓xBin_mul', ↓xBin_quo', ↓xBin_rem', wrap_in, ↓xIf_f, ↓xIf_tt, ↓xEx0, ↓xEx1, ↓xEx2, ↓xEx3, ↓xBin_eqs, ↓xBin_nes, ↓xUn_not, ↓xu8_add, ↓xu8_com, ↓xu8_eql, ↓xu8_lss, ↓xu8_gtr, ↓xu16_add, 
      ↓xu16_com, ↓xu16_eql, ↓xu16_lss, ↓xu16_gtr, ↓xu32_add, ↓xu32_com, ↓xu32_eql, ↓xu32_lss, ↓xu32_gtr, ↓xu64_add, ↓xu64_com, ↓xu64_eql, ↓xu64_lss, ↓xu64_gtr, ↓xi64_lss, ↓xi64_gtr, ↓xi64_eql, Int.toNat_natCast, Int.reduceToNat, 
      Nat.reduceMul, Nat.reduceAdd, Nat.reduceSub, Nat.mul_one, List.nil_append, List.cons_append, List.getElem?_toArray, List.getElem?_cons_zero, List.getElem?_cons_succ, cells_int, cells_bool, cells_string, cells_slice, 
      cells_pointer, cells_agg, one_int, one_bool, one_string, one_slice, one_pointer, List.setIfInBounds_toArray, List.set_cons_zero, List.set_cons_succ, ↓xDet_s, ↓xDet_ld, ↓xDet_ld2, ↓xDet_ld3, ↓xDet_ld4, World.size_drew, 
      Nat.zero_add, Nat.add_zero, cell_drew, frozen_drew, cell_set_eq, cell_set_o, cell_set_b, Option.map_some, World.frozen?_setCell, decide_true, decide_false, List.not_mem_nil, not_false_eq_true, ↓xGuard_tt, Bool.not_true, 
      Bool.not_false, ←decide_not, ↓ld_51, ↓eb_4, ↓nb_4, ↓ia_50, ↓ln_50, ↓ln_51, g1, g2]
    refine xDraw_ext [] [] ?_
    simp (disch := (first | omega | decide | (simp only [World.size_alloc, World.size_setCell, World.size_drew, List.mem_cons, List.not_mem_nil, or_false, not_false_eq_true] <;> omega) | fail)) only [↓xBox_r, ↓loadK_some, ↓loadsK_s, ↓loadsK_n, ↓loadsR_s, ↓loadsR_n, ↓storesK_s, ↓storesK_n, setCells_c, setCells_n, World.setCell_alloc_at, World.setCell_alloc_past, World.cell?_alloc_at, World.cell?_alloc_past, 
      World.frozen?_alloc_at, World.frozen?_alloc_past, World.size_alloc, ↓xPick_t, ↓xPick_f, ↓xGuard_tt, ↓xGuard_ff, ↓xGuard_tf, ↓xGuard_ft, ↓xGuard_u, ↓xNil_r, Option.isNone_some, Option.isNone_none, ↓xIf_t, tick_eq, tickV_eq, ne_eq, 
      dlt_t, dlt_f, dle_t, dle_f, deq_t, deq_f, dne_t, dne_f, not_true_eq_false, Int.reduceAdd, Int.reduceSub, Int.reduceMul, Int.reduceEq, Int.reduceLT, Int.reduceLE, Bool.false_and, Bool.true_and, Bool.and_true, 
      Bool.and_false, ↓xBin_add', ↓xBin_sub', ↓xBin_mul', ↓xBin_quo', ↓xBin_rem', wrap_in, ↓xIf_f, ↓xIf_tt, ↓xEx0, ↓xEx1, ↓xEx2, ↓xEx3, ↓xBin_eqs, ↓xBin_nes, ↓xUn_not, ↓xu8_add, ↓xu8_com, ↓xu8_eql, ↓xu8_lss, ↓xu8_gtr, ↓xu16_add, 
      ↓xu16_com, ↓xu16_eql, ↓xu16_lss, ↓xu16_gtr, ↓xu32_add, ↓xu32_com, ↓xu32_eql, ↓xu32_lss, ↓xu32_gtr, ↓xu64_add, ↓xu64_com, ↓xu64_eql, ↓xu64_lss, ↓xu64_gtr, ↓xi64_lss, ↓xi64_gtr, ↓xi64_eql, Int.toNat_natCast, Int.reduceToNat, 
      Nat.reduceMul, Nat.reduceAdd, Nat.reduceSub, Nat.mul_one, List.nil_append, List.cons_append, List.getElem?_toArray, List.getElem?_cons_zero, List.getElem?_cons_succ, cells_int, cells_bool, cells_string, cells_slice, 
      cells_pointer, cells_agg, one_int, one_bool, one_string, one_slice, one_pointer, List.setIfInBounds_toArray, List.set_cons_zero, List.set_cons_succ, ↓xDet_s, ↓xDet_ld, ↓xDet_ld2, ↓xDet_ld3, ↓xDet_ld4, World.size_drew, 
      Nat.zero_add, Nat.add_zero, cell_drew, frozen_drew, cell_set_eq, cell_set_o, cell_set_b, Option.map_some, World.frozen?_setCell, decide_true, decide_false, List.not_mem_nil, not_false_eq_true, ↓xGuard_tt, Bool.not_true, 
      Bool.not_false, ←decide_not, ↓ld_51, ↓eb_4, ↓nb_4, ↓ia_50, ↓ln_50, ↓ln_51, g1, g2]
    apply xDet_x
    · exact fun w2 hw => crc_Sum_call (Gives.lq (Sum_spec ps a ps.length c w2 rfl (by omega) (hparts.ext hw.ext)))
    apply xDet_x
    · exact fun w2 hw => loamref2_Sum_call (Gives.lq (rSum_spec all a9 all.length c9 w2 rfl (by omega) (hrow.ext0 hw.ext)))
    rw [sums_all, hall]
    simp (disch := (first | omega | decide | (simp only [World.size_alloc, World.size_setCell, World.size_drew, List.mem_cons, List.not_mem_nil, or_false, not_false_eq_true] <;> omega) | fail)) only [↓xBox_r, ↓loadK_some, ↓loadsK_s, ↓loadsK_n, ↓loadsR_s, ↓loadsR_n, ↓storesK_s, ↓storesK_n, setCells_c, setCells_n, World.setCell_alloc_at, World.setCell_alloc_past, World.cell?_alloc_at, World.cell?_alloc_past, 
      World.frozen?_alloc_at, World.frozen?_alloc_past, World.size_alloc, ↓xPick_t, ↓xPick_f, ↓xGuard_tt, ↓xGuard_ff, ↓xGuard_tf, ↓xGuard_ft, ↓xGuard_u, ↓xNil_r, Option.isNone_some, Option.isNone_none, ↓xIf_t, tick_eq, tickV_eq, ne_eq, 
      dlt_t, dlt_f, dle_t, dle_f, deq_t, deq_f, dne_t, dne_f, not_true_eq_false, Int.reduceAdd, Int.reduceSub, Int.reduceMul, Int.reduceEq, Int.reduceLT, Int.reduceLE, Bool.false_and, Bool.true_and, Bool.and_true, 
      Bool.and_false, ↓xBin_add', ↓xBin_sub', ↓xBin_mul', ↓xBin_quo', ↓xBin_rem', wrap_in, ↓xIf_f, ↓xIf_tt, ↓xEx0, ↓xEx1, ↓xEx2, ↓xEx3, ↓xBin_eqs, ↓xBin_nes, ↓xUn_not, ↓xu8_add, ↓xu8_com, ↓xu8_eql, ↓xu8_lss, ↓xu8_gtr, ↓xu16_add, 
      ↓xu16_com, ↓xu16_eql, ↓xu16_lss, ↓xu16_gtr, ↓xu32_add, ↓xu32_com, ↓xu32_eql, ↓xu32_lss, ↓xu32_gtr, ↓xu64_add, ↓xu64_com, ↓xu64_eql, ↓xu64_lss, ↓xu64_gtr, ↓xi64_lss, ↓xi64_gtr, ↓xi64_eql, Int.toNat_natCast, Int.reduceToNat, 
      Nat.reduceMul, Nat.reduceAdd, Nat.reduceSub, Nat.mul_one, List.nil_append, List.cons_append, List.getElem?_toArray, List.getElem?_cons_zero, List.getElem?_cons_succ, cells_int, cells_bool, cells_string, cells_slice, 
      cells_pointer, cells_agg, one_int, one_bool, one_string, one_slice, one_pointer, List.setIfInBounds_toArray, List.set_cons_zero, List.set_cons_succ, ↓xDet_s, ↓xDet_ld, ↓xDet_ld2, ↓xDet_ld3, ↓xDet_ld4, World.size_drew, 
      Nat.zero_add, Nat.add_zero, cell_drew, frozen_drew, cell_set_eq, cell_set_o, cell_set_b, Option.map_some, World.frozen?_setCell, decide_true, decide_false, List.not_mem_nil, not_false_eq_true, ↓xGuard_tt, Bool.not_true, 
      Bool.not_false, ←decide_not, ↓ld_51, ↓eb_4, ↓nb_4, ↓ia_50, ↓ln_50, ↓ln_51, g1, g2]
    apply xDet_x
    · exact fun w2 hw => loamref2_Sum_call (Gives.lq (rSum_spec all a9 all.length c9 w2 rfl (by omega) (hrow.ext0 hw.ext)))
    simp (disch := (first | omega | decide | (simp only [World.size_alloc, World.size_setCell, World.size_drew, List.mem_cons, List.not_mem_nil, or_false, not_false_eq_true] <;> omega) | fail)) only [↓xBox_r, ↓loadK_some, ↓loadsK_s, ↓loadsK_n, ↓loadsR_s, ↓loadsR_n, ↓storesK_s, ↓storesK_n, setCells_c, setCells_n, World.setCell_alloc_at, World.setCell_alloc_past, World.cell?_alloc_at, World.cell?_alloc_past, 
      World.frozen?_alloc_at, World.frozen?_alloc_past, World.size_alloc, ↓xPick_t, ↓xPick_f, ↓xGuard_tt, ↓xGuard_ff, ↓xGuard_tf, ↓xGuard_ft, ↓xGuard_u, ↓xNil_r, Option.isNone_some, Option.isNone_none, ↓xIf_t, tick_eq, tickV_eq, ne_eq, 
      dlt_t, dlt_f, dle_t, dle_f, deq_t, deq_f, dne_t, dne_f, not_true_eq_false, Int.reduceAdd, Int.reduceSub, Int.reduceMul, Int.reduceEq, Int.reduceLT, Int.reduceLE, Bool.false_and, Bool.true_and, Bool.and_true, 
      Bool.and_false, ↓xBin_add', ↓xBin_sub', ↓xBin_mul', ↓xBin_quo', ↓xBin_rem', wrap_in, ↓xIf_f, ↓xIf_tt, ↓xEx0, ↓xEx1, ↓xEx2, ↓xEx3, ↓xBin_eqs, ↓xBin_nes, ↓xUn_not, ↓xu8_add, ↓xu8_com, ↓xu8_eql, ↓xu8_lss, ↓xu8_gtr, ↓xu16_add, 
      ↓xu16_com, ↓xu16_eql, ↓xu16_lss, ↓xu16_gtr, ↓xu32_add, ↓xu32_com, ↓xu32_eql, ↓xu32_lss, ↓xu32_gtr, ↓xu64_add, ↓xu64_com, ↓xu64_eql, ↓xu64_lss, ↓xu64_gtr, ↓xi64_lss, ↓xi64_gtr, ↓xi64_eql, Int.toNat_natCast, Int.reduceToNat, 
      Nat.reduceMul, Nat.reduceAdd, Nat.reduceSub, Nat.mul_one, List.nil_append, List.cons_append, List.getElem?_toArray, List.getElem?_cons_zero, List.getElem?_cons_succ, cells_int, cells_bool, cells_string, cells_slice, 
      cells_pointer, cells_agg, one_int, one_bool, one_string, one_slice, one_pointer, List.setIfInBounds_toArray, List.set_cons_zero, List.set_cons_succ, ↓xDet_s, ↓xDet_ld, ↓xDet_ld2, ↓xDet_ld3, ↓xDet_ld4, World.size_drew, 
      Nat.zero_add, Nat.add_zero, cell_drew, frozen_drew, cell_set_eq, cell_set_o, cell_set_b, Option.map_some, World.frozen?_setCell, decide_true, decide_false, List.not_mem_nil, not_false_eq_true, ↓xGuard_tt, Bool.not_true, 
      Bool.not_false, ←decide_not, ↓ld_51, ↓eb_4, ↓nb_4, ↓ia_50, ↓ln_50, ↓ln_51, g1, g2]
    refine seal_strand hrow rfl (by omega) ?_
    refine rseal_strand hrow rfl (by omega) hl3 ?_
    simp (disch := (first | omega | decide | (simp only [World.size_alloc, World.size_setCell, World.size_drew, List.mem_cons, List.not_mem_nil, or_false, not_false_eq_true] <;> omega) | fail)) only [↓xBox_r, ↓loadK_some, ↓loadsK_s, ↓loadsK_n, ↓loadsR_s, ↓loadsR_n, ↓storesK_s, ↓storesK_n, setCells_c, setCells_n, World.setCell_alloc_at, World.setCell_alloc_past, World.cell?_alloc_at, World.cell?_alloc_past, 
      World.frozen?_alloc_at, World.frozen?_alloc_past, World.size_alloc, ↓xPick_t, ↓xPick_f, ↓xGuard_tt, ↓xGuard_ff, ↓xGuard_tf, ↓xGuard_ft, ↓xGuard_u, ↓xNil_r, Option.isNone_some, Option.isNone_none, ↓xIf_t, tick_eq, tickV_eq, ne_eq, 
      dlt_t, dlt_f, dle_t, dle_f, deq_t, deq_f, dne_t, dne_f, not_true_eq_false, Int.reduceAdd, Int.reduceSub, Int.reduceMul, Int.reduceEq, Int.reduceLT, Int.reduceLE, Bool.false_and, Bool.true_and, Bool.and_true, 
      Bool.and_false, ↓xBin_add', ↓xBin_sub', ↓xBin_mul', ↓xBin_quo', ↓xBin_rem', wrap_in, ↓xIf_f, ↓xIf_tt, ↓xEx0, ↓xEx1, ↓xEx2, ↓xEx3, ↓xBin_eqs, ↓xBin_nes, ↓xUn_not, ↓xu8_add, ↓xu8_com, ↓xu8_eql, ↓xu8_lss, ↓xu8_gtr, ↓xu16_add, 
      ↓xu16_com, ↓xu16_eql, ↓xu16_lss, ↓xu16_gtr, ↓xu32_add, ↓xu32_com, ↓xu32_eql, ↓xu32_lss, ↓xu32_gtr, ↓xu64_add, ↓xu64_com, ↓xu64_eql, ↓xu64_lss, ↓xu64_gtr, ↓xi64_lss, ↓xi64_gtr, ↓xi64_eql, Int.toNat_natCast, Int.reduceToNat, 
      Nat.reduceMul, Nat.reduceAdd, Nat.reduceSub, Nat.mul_one, List.nil_append, List.cons_append, List.getElem?_toArray, List.getElem?_cons_zero, List.getElem?_cons_succ, cells_int, cells_bool, cells_string, cells_slice, 
      cells_pointer, cells_agg, one_int, one_bool, one_string, one_slice, one_pointer, List.setIfInBounds_toArray, List.set_cons_zero, List.set_cons_succ, ↓xDet_s, ↓xDet_ld, ↓xDet_ld2, ↓xDet_ld3, ↓xDet_ld4, World.size_drew, 
      Nat.zero_add, Nat.add_zero, cell_drew, frozen_drew, cell_set_eq, cell_set_o, cell_set_b, Option.map_some, World.frozen?_setCell, decide_true, decide_false, List.not_mem_nil, not_false_eq_true, ↓xGuard_tt, Bool.not_true, 
      Bool.not_false, ←decide_not, ↓ld_51, ↓eb_4, ↓nb_4, ↓ia_50, ↓ln_50, ↓ln_51, g1, g2]
    refine right_strand hrow rfl (by omega) ?_
    simp (disch := (first | omega | decide | (simp only [World.size_alloc, World.size_setCell, World.size_drew, List.mem_cons, List.not_mem_nil, or_false, not_false_eq_true] <;> omega) | fail)) only [↓xBox_r, ↓loadK_some, ↓loadsK_s, ↓loadsK_n, ↓loadsR_s, ↓loadsR_n, ↓storesK_s, ↓storesK_n, setCells_c, setCells_n, World.setCell_alloc_at, World.setCell_alloc_past, World.cell?_alloc_at, World.cell?_alloc_past, 
      World.frozen?_alloc_at, World.frozen?_alloc_past, World.size_alloc, ↓xPick_t, ↓xPick_f, ↓xGuard_tt, ↓xGuard_ff, ↓xGuard_tf, ↓xGuard_ft, ↓xGuard_u, ↓xNil_r, Option.isNone_some, Option.isNone_none, ↓xIf_t, tick_eq, tickV_eq, ne_eq, 
      dlt_t, dlt_f, dle_t, dle_f, deq_t, deq_f, dne_t, dne_f, not_true_eq_false, Int.reduceAdd, Int.reduceSub, Int.reduceMul, Int.reduceEq, Int.reduceLT, Int.reduceLE, Bool.false_and, Bool.true_and, Bool.and_true, 
      Bool.and_false, ↓xBin_add', ↓xBin_sub', ↓xBin_mul', ↓xBin_quo', ↓xBin_rem', wrap_in, ↓xIf_f, ↓xIf_tt, ↓xEx0, ↓xEx1, ↓xEx2, ↓xEx3, ↓xBin_eqs, ↓xBin_nes, ↓xUn_not, ↓xu8_add, ↓xu8_com, ↓xu8_eql, ↓xu8_lss, ↓xu8_gtr, ↓xu16_add, 
      ↓xu16_com, ↓xu16_eql, ↓xu16_lss, ↓xu16_gtr, ↓xu32_add, ↓xu32_com, ↓xu32_eql, ↓xu32_lss, ↓xu32_gtr, ↓xu64_add, ↓xu64_com, ↓xu64_eql, ↓xu64_lss, ↓xu64_gtr, ↓xi64_lss, ↓xi64_gtr, ↓xi64_eql, Int.toNat_natCast, Int.reduceToNat, 
      Nat.reduceMul, Nat.reduceAdd, Nat.reduceSub, Nat.mul_one, List.nil_append, List.cons_append, List.getElem?_toArray, List.getElem?_cons_zero, List.getElem?_cons_succ, cells_int, cells_bool, cells_string, cells_slice, 
      cells_pointer, cells_agg, one_int, one_bool, one_string, one_slice, one_pointer, List.setIfInBounds_toArray, List.set_cons_zero, List.set_cons_succ, ↓xDet_s, ↓xDet_ld, ↓xDet_ld2, ↓xDet_ld3, ↓xDet_ld4, World.size_drew, 
      Nat.zero_add, Nat.add_zero, cell_drew, frozen_drew, cell_set_eq, cell_set_o, cell_set_b, Option.map_some, World.frozen?_setCell, decide_true, decide_false, List.not_mem_nil, not_false_eq_true, ↓xGuard_tt, Bool.not_true, 
      Bool.not_false, ←decide_not, ↓ld_51, ↓eb_4, ↓nb_4, ↓ia_50, ↓ln_50, ↓ln_51, g1, g2]
    apply xDet_x
    · exact fun w2 hw => crc_Right_call (Gives.lq (Right_spec2 l a' l.length c' w2 rfl hcap' (by omega) (hrb.ext0 hw.ext)))
    simp (disch := (first | omega | decide | (simp only [World.size_alloc, World.size_setCell, World.size_drew, List.mem_cons, List.not_mem_nil, or_false, not_false_eq_true] <;> omega) | fail)) only [↓xBox_r, ↓loadK_some, ↓loadsK_s, ↓loadsK_n, ↓loadsR_s, ↓loadsR_n, ↓storesK_s, ↓storesK_n, setCells_c, setCells_n, World.setCell_alloc_at, World.setCell_alloc_past, World.cell?_alloc_at, World.cell?_alloc_past, 
      World.frozen?_alloc_at, World.frozen?_alloc_past, World.size_alloc, ↓xPick_t, ↓xPick_f, ↓xGuard_tt, ↓xGuard_ff, ↓xGuard_tf, ↓xGuard_ft, ↓xGuard_u, ↓xNil_r, Option.isNone_some, Option.isNone_none, ↓xIf_t, tick_eq, tickV_eq, ne_eq, 
      dlt_t, dlt_f, dle_t, dle_f, deq_t, deq_f, dne_t, dne_f, not_true_eq_false, Int.reduceAdd, Int.reduceSub, Int.reduceMul, Int.reduceEq, Int.reduceLT, Int.reduceLE, Bool.false_and, Bool.true_and, Bool.and_true, 
      Bool.and_false, ↓xBin_add', ↓xBin_sub', ↓xBin_mul', ↓xBin_quo', ↓xBin_rem', wrap_in, ↓xIf_f, ↓xIf_tt, ↓xEx0, ↓xEx1, ↓xEx2, ↓xEx3, ↓xBin_eqs, ↓xBin_nes, ↓xUn_not, ↓xu8_add, ↓xu8_com, ↓xu8_eql, ↓xu8_lss, ↓xu8_gtr, ↓xu16_add, 
      ↓xu16_com, ↓xu16_eql, ↓xu16_lss, ↓xu16_gtr, ↓xu32_add, ↓xu32_com, ↓xu32_eql, ↓xu32_lss, ↓xu32_gtr, ↓xu64_add, ↓xu64_com, ↓xu64_eql, ↓xu64_lss, ↓xu64_gtr, ↓xi64_lss, ↓xi64_gtr, ↓xi64_eql, Int.toNat_natCast, Int.reduceToNat, 
      Nat.reduceMul, Nat.reduceAdd, Nat.reduceSub, Nat.mul_one, List.nil_append, List.cons_append, List.getElem?_toArray, List.getElem?_cons_zero, List.getElem?_cons_succ, cells_int, cells_bool, cells_string, cells_slice, 
      cells_pointer, cells_agg, one_int, one_bool, one_string, one_slice, one_pointer, List.setIfInBounds_toArray, List.set_cons_zero, List.set_cons_succ, ↓xDet_s, ↓xDet_ld, ↓xDet_ld2, ↓xDet_ld3, ↓xDet_ld4, World.size_drew, 
      Nat.zero_add, Nat.add_zero, cell_drew, frozen_drew, cell_set_eq, cell_set_o, cell_set_b, Option.map_some, World.frozen?_setCell, decide_true, decide_false, List.not_mem_nil, not_false_eq_true, ↓xGuard_tt, Bool.not_true, 
      Bool.not_false, ←decide_not, ↓ld_51, ↓eb_4, ↓nb_4, ↓ia_50, ↓ln_50, ↓ln_51, g1, g2]
    apply xDet_x
    · exact fun w2 hw => loamref2_Right_call (Gives.lq (rRight_spec l a' l.length c' w2 rfl hcap' (by omega) (hrb.ext0 hw.ext)))
    simp (disch := (first | omega | decide | (simp only [World.size_alloc, World.size_setCell, World.size_drew, List.mem_cons, List.not_mem_nil, or_false, not_false_eq_true] <;> omega) | fail)) only [↓xBox_r, ↓loadK_some, ↓loadsK_s, ↓loadsK_n, ↓loadsR_s, ↓loadsR_n, ↓storesK_s, ↓storesK_n, setCells_c, setCells_n, World.setCell_alloc_at, World.setCell_alloc_past, World.cell?_alloc_at, World.cell?_alloc_past, 
      World.frozen?_alloc_at, World.frozen?_alloc_past, World.size_alloc, ↓xPick_t, ↓xPick_f, ↓xGuard_tt, ↓xGuard_ff, ↓xGuard_tf, ↓xGuard_ft, ↓xGuard_u, ↓xNil_r, Option.isNone_some, Option.isNone_none, ↓xIf_t, tick_eq, tickV_eq, ne_eq, 
      dlt_t, dlt_f, dle_t, dle_f, deq_t, deq_f, dne_t, dne_f, not_true_eq_false, Int.reduceAdd, Int.reduceSub, Int.reduceMul, Int.reduceEq, Int.reduceLT, Int.reduceLE, Bool.false_and, Bool.true_and, Bool.and_true, 
      Bool.and_false, ↓xBin_add', ↓xBin_sub', ↓xBin_mul', ↓xBin_quo', ↓xBin_rem', wrap_in, ↓xIf_f, ↓xIf_tt, ↓xEx0, ↓xEx1, ↓xEx2, ↓xEx3, ↓xBin_eqs, ↓xBin_nes, ↓xUn_not, ↓xu8_add, ↓xu8_com, ↓xu8_eql, ↓xu8_lss, ↓xu8_gtr, ↓xu16_add, 
      ↓xu16_com, ↓xu16_eql, ↓xu16_lss, ↓xu16_gtr, ↓xu32_add, ↓xu32_com, ↓xu32_eql, ↓xu32_lss, ↓xu32_gtr, ↓xu64_add, ↓xu64_com, ↓xu64_eql, ↓xu64_lss, ↓xu64_gtr, ↓xi64_lss, ↓xi64_gtr, ↓xi64_eql, Int.toNat_natCast, Int.reduceToNat, 
      Nat.reduceMul, Nat.reduceAdd, Nat.reduceSub, Nat.mul_one, List.nil_append, List.cons_append, List.getElem?_toArray, List.getElem?_cons_zero, List.getElem?_cons_succ, cells_int, cells_bool, cells_string, cells_slice, 
      cells_pointer, cells_agg, one_int, one_bool, one_string, one_slice, one_pointer, List.setIfInBounds_toArray, List.set_cons_zero, List.set_cons_succ, ↓xDet_s, ↓xDet_ld, ↓xDet_ld2, ↓xDet_ld3, ↓xDet_ld4, World.size_drew, 
      Nat.zero_add, Nat.add_zero, cell_drew, frozen_drew, cell_set_eq, cell_set_o, cell_set_b, Option.map_some, World.frozen?_setCell, decide_true, decide_false, List.not_mem_nil, not_false_eq_true, ↓xGuard_tt, Bool.not_true, 
      Bool.not_false, ←decide_not, ↓ld_51, ↓eb_4, ↓nb_4, ↓ia_50, ↓ln_50, ↓ln_51, g1, g2]
    refine xEndU_i fun uS w9 hw => ?_
    exact ⟨by first | trivial | simp, G.trans ((Ext.drew [] _).trans hw.ext)⟩
end Go.Proofs.Ytohonkbneimkoaa
