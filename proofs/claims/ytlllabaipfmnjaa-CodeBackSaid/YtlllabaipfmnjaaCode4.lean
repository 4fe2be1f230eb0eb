/- The small example of the statements on the codec; numbers with a sign; how long numbers are: walked. -/
import Derived.Test.YtlllabaipfmnjaaCode3
set_option linter.unusedVariables false
set_option linter.unusedSimpArgs false
set_option maxHeartbeats 4000000
namespace Go.Proofs.Ytlllabaipfmnjaa
open Go.Sh Go.RowKit

abbrev y8 (n : Nat) : BitVec 8 := BitVec.ofNat 8 n
theorem enc_new {w : World} {base : Nat} (hb : base ≤ w.heap.size) : EncIs (w.alloc (.cells [Value.slice none 0 0].toArray 28)) base w.heap.size (.slice none 0 0) [] :=
  ⟨hb, Blk.new _ _, World.ownsRow_nil _ _ _ _, by simp [Value.ownBlock]⟩
theorem DecIs.ext {w w' : World} {g : Nat} {a : Option Addr} {c : Nat} {l : List (BitVec 8)} {e : Int} {M : List Nat} (h : DecIs w g a c l e) (hx : Ext M w w') (hg : g ∉ M) (ha : l ≠ [] → ∀ b o, a = some ⟨b, o, none⟩ → b ∉ M) : DecIs w' g a c l e :=
  ⟨h.blk.ext hx hg, by by_cases hl : l = []; · rw [hl]; exact RowAt.nil
                       · exact h.row.ext hx (ha hl), h.cap, h.nil, h.ne, h.big, h.err⟩
theorem known5_spec (w : World) : Gives Try.prog n_loamlaw5_known #[] w (.bool true) := by
  refine loamlaw5_known_of ?_
  unfold loamlaw5_known
  simp (disch := (first | omega | decide | (simp only [World.size_alloc, World.size_setCell, World.size_drew, List.mem_cons, List.not_mem_nil, or_false, not_false_eq_true] <;> omega) | fail)) only [↓xBox_r, ↓loadK_some, ↓loadsK_s, ↓loadsK_n, ↓loadsR_s, ↓loadsR_n, ↓storesK_s, ↓storesK_n, setCells_c, setCells_n, World.setCell_alloc_at, World.setCell_alloc_past, World.cell?_alloc_at, World.cell?_alloc_past, 
      World.frozen?_alloc_at, World.frozen?_alloc_past, World.size_alloc, ↓xPick_t, ↓xPick_f, ↓xGuard_tt, ↓xGuard_ff, ↓xGuard_tf, ↓xGuard_ft, ↓xGuard_u, ↓xNil_r, Option.isNone_some, Option.isNone_none, ↓xIf_t, tick_eq, tickV_eq, ne_eq, 
      dlt_t, dlt_f, dle_t, dle_f, deq_t, deq_f, dne_t, dne_f, not_true_eq_false, Int.reduceAdd, Int.reduceSub, Int.reduceMul, Int.reduceEq, Int.reduceLT, Int.reduceLE, Bool.false_and, Bool.true_and, Bool.and_true, 
      Bool.and_false, ↓xBin_add', ↓xBin_sub', ↓xBin_mul', ↓xBin_quo', ↓xBin_rem', wrap_in, ↓xIf_f, ↓xIf_tt, ↓xEx0, ↓xEx1, ↓xEx2, ↓xEx3, ↓xBin_eqs, ↓xBin_nes, ↓xUn_not, ↓xu8_eql, ↓xu16_eql, ↓xu32_eql, ↓xu64_eql, ↓xi64_eql, Int.toNat_natCast, 
      Int.reduceToNat, Nat.reduceMul, Nat.reduceAdd, Nat.reduceSub, Nat.mul_one, List.nil_append, List.cons_append, List.getElem?_toArray, List.getElem?_cons_zero, List.getElem?_cons_succ, cells_int, cells_bool, cells_string, 
      cells_slice, cells_pointer, cells_agg, one_int, one_bool, one_string, one_slice, one_pointer, List.setIfInBounds_toArray, List.set_cons_zero, List.set_cons_succ, ↓xSq_r, ↓xPur_s, ↓xRd_s, ↓xRe_s, ↓xDet_s, ↓xDet_ld, 
      ↓xDet_ld2, ↓xDet_ld3, ↓xDet_ld4, World.size_drew, Nat.zero_add, Nat.add_zero, cell_drew, frozen_drew, cell_set_eq, cell_set_o, cell_set_b, Option.map_some, World.frozen?_setCell, decide_true, decide_false, List.not_mem_nil, 
      not_false_eq_true, ↓xGuard_tt, Bool.not_true, Bool.not_false, ←decide_not, ↓ld_29, ↓bd_28, ↓ia_30, ↓ln_30, ↓bs_26_0, ↓bs_26_1, ↓bs_26_2, ↓bs_26_4, ↓bs_30_0, ↓bs_30_1, ↓nq_42, eq_self]
  have H0 := enc_new (Nat.le_refl w.heap.size)
  have G0 : Ext [] w (w.alloc (.cells [Value.slice none 0 0].toArray 28)) := Ext.alloc _ _ _
  refine codec_Enc_Uint_call (Yld.mono (Enc_Uint_spec (BitVec.ofNat 64 300) H0 (by simp)) ?_)
  rintro u w1 ⟨rfl, s1, F1, H1, S1⟩
  have up : ∀ {w' : World} {v : Value} {l : List (BitVec 8)}, EncIs w' w.heap.size w.heap.size v l → ∀ x ∈ enB w.heap.size v, w.heap.size ≤ x := fun h x hx => (h.up x hx).1
  have G1 := G0.new F1 (up H0)
  rw [List.nil_append] at H1
  simp (disch := (first | omega | decide | (simp only [World.size_alloc, World.size_setCell, World.size_drew, List.mem_cons, List.not_mem_nil, or_false, not_false_eq_true] <;> omega) | fail)) only [↓xBox_r, ↓loadK_some, ↓loadsK_s, ↓loadsK_n, ↓loadsR_s, ↓loadsR_n, ↓storesK_s, ↓storesK_n, setCells_c, setCells_n, World.setCell_alloc_at, World.setCell_alloc_past, World.cell?_alloc_at, World.cell?_alloc_past, 
      World.frozen?_alloc_at, World.frozen?_alloc_past, World.size_alloc, ↓xPick_t, ↓xPick_f, ↓xGuard_tt, ↓xGuard_ff, ↓xGuard_tf, ↓xGuard_ft, ↓xGuard_u, ↓xNil_r, Option.isNone_some, Option.isNone_none, ↓xIf_t, tick_eq, tickV_eq, ne_eq, 
      dlt_t, dlt_f, dle_t, dle_f, deq_t, deq_f, dne_t, dne_f, not_true_eq_false, Int.reduceAdd, Int.reduceSub, Int.reduceMul, Int.reduceEq, Int.reduceLT, Int.reduceLE, Bool.false_and, Bool.true_and, Bool.and_true, 
      Bool.and_false, ↓xBin_add', ↓xBin_sub', ↓xBin_mul', ↓xBin_quo', ↓xBin_rem', wrap_in, ↓xIf_f, ↓xIf_tt, ↓xEx0, ↓xEx1, ↓xEx2, ↓xEx3, ↓xBin_eqs, ↓xBin_nes, ↓xUn_not, ↓xu8_eql, ↓xu16_eql, ↓xu32_eql, ↓xu64_eql, ↓xi64_eql, Int.toNat_natCast, 
      Int.reduceToNat, Nat.reduceMul, Nat.reduceAdd, Nat.reduceSub, Nat.mul_one, List.nil_append, List.cons_append, List.getElem?_toArray, List.getElem?_cons_zero, List.getElem?_cons_succ, cells_int, cells_bool, cells_string, 
      cells_slice, cells_pointer, cells_agg, one_int, one_bool, one_string, one_slice, one_pointer, List.setIfInBounds_toArray, List.set_cons_zero, List.set_cons_succ, ↓xSq_r, ↓xPur_s, ↓xRd_s, ↓xRe_s, ↓xDet_s, ↓xDet_ld, 
      ↓xDet_ld2, ↓xDet_ld3, ↓xDet_ld4, World.size_drew, Nat.zero_add, Nat.add_zero, cell_drew, frozen_drew, cell_set_eq, cell_set_o, cell_set_b, Option.map_some, World.frozen?_setCell, decide_true, decide_false, List.not_mem_nil, 
      not_false_eq_true, ↓xGuard_tt, Bool.not_true, Bool.not_false, ←decide_not, ↓ld_29, ↓bd_28, ↓ia_30, ↓ln_30, ↓bs_26_0, ↓bs_26_1, ↓bs_26_2, ↓bs_26_4, ↓bs_30_0, ↓bs_30_1, ↓nq_42, eq_self]
  refine codec_Enc_Int_call (Yld.mono (Enc_Int_spec (-1) H1 (by decide +kernel)) ?_)
  rintro u w2 ⟨rfl, s2, F2, H2, S2⟩
  have G2 := G1.new F2 (up H1)
  simp (disch := (first | omega | decide | (simp only [World.size_alloc, World.size_setCell, World.size_drew, List.mem_cons, List.not_mem_nil, or_false, not_false_eq_true] <;> omega) | fail)) only [↓xBox_r, ↓loadK_some, ↓loadsK_s, ↓loadsK_n, ↓loadsR_s, ↓loadsR_n, ↓storesK_s, ↓storesK_n, setCells_c, setCells_n, World.setCell_alloc_at, World.setCell_alloc_past, World.cell?_alloc_at, World.cell?_alloc_past, 
      World.frozen?_alloc_at, World.frozen?_alloc_past, World.size_alloc, ↓xPick_t, ↓xPick_f, ↓xGuard_tt, ↓xGuard_ff, ↓xGuard_tf, ↓xGuard_ft, ↓xGuard_u, ↓xNil_r, Option.isNone_some, Option.isNone_none, ↓xIf_t, tick_eq, tickV_eq, ne_eq, 
      dlt_t, dlt_f, dle_t, dle_f, deq_t, deq_f, dne_t, dne_f, not_true_eq_false, Int.reduceAdd, Int.reduceSub, Int.reduceMul, Int.reduceEq, Int.reduceLT, Int.reduceLE, Bool.false_and, Bool.true_and, Bool.and_true, 
      Bool.and_false, ↓xBin_add', ↓xBin_sub', ↓xBin_mul', ↓xBin_quo', ↓xBin_rem', wrap_in, ↓xIf_f, ↓xIf_tt, ↓xEx0, ↓xEx1, ↓xEx2, ↓xEx3, ↓xBin_eqs, ↓xBin_nes, ↓xUn_not, ↓xu8_eql, ↓xu16_eql, ↓xu32_eql, ↓xu64_eql, ↓xi64_eql, Int.toNat_natCast, 
      Int.reduceToNat, Nat.reduceMul, Nat.reduceAdd, Nat.reduceSub, Nat.mul_one, List.nil_append, List.cons_append, List.getElem?_toArray, List.getElem?_cons_zero, List.getElem?_cons_succ, cells_int, cells_bool, cells_string, 
      cells_slice, cells_pointer, cells_agg, one_int, one_bool, one_string, one_slice, one_pointer, List.setIfInBounds_toArray, List.set_cons_zero, List.set_cons_succ, ↓xSq_r, ↓xPur_s, ↓xRd_s, ↓xRe_s, ↓xDet_s, ↓xDet_ld, 
      ↓xDet_ld2, ↓xDet_ld3, ↓xDet_ld4, World.size_drew, Nat.zero_add, Nat.add_zero, cell_drew, frozen_drew, cell_set_eq, cell_set_o, cell_set_b, Option.map_some, World.frozen?_setCell, decide_true, decide_false, List.not_mem_nil, 
      not_false_eq_true, ↓xGuard_tt, Bool.not_true, Bool.not_false, ←decide_not, ↓ld_29, ↓bd_28, ↓ia_30, ↓ln_30, ↓bs_26_0, ↓bs_26_1, ↓bs_26_2, ↓bs_26_4, ↓bs_30_0, ↓bs_30_1, ↓nq_42, eq_self]
  refine xConv_bytes (by kernel_rfl) (by kernel_rfl) fun v3 F3 R3 z3 => ?_
  have H3 := H2.ext0 F3
  simp (disch := (first | omega | decide | (simp only [World.size_alloc, World.size_setCell, World.size_drew, List.mem_cons, List.not_mem_nil, or_false, not_false_eq_true] <;> omega) | fail)) only [↓xBox_r, ↓loadK_some, ↓loadsK_s, ↓loadsK_n, ↓loadsR_s, ↓loadsR_n, ↓storesK_s, ↓storesK_n, setCells_c, setCells_n, World.setCell_alloc_at, World.setCell_alloc_past, World.cell?_alloc_at, World.cell?_alloc_past, 
      World.frozen?_alloc_at, World.frozen?_alloc_past, World.size_alloc, ↓xPick_t, ↓xPick_f, ↓xGuard_tt, ↓xGuard_ff, ↓xGuard_tf, ↓xGuard_ft, ↓xGuard_u, ↓xNil_r, Option.isNone_some, Option.isNone_none, ↓xIf_t, tick_eq, tickV_eq, ne_eq, 
      dlt_t, dlt_f, dle_t, dle_f, deq_t, deq_f, dne_t, dne_f, not_true_eq_false, Int.reduceAdd, Int.reduceSub, Int.reduceMul, Int.reduceEq, Int.reduceLT, Int.reduceLE, Bool.false_and, Bool.true_and, Bool.and_true, 
      Bool.and_false, ↓xBin_add', ↓xBin_sub', ↓xBin_mul', ↓xBin_quo', ↓xBin_rem', wrap_in, ↓xIf_f, ↓xIf_tt, ↓xEx0, ↓xEx1, ↓xEx2, ↓xEx3, ↓xBin_eqs, ↓xBin_nes, ↓xUn_not, ↓xu8_eql, ↓xu16_eql, ↓xu32_eql, ↓xu64_eql, ↓xi64_eql, Int.toNat_natCast, 
      Int.reduceToNat, Nat.reduceMul, Nat.reduceAdd, Nat.reduceSub, Nat.mul_one, List.nil_append, List.cons_append, List.getElem?_toArray, List.getElem?_cons_zero, List.getElem?_cons_succ, cells_int, cells_bool, cells_string, 
      cells_slice, cells_pointer, cells_agg, one_int, one_bool, one_string, one_slice, one_pointer, List.setIfInBounds_toArray, List.set_cons_zero, List.set_cons_succ, ↓xSq_r, ↓xPur_s, ↓xRd_s, ↓xRe_s, ↓xDet_s, ↓xDet_ld, 
      ↓xDet_ld2, ↓xDet_ld3, ↓xDet_ld4, World.size_drew, Nat.zero_add, Nat.add_zero, cell_drew, frozen_drew, cell_set_eq, cell_set_o, cell_set_b, Option.map_some, World.frozen?_setCell, decide_true, decide_false, List.not_mem_nil, 
      not_false_eq_true, ↓xGuard_tt, Bool.not_true, Bool.not_false, ←decide_not, ↓ld_29, ↓bd_28, ↓ia_30, ↓ln_30, ↓bs_26_0, ↓bs_26_1, ↓bs_26_2, ↓bs_26_4, ↓bs_30_0, ↓bs_30_1, ↓nq_42, eq_self]
  have hab : RowAt v3 (some ⟨w2.heap.size, 0, none⟩) (bys [y8 97, y8 98]) := R3
  refine codec_Enc_Raw_call (Yld.mono (Enc_Raw_spec [y8 97, y8 98] (some ⟨w2.heap.size, 0, none⟩) 2 H3 (by decide +kernel) hab (fun h => by cases h) (fun _ b o hb hm => ?_)) ?_)
  · simp only [Option.some.injEq, Addr.mk.injEq, and_true] at hb
    have := (H2.up b hm).2
    omega
  rintro u w4 ⟨rfl, s4, F4, H4, S4⟩
  have G4 := (G2.trans F3).new F4 (up H3)
  simp (disch := (first | omega | decide | (simp only [World.size_alloc, World.size_setCell, World.size_drew, List.mem_cons, List.not_mem_nil, or_false, not_false_eq_true] <;> omega) | fail)) only [↓xBox_r, ↓loadK_some, ↓loadsK_s, ↓loadsK_n, ↓loadsR_s, ↓loadsR_n, ↓storesK_s, ↓storesK_n, setCells_c, setCells_n, World.setCell_alloc_at, World.setCell_alloc_past, World.cell?_alloc_at, World.cell?_alloc_past, 
      World.frozen?_alloc_at, World.frozen?_alloc_past, World.size_alloc, ↓xPick_t, ↓xPick_f, ↓xGuard_tt, ↓xGuard_ff, ↓xGuard_tf, ↓xGuard_ft, ↓xGuard_u, ↓xNil_r, Option.isNone_some, Option.isNone_none, ↓xIf_t, tick_eq, tickV_eq, ne_eq, 
      dlt_t, dlt_f, dle_t, dle_f, deq_t, deq_f, dne_t, dne_f, not_true_eq_false, Int.reduceAdd, Int.reduceSub, Int.reduceMul, Int.reduceEq, Int.reduceLT, Int.reduceLE, Bool.false_and, Bool.true_and, Bool.and_true, 
      Bool.and_false, ↓xBin_add', ↓xBin_sub', ↓xBin_mul', ↓xBin_quo', ↓xBin_rem', wrap_in, ↓xIf_f, ↓xIf_tt, ↓xEx0, ↓xEx1, ↓xEx2, ↓xEx3, ↓xBin_eqs, ↓xBin_nes, ↓xUn_not, ↓xu8_eql, ↓xu16_eql, ↓xu32_eql, ↓xu64_eql, ↓xi64_eql, Int.toNat_natCast, 
      Int.reduceToNat, Nat.reduceMul, Nat.reduceAdd, Nat.reduceSub, Nat.mul_one, List.nil_append, List.cons_append, List.getElem?_toArray, List.getElem?_cons_zero, List.getElem?_cons_succ, cells_int, cells_bool, cells_string, 
      cells_slice, cells_pointer, cells_agg, one_int, one_bool, one_string, one_slice, one_pointer, List.setIfInBounds_toArray, List.set_cons_zero, List.set_cons_succ, ↓xSq_r, ↓xPur_s, ↓xRd_s, ↓xRe_s, ↓xDet_s, ↓xDet_ld, 
      ↓xDet_ld2, ↓xDet_ld3, ↓xDet_ld4, World.size_drew, Nat.zero_add, Nat.add_zero, cell_drew, frozen_drew, cell_set_eq, cell_set_o, cell_set_b, Option.map_some, World.frozen?_setCell, decide_true, decide_false, List.not_mem_nil, 
      not_false_eq_true, ↓xGuard_tt, Bool.not_true, Bool.not_false, ←decide_not, ↓ld_29, ↓bd_28, ↓ia_30, ↓ln_30, ↓bs_26_0, ↓bs_26_1, ↓bs_26_2, ↓bs_26_4, ↓bs_30_0, ↓bs_30_1, ↓nq_42, eq_self]
  have H5 := H4.ext0 (Ext.alloc [] w4 (.cells (wrds [BitVec.ofNat 64 5]).toArray 29))
  have R5 : RowAt (w4.alloc (.cells (wrds [BitVec.ofNat 64 5]).toArray 29)) (some ⟨w4.heap.size, 0, none⟩) (wrds [BitVec.ofNat 64 5]) := (Blk.new (e := 29) w4 (wrds [BitVec.ofNat 64 5])).row
  refine codec_Enc_Words_call (Yld.mono (Enc_Words_spec [BitVec.ofNat 64 5] (some ⟨w4.heap.size, 0, none⟩) 1 H5 (by decide +kernel) R5 (fun _ b o hb hm => ?_)) ?_)
  · simp only [Option.some.injEq, Addr.mk.injEq, and_true] at hb
    have := (H4.up b hm).2
    omega
  rintro u w6 ⟨rfl, s6, F6, H6, S6⟩
  have G6 := (G4.trans (Ext.alloc [] w4 (.cells (wrds [BitVec.ofNat 64 5]).toArray 29))).new F6 (up H5)
  have hbytes : ((uintB (BitVec.ofNat 64 300) ++ uintB (zig (-1))) ++ (uintB (BitVec.ofNat 64 [y8 97, y8 98].length) ++ [y8 97, y8 98])) ++ (uintB (BitVec.ofNat 64 [BitVec.ofNat 64 5].length) ++ wordsB [BitVec.ofNat 64 5]) =
      [y8 172, y8 2, y8 1, y8 2, y8 97, y8 98, y8 1, y8 5, y8 0, y8 0, y8 0, y8 0, y8 0, y8 0, y8 0] := by decide +kernel
  rw [hbytes] at H6
  simp (disch := (first | omega | decide | (simp only [World.size_alloc, World.size_setCell, World.size_drew, List.mem_cons, List.not_mem_nil, or_false, not_false_eq_true] <;> omega) | fail)) only [↓xBox_r, ↓loadK_some, ↓loadsK_s, ↓loadsK_n, ↓loadsR_s, ↓loadsR_n, ↓storesK_s, ↓storesK_n, setCells_c, setCells_n, World.setCell_alloc_at, World.setCell_alloc_past, World.cell?_alloc_at, World.cell?_alloc_past, 
      World.frozen?_alloc_at, World.frozen?_alloc_past, World.size_alloc, ↓xPick_t, ↓xPick_f, ↓xGuard_tt, ↓xGuard_ff, ↓xGuard_tf, ↓xGuard_ft, ↓xGuard_u, ↓xNil_r, Option.isNone_some, Option.isNone_none, ↓xIf_t, tick_eq, tickV_eq, ne_eq, 
      dlt_t, dlt_f, dle_t, dle_f, deq_t, deq_f, dne_t, dne_f, not_true_eq_false, Int.reduceAdd, Int.reduceSub, Int.reduceMul, Int.reduceEq, Int.reduceLT, Int.reduceLE, Bool.false_and, Bool.true_and, Bool.and_true, 
      Bool.and_false, ↓xBin_add', ↓xBin_sub', ↓xBin_mul', ↓xBin_quo', ↓xBin_rem', wrap_in, ↓xIf_f, ↓xIf_tt, ↓xEx0, ↓xEx1, ↓xEx2, ↓xEx3, ↓xBin_eqs, ↓xBin_nes, ↓xUn_not, ↓xu8_eql, ↓xu16_eql, ↓xu32_eql, ↓xu64_eql, ↓xi64_eql, Int.toNat_natCast, 
      Int.reduceToNat, Nat.reduceMul, Nat.reduceAdd, Nat.reduceSub, Nat.mul_one, List.nil_append, List.cons_append, List.getElem?_toArray, List.getElem?_cons_zero, List.getElem?_cons_succ, cells_int, cells_bool, cells_string, 
      cells_slice, cells_pointer, cells_agg, one_int, one_bool, one_string, one_slice, one_pointer, List.setIfInBounds_toArray, List.set_cons_zero, List.set_cons_succ, ↓xSq_r, ↓xPur_s, ↓xRd_s, ↓xRe_s, ↓xDet_s, ↓xDet_ld, 
      ↓xDet_ld2, ↓xDet_ld3, ↓xDet_ld4, World.size_drew, Nat.zero_add, Nat.add_zero, cell_drew, frozen_drew, cell_set_eq, cell_set_o, cell_set_b, Option.map_some, World.frozen?_setCell, decide_true, decide_false, List.not_mem_nil, 
      not_false_eq_true, ↓xGuard_tt, Bool.not_true, Bool.not_false, ←decide_not, ↓ld_29, ↓bd_28, ↓ia_30, ↓ln_30, ↓bs_26_0, ↓bs_26_1, ↓bs_26_2, ↓bs_26_4, ↓bs_30_0, ↓bs_30_1, ↓nq_42, eq_self]
  refine codec_Enc_Bytes_call (Yld.mono (Enc_Bytes_spec H6 (by decide)) ?_)
  rintro u w7 ⟨F7, a7, c7, rfl, hc7, hn7, R7, N7⟩
  simp (disch := (first | omega | decide | (simp only [World.size_alloc, World.size_setCell, World.size_drew, List.mem_cons, List.not_mem_nil, or_false, not_false_eq_true] <;> omega) | fail)) only [↓xBox_r, ↓loadK_some, ↓loadsK_s, ↓loadsK_n, ↓loadsR_s, ↓loadsR_n, ↓storesK_s, ↓storesK_n, setCells_c, setCells_n, World.setCell_alloc_at, World.setCell_alloc_past, World.cell?_alloc_at, World.cell?_alloc_past, 
      World.frozen?_alloc_at, World.frozen?_alloc_past, World.size_alloc, ↓xPick_t, ↓xPick_f, ↓xGuard_tt, ↓xGuard_ff, ↓xGuard_tf, ↓xGuard_ft, ↓xGuard_u, ↓xNil_r, Option.isNone_some, Option.isNone_none, ↓xIf_t, tick_eq, tickV_eq, ne_eq, 
      dlt_t, dlt_f, dle_t, dle_f, deq_t, deq_f, dne_t, dne_f, not_true_eq_false, Int.reduceAdd, Int.reduceSub, Int.reduceMul, Int.reduceEq, Int.reduceLT, Int.reduceLE, Bool.false_and, Bool.true_and, Bool.and_true, 
      Bool.and_false, ↓xBin_add', ↓xBin_sub', ↓xBin_mul', ↓xBin_quo', ↓xBin_rem', wrap_in, ↓xIf_f, ↓xIf_tt, ↓xEx0, ↓xEx1, ↓xEx2, ↓xEx3, ↓xBin_eqs, ↓xBin_nes, ↓xUn_not, ↓xu8_eql, ↓xu16_eql, ↓xu32_eql, ↓xu64_eql, ↓xi64_eql, Int.toNat_natCast, 
      Int.reduceToNat, Nat.reduceMul, Nat.reduceAdd, Nat.reduceSub, Nat.mul_one, List.nil_append, List.cons_append, List.getElem?_toArray, List.getElem?_cons_zero, List.getElem?_cons_succ, cells_int, cells_bool, cells_string, 
      cells_slice, cells_pointer, cells_agg, one_int, one_bool, one_string, one_slice, one_pointer, List.setIfInBounds_toArray, List.set_cons_zero, List.set_cons_succ, ↓xSq_r, ↓xPur_s, ↓xRd_s, ↓xRe_s, ↓xDet_s, ↓xDet_ld, 
      ↓xDet_ld2, ↓xDet_ld3, ↓xDet_ld4, World.size_drew, Nat.zero_add, Nat.add_zero, cell_drew, frozen_drew, cell_set_eq, cell_set_o, cell_set_b, Option.map_some, World.frozen?_setCell, decide_true, decide_false, List.not_mem_nil, 
      not_false_eq_true, ↓xGuard_tt, Bool.not_true, Bool.not_false, ←decide_not, ↓ld_29, ↓bd_28, ↓ia_30, ↓ln_30, ↓bs_26_0, ↓bs_26_1, ↓bs_26_2, ↓bs_26_4, ↓bs_30_0, ↓bs_30_1, ↓nq_42, eq_self]
  refine codec_Of_call (Yld.mono (Dec_Of_spec _ a7 15 c7 w7 rfl (by decide) R7 hn7) ?_)
  rintro u w8 ⟨F8, gd, a8, c8', rfl, hgd, D8⟩
  have H8 := (H6.ext0 F7).ext0 F8
  have G8 := (G6.trans F7).trans F8
  have hgw : w.heap.size ≤ gd := Nat.le_trans (G6.trans F7).size hgd
  simp (disch := (first | omega | decide | (simp only [World.size_alloc, World.size_setCell, World.size_drew, List.mem_cons, List.not_mem_nil, or_false, not_false_eq_true] <;> omega) | fail)) only [↓xBox_r, ↓loadK_some, ↓loadsK_s, ↓loadsK_n, ↓loadsR_s, ↓loadsR_n, ↓storesK_s, ↓storesK_n, setCells_c, setCells_n, World.setCell_alloc_at, World.setCell_alloc_past, World.cell?_alloc_at, World.cell?_alloc_past, 
      World.frozen?_alloc_at, World.frozen?_alloc_past, World.size_alloc, ↓xPick_t, ↓xPick_f, ↓xGuard_tt, ↓xGuard_ff, ↓xGuard_tf, ↓xGuard_ft, ↓xGuard_u, ↓xNil_r, Option.isNone_some, Option.isNone_none, ↓xIf_t, tick_eq, tickV_eq, ne_eq, 
      dlt_t, dlt_f, dle_t, dle_f, deq_t, deq_f, dne_t, dne_f, not_true_eq_false, Int.reduceAdd, Int.reduceSub, Int.reduceMul, Int.reduceEq, Int.reduceLT, Int.reduceLE, Bool.false_and, Bool.true_and, Bool.and_true, 
      Bool.and_false, ↓xBin_add', ↓xBin_sub', ↓xBin_mul', ↓xBin_quo', ↓xBin_rem', wrap_in, ↓xIf_f, ↓xIf_tt, ↓xEx0, ↓xEx1, ↓xEx2, ↓xEx3, ↓xBin_eqs, ↓xBin_nes, ↓xUn_not, ↓xu8_eql, ↓xu16_eql, ↓xu32_eql, ↓xu64_eql, ↓xi64_eql, Int.toNat_natCast, 
      Int.reduceToNat, Nat.reduceMul, Nat.reduceAdd, Nat.reduceSub, Nat.mul_one, List.nil_append, List.cons_append, List.getElem?_toArray, List.getElem?_cons_zero, List.getElem?_cons_succ, cells_int, cells_bool, cells_string, 
      cells_slice, cells_pointer, cells_agg, one_int, one_bool, one_string, one_slice, one_pointer, List.setIfInBounds_toArray, List.set_cons_zero, List.set_cons_succ, ↓xSq_r, ↓xPur_s, ↓xRd_s, ↓xRe_s, ↓xDet_s, ↓xDet_ld, 
      ↓xDet_ld2, ↓xDet_ld3, ↓xDet_ld4, World.size_drew, Nat.zero_add, Nat.add_zero, cell_drew, frozen_drew, cell_set_eq, cell_set_o, cell_set_b, Option.map_some, World.frozen?_setCell, decide_true, decide_false, List.not_mem_nil, 
      not_false_eq_true, ↓xGuard_tt, Bool.not_true, Bool.not_false, ←decide_not, ↓ld_29, ↓bd_28, ↓ia_30, ↓ln_30, ↓bs_26_0, ↓bs_26_1, ↓bs_26_2, ↓bs_26_4, ↓bs_30_0, ↓bs_30_1, ↓nq_42, eq_self]
  have q1 : decU [y8 172, y8 2, y8 1, y8 2, y8 97, y8 98, y8 1, y8 5, y8 0, y8 0, y8 0, y8 0, y8 0, y8 0, y8 0] = .ok (BitVec.ofNat 64 300, [y8 1, y8 2, y8 97, y8 98, y8 1, y8 5, y8 0, y8 0, y8 0, y8 0, y8 0, y8 0, y8 0]) := by rfl
  refine codec_Dec_Uint_call (Yld.mono (Dec_Uint_spec D8) ?_)
  intro u v1 hr
  rw [q1] at hr
  obtain ⟨rfl, K1, a1, c1, D1⟩ := hr
  simp (disch := (first | omega | decide | (simp only [World.size_alloc, World.size_setCell, World.size_drew, List.mem_cons, List.not_mem_nil, or_false, not_false_eq_true] <;> omega) | fail)) only [↓xBox_r, ↓loadK_some, ↓loadsK_s, ↓loadsK_n, ↓loadsR_s, ↓loadsR_n, ↓storesK_s, ↓storesK_n, setCells_c, setCells_n, World.setCell_alloc_at, World.setCell_alloc_past, World.cell?_alloc_at, World.cell?_alloc_past, 
      World.frozen?_alloc_at, World.frozen?_alloc_past, World.size_alloc, ↓xPick_t, ↓xPick_f, ↓xGuard_tt, ↓xGuard_ff, ↓xGuard_tf, ↓xGuard_ft, ↓xGuard_u, ↓xNil_r, Option.isNone_some, Option.isNone_none, ↓xIf_t, tick_eq, tickV_eq, ne_eq, 
      dlt_t, dlt_f, dle_t, dle_f, deq_t, deq_f, dne_t, dne_f, not_true_eq_false, Int.reduceAdd, Int.reduceSub, Int.reduceMul, Int.reduceEq, Int.reduceLT, Int.reduceLE, Bool.false_and, Bool.true_and, Bool.and_true, 
      Bool.and_false, ↓xBin_add', ↓xBin_sub', ↓xBin_mul', ↓xBin_quo', ↓xBin_rem', wrap_in, ↓xIf_f, ↓xIf_tt, ↓xEx0, ↓xEx1, ↓xEx2, ↓xEx3, ↓xBin_eqs, ↓xBin_nes, ↓xUn_not, ↓xu8_eql, ↓xu16_eql, ↓xu32_eql, ↓xu64_eql, ↓xi64_eql, Int.toNat_natCast, 
      Int.reduceToNat, Nat.reduceMul, Nat.reduceAdd, Nat.reduceSub, Nat.mul_one, List.nil_append, List.cons_append, List.getElem?_toArray, List.getElem?_cons_zero, List.getElem?_cons_succ, cells_int, cells_bool, cells_string, 
      cells_slice, cells_pointer, cells_agg, one_int, one_bool, one_string, one_slice, one_pointer, List.setIfInBounds_toArray, List.set_cons_zero, List.set_cons_succ, ↓xSq_r, ↓xPur_s, ↓xRd_s, ↓xRe_s, ↓xDet_s, ↓xDet_ld, 
      ↓xDet_ld2, ↓xDet_ld3, ↓xDet_ld4, World.size_drew, Nat.zero_add, Nat.add_zero, cell_drew, frozen_drew, cell_set_eq, cell_set_o, cell_set_b, Option.map_some, World.frozen?_setCell, decide_true, decide_false, List.not_mem_nil, 
      not_false_eq_true, ↓xGuard_tt, Bool.not_true, Bool.not_false, ←decide_not, ↓ld_29, ↓bd_28, ↓ia_30, ↓ln_30, ↓bs_26_0, ↓bs_26_1, ↓bs_26_2, ↓bs_26_4, ↓bs_30_0, ↓bs_30_1, ↓nq_42, eq_self]
  have q2 : decU [y8 1, y8 2, y8 97, y8 98, y8 1, y8 5, y8 0, y8 0, y8 0, y8 0, y8 0, y8 0, y8 0] = .ok (BitVec.ofNat 64 1, [y8 2, y8 97, y8 98, y8 1, y8 5, y8 0, y8 0, y8 0, y8 0, y8 0, y8 0, y8 0]) := by rfl
  refine codec_Dec_Int_call (Yld.mono (Dec_Int_spec D1) ?_)
  intro u v2 hr
  rw [q2] at hr
  obtain ⟨rfl, K2, a2, c2, D2⟩ := hr
  rw [show zag (BitVec.ofNat 64 1) = -1 by decide +kernel]
  simp (disch := (first | omega | decide | (simp only [World.size_alloc, World.size_setCell, World.size_drew, List.mem_cons, List.not_mem_nil, or_false, not_false_eq_true] <;> omega) | fail)) only [↓xBox_r, ↓loadK_some, ↓loadsK_s, ↓loadsK_n, ↓loadsR_s, ↓loadsR_n, ↓storesK_s, ↓storesK_n, setCells_c, setCells_n, World.setCell_alloc_at, World.setCell_alloc_past, World.cell?_alloc_at, World.cell?_alloc_past, 
      World.frozen?_alloc_at, World.frozen?_alloc_past, World.size_alloc, ↓xPick_t, ↓xPick_f, ↓xGuard_tt, ↓xGuard_ff, ↓xGuard_tf, ↓xGuard_ft, ↓xGuard_u, ↓xNil_r, Option.isNone_some, Option.isNone_none, ↓xIf_t, tick_eq, tickV_eq, ne_eq, 
      dlt_t, dlt_f, dle_t, dle_f, deq_t, deq_f, dne_t, dne_f, not_true_eq_false, Int.reduceAdd, Int.reduceSub, Int.reduceMul, Int.reduceEq, Int.reduceLT, Int.reduceLE, Bool.false_and, Bool.true_and, Bool.and_true, 
      Bool.and_false, ↓xBin_add', ↓xBin_sub', ↓xBin_mul', ↓xBin_quo', ↓xBin_rem', wrap_in, ↓xIf_f, ↓xIf_tt, ↓xEx0, ↓xEx1, ↓xEx2, ↓xEx3, ↓xBin_eqs, ↓xBin_nes, ↓xUn_not, ↓xu8_eql, ↓xu16_eql, ↓xu32_eql, ↓xu64_eql, ↓xi64_eql, Int.toNat_natCast, 
      Int.reduceToNat, Nat.reduceMul, Nat.reduceAdd, Nat.reduceSub, Nat.mul_one, List.nil_append, List.cons_append, List.getElem?_toArray, List.getElem?_cons_zero, List.getElem?_cons_succ, cells_int, cells_bool, cells_string, 
      cells_slice, cells_pointer, cells_agg, one_int, one_bool, one_string, one_slice, one_pointer, List.setIfInBounds_toArray, List.set_cons_zero, List.set_cons_succ, ↓xSq_r, ↓xPur_s, ↓xRd_s, ↓xRe_s, ↓xDet_s, ↓xDet_ld, 
      ↓xDet_ld2, ↓xDet_ld3, ↓xDet_ld4, World.size_drew, Nat.zero_add, Nat.add_zero, cell_drew, frozen_drew, cell_set_eq, cell_set_o, cell_set_b, Option.map_some, World.frozen?_setCell, decide_true, decide_false, List.not_mem_nil, 
      not_false_eq_true, ↓xGuard_tt, Bool.not_true, Bool.not_false, ←decide_not, ↓ld_29, ↓bd_28, ↓ia_30, ↓ln_30, ↓bs_26_0, ↓bs_26_1, ↓bs_26_2, ↓bs_26_4, ↓bs_30_0, ↓bs_30_1, ↓nq_42, eq_self]
  have q3 : decRaw [y8 2, y8 97, y8 98, y8 1, y8 5, y8 0, y8 0, y8 0, y8 0, y8 0, y8 0, y8 0] = .ok ([y8 97, y8 98], [y8 1, y8 5, y8 0, y8 0, y8 0, y8 0, y8 0, y8 0, y8 0]) := by rfl
  refine codec_Dec_Raw_call (Yld.mono (Dec_Raw_spec D2) ?_)
  intro u v3 hr
  rw [q3] at hr
  obtain ⟨⟨ar, cr, rfl, hr1, hr2, Rr, Nr⟩, K3, a3, c3, D3⟩ := hr
  simp (disch := (first | omega | decide | (simp only [World.size_alloc, World.size_setCell, World.size_drew, List.mem_cons, List.not_mem_nil, or_false, not_false_eq_true] <;> omega) | fail)) only [↓xBox_r, ↓loadK_some, ↓loadsK_s, ↓loadsK_n, ↓loadsR_s, ↓loadsR_n, ↓storesK_s, ↓storesK_n, setCells_c, setCells_n, World.setCell_alloc_at, World.setCell_alloc_past, World.cell?_alloc_at, World.cell?_alloc_past, 
      World.frozen?_alloc_at, World.frozen?_alloc_past, World.size_alloc, ↓xPick_t, ↓xPick_f, ↓xGuard_tt, ↓xGuard_ff, ↓xGuard_tf, ↓xGuard_ft, ↓xGuard_u, ↓xNil_r, Option.isNone_some, Option.isNone_none, ↓xIf_t, tick_eq, tickV_eq, ne_eq, 
      dlt_t, dlt_f, dle_t, dle_f, deq_t, deq_f, dne_t, dne_f, not_true_eq_false, Int.reduceAdd, Int.reduceSub, Int.reduceMul, Int.reduceEq, Int.reduceLT, Int.reduceLE, Bool.false_and, Bool.true_and, Bool.and_true, 
      Bool.and_false, ↓xBin_add', ↓xBin_sub', ↓xBin_mul', ↓xBin_quo', ↓xBin_rem', wrap_in, ↓xIf_f, ↓xIf_tt, ↓xEx0, ↓xEx1, ↓xEx2, ↓xEx3, ↓xBin_eqs, ↓xBin_nes, ↓xUn_not, ↓xu8_eql, ↓xu16_eql, ↓xu32_eql, ↓xu64_eql, ↓xi64_eql, Int.toNat_natCast, 
      Int.reduceToNat, Nat.reduceMul, Nat.reduceAdd, Nat.reduceSub, Nat.mul_one, List.nil_append, List.cons_append, List.getElem?_toArray, List.getElem?_cons_zero, List.getElem?_cons_succ, cells_int, cells_bool, cells_string, 
      cells_slice, cells_pointer, cells_agg, one_int, one_bool, one_string, one_slice, one_pointer, List.setIfInBounds_toArray, List.set_cons_zero, List.set_cons_succ, ↓xSq_r, ↓xPur_s, ↓xRd_s, ↓xRe_s, ↓xDet_s, ↓xDet_ld, 
      ↓xDet_ld2, ↓xDet_ld3, ↓xDet_ld4, World.size_drew, Nat.zero_add, Nat.add_zero, cell_drew, frozen_drew, cell_set_eq, cell_set_o, cell_set_b, Option.map_some, World.frozen?_setCell, decide_true, decide_false, List.not_mem_nil, 
      not_false_eq_true, ↓xGuard_tt, Bool.not_true, Bool.not_false, ←decide_not, ↓ld_29, ↓bd_28, ↓ia_30, ↓ln_30, ↓bs_26_0, ↓bs_26_1, ↓bs_26_2, ↓bs_26_4, ↓bs_30_0, ↓bs_30_1, ↓nq_42, eq_self]
  have q4 : decWords [y8 1, y8 5, y8 0, y8 0, y8 0, y8 0, y8 0, y8 0, y8 0] = .ok ([BitVec.ofNat 64 5], []) := by rfl
  refine codec_Dec_Words_call (Yld.mono (Dec_Words_spec D3) ?_)
  intro u v4 hr
  rw [q4] at hr
  obtain ⟨⟨aw, cw, rfl, hw1, hw2, Rw, Nw⟩, K4, a4, c4, D4⟩ := hr
  have KK : Ext [gd] w8 v4 := ((K1.trans K2).trans K3).trans K4
  have H9 : EncIs v4 w.heap.size w.heap.size s6 _ := H8.ext KK (fun b hb hm => by
    have := (H6.up b hb).2
    have := F7.size
    simp at hm
    omega)
  have G9 : Ext [] w v4 := G8.new KK (by simpa using hgw)
  have Rr4 : RowAt v4 ar (bys [y8 97, y8 98]) := Rr.ext K4 (fun b o e hm => by
    have n1 := (Nr _ e).1
    have := D2.blk.lt
    simp at hm
    simp only at n1
    omega)
  simp (disch := (first | omega | decide | (simp only [World.size_alloc, World.size_setCell, World.size_drew, List.mem_cons, List.not_mem_nil, or_false, not_false_eq_true] <;> omega) | fail)) only [↓xBox_r, ↓loadK_some, ↓loadsK_s, ↓loadsK_n, ↓loadsR_s, ↓loadsR_n, ↓storesK_s, ↓storesK_n, setCells_c, setCells_n, World.setCell_alloc_at, World.setCell_alloc_past, World.cell?_alloc_at, World.cell?_alloc_past, 
      World.frozen?_alloc_at, World.frozen?_alloc_past, World.size_alloc, ↓xPick_t, ↓xPick_f, ↓xGuard_tt, ↓xGuard_ff, ↓xGuard_tf, ↓xGuard_ft, ↓xGuard_u, ↓xNil_r, Option.isNone_some, Option.isNone_none, ↓xIf_t, tick_eq, tickV_eq, ne_eq, 
      dlt_t, dlt_f, dle_t, dle_f, deq_t, deq_f, dne_t, dne_f, not_true_eq_false, Int.reduceAdd, Int.reduceSub, Int.reduceMul, Int.reduceEq, Int.reduceLT, Int.reduceLE, Bool.false_and, Bool.true_and, Bool.and_true, 
      Bool.and_false, ↓xBin_add', ↓xBin_sub', ↓xBin_mul', ↓xBin_quo', ↓xBin_rem', wrap_in, ↓xIf_f, ↓xIf_tt, ↓xEx0, ↓xEx1, ↓xEx2, ↓xEx3, ↓xBin_eqs, ↓xBin_nes, ↓xUn_not, ↓xu8_eql, ↓xu16_eql, ↓xu32_eql, ↓xu64_eql, ↓xi64_eql, Int.toNat_natCast, 
      Int.reduceToNat, Nat.reduceMul, Nat.reduceAdd, Nat.reduceSub, Nat.mul_one, List.nil_append, List.cons_append, List.getElem?_toArray, List.getElem?_cons_zero, List.getElem?_cons_succ, cells_int, cells_bool, cells_string, 
      cells_slice, cells_pointer, cells_agg, one_int, one_bool, one_string, one_slice, one_pointer, List.setIfInBounds_toArray, List.set_cons_zero, List.set_cons_succ, ↓xSq_r, ↓xPur_s, ↓xRd_s, ↓xRe_s, ↓xDet_s, ↓xDet_ld, 
      ↓xDet_ld2, ↓xDet_ld3, ↓xDet_ld4, World.size_drew, Nat.zero_add, Nat.add_zero, cell_drew, frozen_drew, cell_set_eq, cell_set_o, cell_set_b, Option.map_some, World.frozen?_setCell, decide_true, decide_false, List.not_mem_nil, 
      not_false_eq_true, ↓xGuard_tt, Bool.not_true, Bool.not_false, ←decide_not, ↓ld_29, ↓bd_28, ↓ia_30, ↓ln_30, ↓bs_26_0, ↓bs_26_1, ↓bs_26_2, ↓bs_26_4, ↓bs_30_0, ↓bs_30_1, ↓nq_42, eq_self]
  refine codec_Enc_Bytes_call (Yld.mono (Enc_Bytes_spec H9 (by decide)) ?_)
  rintro u v5 ⟨F9, a9, c9, rfl, hc9, hn9, R9, N9⟩
  simp (disch := (first | omega | decide | (simp only [World.size_alloc, World.size_setCell, World.size_drew, List.mem_cons, List.not_mem_nil, or_false, not_false_eq_true] <;> omega) | fail)) only [↓xBox_r, ↓loadK_some, ↓loadsK_s, ↓loadsK_n, ↓loadsR_s, ↓loadsR_n, ↓storesK_s, ↓storesK_n, setCells_c, setCells_n, World.setCell_alloc_at, World.setCell_alloc_past, World.cell?_alloc_at, World.cell?_alloc_past, 
      World.frozen?_alloc_at, World.frozen?_alloc_past, World.size_alloc, ↓xPick_t, ↓xPick_f, ↓xGuard_tt, ↓xGuard_ff, ↓xGuard_tf, ↓xGuard_ft, ↓xGuard_u, ↓xNil_r, Option.isNone_some, Option.isNone_none, ↓xIf_t, tick_eq, tickV_eq, ne_eq, 
      dlt_t, dlt_f, dle_t, dle_f, deq_t, deq_f, dne_t, dne_f, not_true_eq_false, Int.reduceAdd, Int.reduceSub, Int.reduceMul, Int.reduceEq, Int.reduceLT, Int.reduceLE, Bool.false_and, Bool.true_and, Bool.and_true, 
      Bool.and_false, ↓xBin_add', ↓xBin_sub', ↓xBin_mul', ↓xBin_quo', ↓xBin_rem', wrap_in, ↓xIf_f, ↓xIf_tt, ↓xEx0, ↓xEx1, ↓xEx2, ↓xEx3, ↓xBin_eqs, ↓xBin_nes, ↓xUn_not, ↓xu8_eql, ↓xu16_eql, ↓xu32_eql, ↓xu64_eql, ↓xi64_eql, Int.toNat_natCast, 
      Int.reduceToNat, Nat.reduceMul, Nat.reduceAdd, Nat.reduceSub, Nat.mul_one, List.nil_append, List.cons_append, List.getElem?_toArray, List.getElem?_cons_zero, List.getElem?_cons_succ, cells_int, cells_bool, cells_string, 
      cells_slice, cells_pointer, cells_agg, one_int, one_bool, one_string, one_slice, one_pointer, List.setIfInBounds_toArray, List.set_cons_zero, List.set_cons_succ, ↓xSq_r, ↓xPur_s, ↓xRd_s, ↓xRe_s, ↓xDet_s, ↓xDet_ld, 
      ↓xDet_ld2, ↓xDet_ld3, ↓xDet_ld4, World.size_drew, Nat.zero_add, Nat.add_zero, cell_drew, frozen_drew, cell_set_eq, cell_set_o, cell_set_b, Option.map_some, World.frozen?_setCell, decide_true, decide_false, List.not_mem_nil, 
      not_false_eq_true, ↓xGuard_tt, Bool.not_true, Bool.not_false, ←decide_not, ↓ld_29, ↓bd_28, ↓ia_30, ↓ln_30, ↓bs_26_0, ↓bs_26_1, ↓bs_26_2, ↓bs_26_4, ↓bs_30_0, ↓bs_30_1, ↓nq_42, eq_self]
  rw [xConv_str (e := 5) (l := [y8 172, y8 2, y8 1, y8 2, y8 97, y8 98, y8 1, y8 5, y8 0, y8 0, y8 0, y8 0, y8 0, y8 0, y8 0]) (by kernel_rfl) (by kernel_rfl) (by kernel_rfl) rfl R9]
  rw [show strOf [y8 172, y8 2, y8 1, y8 2, y8 97, y8 98, y8 1, y8 5, y8 0, y8 0, y8 0, y8 0, y8 0, y8 0, y8 0] = { data := #[172, 2, 1, 2, 97, 98, 1, 5, 0, 0, 0, 0, 0, 0, 0] } by decide +kernel]
  simp (disch := (first | omega | decide | (simp only [World.size_alloc, World.size_setCell, World.size_drew, List.mem_cons, List.not_mem_nil, or_false, not_false_eq_true] <;> omega) | fail)) only [↓xBox_r, ↓loadK_some, ↓loadsK_s, ↓loadsK_n, ↓loadsR_s, ↓loadsR_n, ↓storesK_s, ↓storesK_n, setCells_c, setCells_n, World.setCell_alloc_at, World.setCell_alloc_past, World.cell?_alloc_at, World.cell?_alloc_past, 
      World.frozen?_alloc_at, World.frozen?_alloc_past, World.size_alloc, ↓xPick_t, ↓xPick_f, ↓xGuard_tt, ↓xGuard_ff, ↓xGuard_tf, ↓xGuard_ft, ↓xGuard_u, ↓xNil_r, Option.isNone_some, Option.isNone_none, ↓xIf_t, tick_eq, tickV_eq, ne_eq, 
      dlt_t, dlt_f, dle_t, dle_f, deq_t, deq_f, dne_t, dne_f, not_true_eq_false, Int.reduceAdd, Int.reduceSub, Int.reduceMul, Int.reduceEq, Int.reduceLT, Int.reduceLE, Bool.false_and, Bool.true_and, Bool.and_true, 
      Bool.and_false, ↓xBin_add', ↓xBin_sub', ↓xBin_mul', ↓xBin_quo', ↓xBin_rem', wrap_in, ↓xIf_f, ↓xIf_tt, ↓xEx0, ↓xEx1, ↓xEx2, ↓xEx3, ↓xBin_eqs, ↓xBin_nes, ↓xUn_not, ↓xu8_eql, ↓xu16_eql, ↓xu32_eql, ↓xu64_eql, ↓xi64_eql, Int.toNat_natCast, 
      Int.reduceToNat, Nat.reduceMul, Nat.reduceAdd, Nat.reduceSub, Nat.mul_one, List.nil_append, List.cons_append, List.getElem?_toArray, List.getElem?_cons_zero, List.getElem?_cons_succ, cells_int, cells_bool, cells_string, 
      cells_slice, cells_pointer, cells_agg, one_int, one_bool, one_string, one_slice, one_pointer, List.setIfInBounds_toArray, List.set_cons_zero, List.set_cons_succ, ↓xSq_r, ↓xPur_s, ↓xRd_s, ↓xRe_s, ↓xDet_s, ↓xDet_ld, 
      ↓xDet_ld2, ↓xDet_ld3, ↓xDet_ld4, World.size_drew, Nat.zero_add, Nat.add_zero, cell_drew, frozen_drew, cell_set_eq, cell_set_o, cell_set_b, Option.map_some, World.frozen?_setCell, decide_true, decide_false, List.not_mem_nil, 
      not_false_eq_true, ↓xGuard_tt, Bool.not_true, Bool.not_false, ←decide_not, ↓ld_29, ↓bd_28, ↓ia_30, ↓ln_30, ↓bs_26_0, ↓bs_26_1, ↓bs_26_2, ↓bs_26_4, ↓bs_30_0, ↓bs_30_1, ↓nq_42, eq_self]
  rw [xConv_str (e := 5) (l := [y8 97, y8 98]) (by kernel_rfl) (by kernel_rfl) (by kernel_rfl) rfl (Rr4.ext0 F9)]
  rw [show strOf [y8 97, y8 98] = { data := #[97, 98] } by decide +kernel]
  obtain ⟨b, o, rfl, hb, hc⟩ := (Rw.ext0 F9).at (i := 0) (by decide)
  simp only [List.getElem_map, List.getElem_cons_zero, Nat.add_zero] at hc
  simp (disch := (first | omega | decide | (simp only [World.size_alloc, World.size_setCell, World.size_drew, List.mem_cons, List.not_mem_nil, or_false, not_false_eq_true] <;> omega) | fail)) only [↓xBox_r, ↓loadK_some, ↓loadsK_s, ↓loadsK_n, ↓loadsR_s, ↓loadsR_n, ↓storesK_s, ↓storesK_n, setCells_c, setCells_n, World.setCell_alloc_at, World.setCell_alloc_past, World.cell?_alloc_at, World.cell?_alloc_past, 
      World.frozen?_alloc_at, World.frozen?_alloc_past, World.size_alloc, ↓xPick_t, ↓xPick_f, ↓xGuard_tt, ↓xGuard_ff, ↓xGuard_tf, ↓xGuard_ft, ↓xGuard_u, ↓xNil_r, Option.isNone_some, Option.isNone_none, ↓xIf_t, tick_eq, tickV_eq, ne_eq, 
      dlt_t, dlt_f, dle_t, dle_f, deq_t, deq_f, dne_t, dne_f, not_true_eq_false, Int.reduceAdd, Int.reduceSub, Int.reduceMul, Int.reduceEq, Int.reduceLT, Int.reduceLE, Bool.false_and, Bool.true_and, Bool.and_true, 
      Bool.and_false, ↓xBin_add', ↓xBin_sub', ↓xBin_mul', ↓xBin_quo', ↓xBin_rem', wrap_in, ↓xIf_f, ↓xIf_tt, ↓xEx0, ↓xEx1, ↓xEx2, ↓xEx3, ↓xBin_eqs, ↓xBin_nes, ↓xUn_not, ↓xu8_eql, ↓xu16_eql, ↓xu32_eql, ↓xu64_eql, ↓xi64_eql, Int.toNat_natCast, 
      Int.reduceToNat, Nat.reduceMul, Nat.reduceAdd, Nat.reduceSub, Nat.mul_one, List.nil_append, List.cons_append, List.getElem?_toArray, List.getElem?_cons_zero, List.getElem?_cons_succ, cells_int, cells_bool, cells_string, 
      cells_slice, cells_pointer, cells_agg, one_int, one_bool, one_string, one_slice, one_pointer, List.setIfInBounds_toArray, List.set_cons_zero, List.set_cons_succ, ↓xSq_r, ↓xPur_s, ↓xRd_s, ↓xRe_s, ↓xDet_s, ↓xDet_ld, 
      ↓xDet_ld2, ↓xDet_ld3, ↓xDet_ld4, World.size_drew, Nat.zero_add, Nat.add_zero, cell_drew, frozen_drew, cell_set_eq, cell_set_o, cell_set_b, Option.map_some, World.frozen?_setCell, decide_true, decide_false, List.not_mem_nil, 
      not_false_eq_true, ↓xGuard_tt, Bool.not_true, Bool.not_false, ←decide_not, ↓ld_29, ↓bd_28, ↓ia_30, ↓ln_30, ↓bs_26_0, ↓bs_26_1, ↓bs_26_2, ↓bs_26_4, ↓bs_30_0, ↓bs_30_1, ↓nq_42, hc]
  refine codec_Dec_Left_call (Gives.to (Dec_Left_spec (D4.ext0 F9)) fun v6 F10 => ?_)
  simp (disch := (first | omega | decide | (simp only [World.size_alloc, World.size_setCell, World.size_drew, List.mem_cons, List.not_mem_nil, or_false, not_false_eq_true] <;> omega) | fail)) only [↓xBox_r, ↓loadK_some, ↓loadsK_s, ↓loadsK_n, ↓loadsR_s, ↓loadsR_n, ↓storesK_s, ↓storesK_n, setCells_c, setCells_n, World.setCell_alloc_at, World.setCell_alloc_past, World.cell?_alloc_at, World.cell?_alloc_past, 
      World.frozen?_alloc_at, World.frozen?_alloc_past, World.size_alloc, ↓xPick_t, ↓xPick_f, ↓xGuard_tt, ↓xGuard_ff, ↓xGuard_tf, ↓xGuard_ft, ↓xGuard_u, ↓xNil_r, Option.isNone_some, Option.isNone_none, ↓xIf_t, tick_eq, tickV_eq, ne_eq, 
      dlt_t, dlt_f, dle_t, dle_f, deq_t, deq_f, dne_t, dne_f, not_true_eq_false, Int.reduceAdd, Int.reduceSub, Int.reduceMul, Int.reduceEq, Int.reduceLT, Int.reduceLE, Bool.false_and, Bool.true_and, Bool.and_true, 
      Bool.and_false, ↓xBin_add', ↓xBin_sub', ↓xBin_mul', ↓xBin_quo', ↓xBin_rem', wrap_in, ↓xIf_f, ↓xIf_tt, ↓xEx0, ↓xEx1, ↓xEx2, ↓xEx3, ↓xBin_eqs, ↓xBin_nes, ↓xUn_not, ↓xu8_eql, ↓xu16_eql, ↓xu32_eql, ↓xu64_eql, ↓xi64_eql, Int.toNat_natCast, 
      Int.reduceToNat, Nat.reduceMul, Nat.reduceAdd, Nat.reduceSub, Nat.mul_one, List.nil_append, List.cons_append, List.getElem?_toArray, List.getElem?_cons_zero, List.getElem?_cons_succ, cells_int, cells_bool, cells_string, 
      cells_slice, cells_pointer, cells_agg, one_int, one_bool, one_string, one_slice, one_pointer, List.setIfInBounds_toArray, List.set_cons_zero, List.set_cons_succ, ↓xSq_r, ↓xPur_s, ↓xRd_s, ↓xRe_s, ↓xDet_s, ↓xDet_ld, 
      ↓xDet_ld2, ↓xDet_ld3, ↓xDet_ld4, World.size_drew, Nat.zero_add, Nat.add_zero, cell_drew, frozen_drew, cell_set_eq, cell_set_o, cell_set_b, Option.map_some, World.frozen?_setCell, decide_true, decide_false, List.not_mem_nil, 
      not_false_eq_true, ↓xGuard_tt, Bool.not_true, Bool.not_false, ←decide_not, ↓ld_29, ↓bd_28, ↓ia_30, ↓ln_30, ↓bs_26_0, ↓bs_26_1, ↓bs_26_2, ↓bs_26_4, ↓bs_30_0, ↓bs_30_1, ↓nq_42, hc]
  refine codec_Dec_Err_call (Gives.to (Dec_Err_spec ((D4.ext0 F9).ext0 F10)) fun v7 F11 => ?_)
  simp (disch := (first | omega | decide | (simp only [World.size_alloc, World.size_setCell, World.size_drew, List.mem_cons, List.not_mem_nil, or_false, not_false_eq_true] <;> omega) | fail)) only [↓xBox_r, ↓loadK_some, ↓loadsK_s, ↓loadsK_n, ↓loadsR_s, ↓loadsR_n, ↓storesK_s, ↓storesK_n, setCells_c, setCells_n, World.setCell_alloc_at, World.setCell_alloc_past, World.cell?_alloc_at, World.cell?_alloc_past, 
      World.frozen?_alloc_at, World.frozen?_alloc_past, World.size_alloc, ↓xPick_t, ↓xPick_f, ↓xGuard_tt, ↓xGuard_ff, ↓xGuard_tf, ↓xGuard_ft, ↓xGuard_u, ↓xNil_r, Option.isNone_some, Option.isNone_none, ↓xIf_t, tick_eq, tickV_eq, ne_eq, 
      dlt_t, dlt_f, dle_t, dle_f, deq_t, deq_f, dne_t, dne_f, not_true_eq_false, Int.reduceAdd, Int.reduceSub, Int.reduceMul, Int.reduceEq, Int.reduceLT, Int.reduceLE, Bool.false_and, Bool.true_and, Bool.and_true, 
      Bool.and_false, ↓xBin_add', ↓xBin_sub', ↓xBin_mul', ↓xBin_quo', ↓xBin_rem', wrap_in, ↓xIf_f, ↓xIf_tt, ↓xEx0, ↓xEx1, ↓xEx2, ↓xEx3, ↓xBin_eqs, ↓xBin_nes, ↓xUn_not, ↓xu8_eql, ↓xu16_eql, ↓xu32_eql, ↓xu64_eql, ↓xi64_eql, Int.toNat_natCast, 
      Int.reduceToNat, Nat.reduceMul, Nat.reduceAdd, Nat.reduceSub, Nat.mul_one, List.nil_append, List.cons_append, List.getElem?_toArray, List.getElem?_cons_zero, List.getElem?_cons_succ, cells_int, cells_bool, cells_string, 
      cells_slice, cells_pointer, cells_agg, one_int, one_bool, one_string, one_slice, one_pointer, List.setIfInBounds_toArray, List.set_cons_zero, List.set_cons_succ, ↓xSq_r, ↓xPur_s, ↓xRd_s, ↓xRe_s, ↓xDet_s, ↓xDet_ld, 
      ↓xDet_ld2, ↓xDet_ld3, ↓xDet_ld4, World.size_drew, Nat.zero_add, Nat.add_zero, cell_drew, frozen_drew, cell_set_eq, cell_set_o, cell_set_b, Option.map_some, World.frozen?_setCell, decide_true, decide_false, List.not_mem_nil, 
      not_false_eq_true, ↓xGuard_tt, Bool.not_true, Bool.not_false, ←decide_not, ↓ld_29, ↓bd_28, ↓ia_30, ↓ln_30, ↓bs_26_0, ↓bs_26_1, ↓bs_26_2, ↓bs_26_4, ↓bs_30_0, ↓bs_30_1, ↓nq_42, hc]
  exact ⟨by trivial, ((G9.trans F9).trans F10).trans F11⟩
/-- the document's number with a sign -/
theorem rZig_spec (v : Int) (hv : inI64 v) (w : World) : Gives Try.prog n_loamref5_Zig #[i64 v] w (u64 (rZig v)) := by
  have h1 := hv.1
  have h2 := hv.2
  refine loamref5_Zig_of ?_
  unfold loamref5_Zig
  by_cases h : v < 0
  · have e : rZig v = (BitVec.ofInt 64 (0 - (v + 1)) <<< 1) ||| o64 := if_pos h
    simp (disch := (first | omega | decide | (simp only [World.size_alloc, World.size_setCell, World.size_drew, List.mem_cons, List.not_mem_nil, or_false, not_false_eq_true] <;> omega) | fail)) only [↓xBox_r, ↓loadK_some, ↓loadsK_s, ↓loadsK_n, ↓loadsR_s, ↓loadsR_n, ↓storesK_s, ↓storesK_n, setCells_c, setCells_n, World.setCell_alloc_at, World.setCell_alloc_past, World.cell?_alloc_at, World.cell?_alloc_past, 
      World.frozen?_alloc_at, World.frozen?_alloc_past, World.size_alloc, ↓xPick_t, ↓xPick_f, ↓xGuard_tt, ↓xGuard_ff, ↓xGuard_tf, ↓xGuard_ft, ↓xGuard_u, ↓xNil_r, Option.isNone_some, Option.isNone_none, ↓xIf_t, tick_eq, tickV_eq, ne_eq, 
      dlt_t, dlt_f, dle_t, dle_f, deq_t, deq_f, dne_t, dne_f, not_true_eq_false, Int.reduceAdd, Int.reduceSub, Int.reduceMul, Int.reduceEq, Int.reduceLT, Int.reduceLE, Bool.false_and, Bool.true_and, Bool.and_true, 
      Bool.and_false, ↓xBin_add', ↓xBin_sub', ↓xBin_mul', ↓xBin_quo', ↓xBin_rem', wrap_in, ↓xIf_f, ↓xIf_tt, ↓xEx0, ↓xEx1, ↓xEx2, ↓xEx3, ↓xBin_eqs, ↓xBin_nes, ↓xUn_not, ↓xu8_add, ↓xu8_sub, ↓xu8_or, ↓xu8_shl, ↓xu8_lss, ↓xu16_add, 
      ↓xu16_sub, ↓xu16_or, ↓xu16_shl, ↓xu16_lss, ↓xu32_add, ↓xu32_sub, ↓xu32_or, ↓xu32_shl, ↓xu32_lss, ↓xu64_add, ↓xu64_sub, ↓xu64_or, ↓xu64_shl, ↓xu64_lss, ↓xi64_lss, ↓xi64_or, ↓xi64_shl, Int.toNat_natCast, Int.reduceToNat, 
      Nat.reduceMul, Nat.reduceAdd, Nat.reduceSub, Nat.mul_one, List.nil_append, List.cons_append, List.getElem?_toArray, List.getElem?_cons_zero, List.getElem?_cons_succ, cells_int, cells_bool, cells_string, cells_slice, 
      cells_pointer, cells_agg, one_int, one_bool, one_string, one_slice, one_pointer, List.setIfInBounds_toArray, List.set_cons_zero, List.set_cons_succ, ↓xSq_r, ↓xPur_s, ↓xRd_s, ↓xRe_s, ↓xDet_s, ↓xDet_ld, ↓xDet_ld2, ↓xDet_ld3, 
      ↓xDet_ld4, World.size_drew, Nat.zero_add, Nat.add_zero, cell_drew, frozen_drew, cell_set_eq, cell_set_o, cell_set_b, Option.map_some, World.frozen?_setCell, decide_true, decide_false, List.not_mem_nil, not_false_eq_true, 
      ↓xGuard_tt, Bool.not_true, Bool.not_false, ←decide_not, ↓cv_2_29, eq_self]
    rw [e]
    exact ⟨by trivial, by (repeat (first | with_reducible exact Ext.refl _ _ | with_reducible assumption | with_reducible refine Ext.alloc' ?_ _ | with_reducible refine Ext.drew' ?_ | with_reducible refine Ext.set' ?_ ?_ | exact .inr (by first | omega | (simp only [World.size_alloc, World.size_drew, World.size_setCell] <;> omega)) | refine Ext.trans ?_ (by with_reducible assumption)))⟩
  · have e : rZig v = BitVec.ofInt 64 v <<< 1 := if_neg h
    simp (disch := (first | omega | decide | (simp only [World.size_alloc, World.size_setCell, World.size_drew, List.mem_cons, List.not_mem_nil, or_false, not_false_eq_true] <;> omega) | fail)) only [↓xBox_r, ↓loadK_some, ↓loadsK_s, ↓loadsK_n, ↓loadsR_s, ↓loadsR_n, ↓storesK_s, ↓storesK_n, setCells_c, setCells_n, World.setCell_alloc_at, World.setCell_alloc_past, World.cell?_alloc_at, World.cell?_alloc_past, 
      World.frozen?_alloc_at, World.frozen?_alloc_past, World.size_alloc, ↓xPick_t, ↓xPick_f, ↓xGuard_tt, ↓xGuard_ff, ↓xGuard_tf, ↓xGuard_ft, ↓xGuard_u, ↓xNil_r, Option.isNone_some, Option.isNone_none, ↓xIf_t, tick_eq, tickV_eq, ne_eq, 
      dlt_t, dlt_f, dle_t, dle_f, deq_t, deq_f, dne_t, dne_f, not_true_eq_false, Int.reduceAdd, Int.reduceSub, Int.reduceMul, Int.reduceEq, Int.reduceLT, Int.reduceLE, Bool.false_and, Bool.true_and, Bool.and_true, 
      Bool.and_false, ↓xBin_add', ↓xBin_sub', ↓xBin_mul', ↓xBin_quo', ↓xBin_rem', wrap_in, ↓xIf_f, ↓xIf_tt, ↓xEx0, ↓xEx1, ↓xEx2, ↓xEx3, ↓xBin_eqs, ↓xBin_nes, ↓xUn_not, ↓xu8_add, ↓xu8_sub, ↓xu8_or, ↓xu8_shl, ↓xu8_lss, ↓xu16_add, 
      ↓xu16_sub, ↓xu16_or, ↓xu16_shl, ↓xu16_lss, ↓xu32_add, ↓xu32_sub, ↓xu32_or, ↓xu32_shl, ↓xu32_lss, ↓xu64_add, ↓xu64_sub, ↓xu64_or, ↓xu64_shl, ↓xu64_lss, ↓xi64_lss, ↓xi64_or, ↓xi64_shl, Int.toNat_natCast, Int.reduceToNat, 
      Nat.reduceMul, Nat.reduceAdd, Nat.reduceSub, Nat.mul_one, List.nil_append, List.cons_append, List.getElem?_toArray, List.getElem?_cons_zero, List.getElem?_cons_succ, cells_int, cells_bool, cells_string, cells_slice, 
      cells_pointer, cells_agg, one_int, one_bool, one_string, one_slice, one_pointer, List.setIfInBounds_toArray, List.set_cons_zero, List.set_cons_succ, ↓xSq_r, ↓xPur_s, ↓xRd_s, ↓xRe_s, ↓xDet_s, ↓xDet_ld, ↓xDet_ld2, ↓xDet_ld3, 
      ↓xDet_ld4, World.size_drew, Nat.zero_add, Nat.add_zero, cell_drew, frozen_drew, cell_set_eq, cell_set_o, cell_set_b, Option.map_some, World.frozen?_setCell, decide_true, decide_false, List.not_mem_nil, not_false_eq_true, 
      ↓xGuard_tt, Bool.not_true, Bool.not_false, ←decide_not, ↓cv_2_29, eq_self]
    rw [e]
    exact ⟨by trivial, by (repeat (first | with_reducible exact Ext.refl _ _ | with_reducible assumption | with_reducible refine Ext.alloc' ?_ _ | with_reducible refine Ext.drew' ?_ | with_reducible refine Ext.set' ?_ ?_ | exact .inr (by first | omega | (simp only [World.size_alloc, World.size_drew, World.size_setCell] <;> omega)) | refine Ext.trans ?_ (by with_reducible assumption)))⟩
theorem rZag_spec (x : BitVec 64) (w : World) : Gives Try.prog n_loamref5_Zag #[u64 x] w (i64 (zag x)) := by
  rw [rZag_eq]
  have hh : (0 : Int) ≤ (x >>> (BitVec.ofNat 64 1).toNat).toInt ∧ (x >>> (BitVec.ofNat 64 1).toNat).toInt ≤ 9223372036854775807 := half_bit x
  refine loamref5_Zag_of ?_
  unfold loamref5_Zag
  by_cases h : x &&& BitVec.ofNat 64 1 = BitVec.ofNat 64 1
  · have e : rZag x = (0 : Int) - (x >>> 1).toInt - 1 := if_pos h
    simp (disch := (first | omega | decide | (simp only [World.size_alloc, World.size_setCell, World.size_drew, List.mem_cons, List.not_mem_nil, or_false, not_false_eq_true] <;> omega) | fail)) only [↓xBox_r, ↓loadK_some, ↓loadsK_s, ↓loadsK_n, ↓loadsR_s, ↓loadsR_n, ↓storesK_s, ↓storesK_n, setCells_c, setCells_n, World.setCell_alloc_at, World.setCell_alloc_past, World.cell?_alloc_at, World.cell?_alloc_past, 
      World.frozen?_alloc_at, World.frozen?_alloc_past, World.size_alloc, ↓xPick_t, ↓xPick_f, ↓xGuard_tt, ↓xGuard_ff, ↓xGuard_tf, ↓xGuard_ft, ↓xGuard_u, ↓xNil_r, Option.isNone_some, Option.isNone_none, ↓xIf_t, tick_eq, tickV_eq, ne_eq, 
      dlt_t, dlt_f, dle_t, dle_f, deq_t, deq_f, dne_t, dne_f, not_true_eq_false, Int.reduceAdd, Int.reduceSub, Int.reduceMul, Int.reduceEq, Int.reduceLT, Int.reduceLE, Bool.false_and, Bool.true_and, Bool.and_true, 
      Bool.and_false, ↓xBin_add', ↓xBin_sub', ↓xBin_mul', ↓xBin_quo', ↓xBin_rem', wrap_in, ↓xIf_f, ↓xIf_tt, ↓xEx0, ↓xEx1, ↓xEx2, ↓xEx3, ↓xBin_eqs, ↓xBin_nes, ↓xUn_not, ↓xu8_sub, ↓xu8_and, ↓xu8_shr, ↓xu8_eql, ↓xu16_sub, ↓xu16_and, 
      ↓xu16_shr, ↓xu16_eql, ↓xu32_sub, ↓xu32_and, ↓xu32_shr, ↓xu32_eql, ↓xu64_sub, ↓xu64_and, ↓xu64_shr, ↓xu64_eql, ↓xi64_eql, ↓xi64_and, ↓xi64_shr, Int.toNat_natCast, Int.reduceToNat, Nat.reduceMul, Nat.reduceAdd, Nat.reduceSub, 
      Nat.mul_one, List.nil_append, List.cons_append, List.getElem?_toArray, List.getElem?_cons_zero, List.getElem?_cons_succ, cells_int, cells_bool, cells_string, cells_slice, cells_pointer, cells_agg, one_int, one_bool, 
      one_string, one_slice, one_pointer, List.setIfInBounds_toArray, List.set_cons_zero, List.set_cons_succ, ↓xSq_r, ↓xPur_s, ↓xRd_s, ↓xRe_s, ↓xDet_s, ↓xDet_ld, ↓xDet_ld2, ↓xDet_ld3, ↓xDet_ld4, World.size_drew, Nat.zero_add, 
      Nat.add_zero, cell_drew, frozen_drew, cell_set_eq, cell_set_o, cell_set_b, Option.map_some, World.frozen?_setCell, decide_true, decide_false, List.not_mem_nil, not_false_eq_true, ↓xGuard_tt, Bool.not_true, Bool.not_false, 
      ←decide_not, ↓cv_29_2, decide_eq_true h]
    rw [e]
    exact ⟨by trivial, by (repeat (first | with_reducible exact Ext.refl _ _ | with_reducible assumption | with_reducible refine Ext.alloc' ?_ _ | with_reducible refine Ext.drew' ?_ | with_reducible refine Ext.set' ?_ ?_ | exact .inr (by first | omega | (simp only [World.size_alloc, World.size_drew, World.size_setCell] <;> omega)) | refine Ext.trans ?_ (by with_reducible assumption)))⟩
  · have e : rZag x = (x >>> 1).toInt := if_neg h
    simp (disch := (first | omega | decide | (simp only [World.size_alloc, World.size_setCell, World.size_drew, List.mem_cons, List.not_mem_nil, or_false, not_false_eq_true] <;> omega) | fail)) only [↓xBox_r, ↓loadK_some, ↓loadsK_s, ↓loadsK_n, ↓loadsR_s, ↓loadsR_n, ↓storesK_s, ↓storesK_n, setCells_c, setCells_n, World.setCell_alloc_at, World.setCell_alloc_past, World.cell?_alloc_at, World.cell?_alloc_past, 
      World.frozen?_alloc_at, World.frozen?_alloc_past, World.size_alloc, ↓xPick_t, ↓xPick_f, ↓xGuard_tt, ↓xGuard_ff, ↓xGuard_tf, ↓xGuard_ft, ↓xGuard_u, ↓xNil_r, Option.isNone_some, Option.isNone_none, ↓xIf_t, tick_eq, tickV_eq, ne_eq, 
      dlt_t, dlt_f, dle_t, dle_f, deq_t, deq_f, dne_t, dne_f, not_true_eq_false, Int.reduceAdd, Int.reduceSub, Int.reduceMul, Int.reduceEq, Int.reduceLT, Int.reduceLE, Bool.false_and, Bool.true_and, Bool.and_true, 
      Bool.and_false, ↓xBin_add', ↓xBin_sub', ↓xBin_mul', ↓xBin_quo', ↓xBin_rem', wrap_in, ↓xIf_f, ↓xIf_tt, ↓xEx0, ↓xEx1, ↓xEx2, ↓xEx3, ↓xBin_eqs, ↓xBin_nes, ↓xUn_not, ↓xu8_sub, ↓xu8_and, ↓xu8_shr, ↓xu8_eql, ↓xu16_sub, ↓xu16_and, 
      ↓xu16_shr, ↓xu16_eql, ↓xu32_sub, ↓xu32_and, ↓xu32_shr, ↓xu32_eql, ↓xu64_sub, ↓xu64_and, ↓xu64_shr, ↓xu64_eql, ↓xi64_eql, ↓xi64_and, ↓xi64_shr, Int.toNat_natCast, Int.reduceToNat, Nat.reduceMul, Nat.reduceAdd, Nat.reduceSub, 
      Nat.mul_one, List.nil_append, List.cons_append, List.getElem?_toArray, List.getElem?_cons_zero, List.getElem?_cons_succ, cells_int, cells_bool, cells_string, cells_slice, cells_pointer, cells_agg, one_int, one_bool, 
      one_string, one_slice, one_pointer, List.setIfInBounds_toArray, List.set_cons_zero, List.set_cons_succ, ↓xSq_r, ↓xPur_s, ↓xRd_s, ↓xRe_s, ↓xDet_s, ↓xDet_ld, ↓xDet_ld2, ↓xDet_ld3, ↓xDet_ld4, World.size_drew, Nat.zero_add, 
      Nat.add_zero, cell_drew, frozen_drew, cell_set_eq, cell_set_o, cell_set_b, Option.map_some, World.frozen?_setCell, decide_true, decide_false, List.not_mem_nil, not_false_eq_true, ↓xGuard_tt, Bool.not_true, Bool.not_false, 
      ←decide_not, ↓cv_29_2, decide_eq_false h]
    rw [e]
    exact ⟨by trivial, by (repeat (first | with_reducible exact Ext.refl _ _ | with_reducible assumption | with_reducible refine Ext.alloc' ?_ _ | with_reducible refine Ext.drew' ?_ | with_reducible refine Ext.set' ?_ ?_ | exact .inr (by first | omega | (simp only [World.size_alloc, World.size_drew, World.size_setCell] <;> omega)) | refine Ext.trans ?_ (by with_reducible assumption)))⟩
theorem CodeSigns_spec (v : Int) (hv : inI64 v) (w : World) : Gives Try.prog n_loamlaw5_CodeSigns #[i64 v] w (.bool true) := by
  refine loamlaw5_CodeSigns_of ?_
  unfold loamlaw5_CodeSigns
  refine loamlaw5_known_call (Gives.to (known5_spec _) fun w1 E1 => ?_)
  have z1 := E1.size
  try simp only [World.size_alloc, World.size_setCell, World.size_drew] at z1
  simp (disch := (first | omega | decide | (simp only [World.size_alloc, World.size_setCell, World.size_drew, List.mem_cons, List.not_mem_nil, or_false, not_false_eq_true] <;> omega) | fail)) only [↓xBox_r, ↓loadK_some, ↓loadsK_s, ↓loadsK_n, ↓loadsR_s, ↓loadsR_n, ↓storesK_s, ↓storesK_n, setCells_c, setCells_n, World.setCell_alloc_at, World.setCell_alloc_past, World.cell?_alloc_at, World.cell?_alloc_past, 
      World.frozen?_alloc_at, World.frozen?_alloc_past, World.size_alloc, ↓xPick_t, ↓xPick_f, ↓xGuard_tt, ↓xGuard_ff, ↓xGuard_tf, ↓xGuard_ft, ↓xGuard_u, ↓xNil_r, Option.isNone_some, Option.isNone_none, ↓xIf_t, tick_eq, tickV_eq, ne_eq, 
      dlt_t, dlt_f, dle_t, dle_f, deq_t, deq_f, dne_t, dne_f, not_true_eq_false, Int.reduceAdd, Int.reduceSub, Int.reduceMul, Int.reduceEq, Int.reduceLT, Int.reduceLE, Bool.false_and, Bool.true_and, Bool.and_true, 
      Bool.and_false, ↓xBin_add', ↓xBin_sub', ↓xBin_mul', ↓xBin_quo', ↓xBin_rem', wrap_in, ↓xIf_f, ↓xIf_tt, ↓xEx0, ↓xEx1, ↓xEx2, ↓xEx3, ↓xBin_eqs, ↓xBin_nes, ↓xUn_not, ↓xu8_com, ↓xu8_eql, ↓xu8_lss, ↓xu8_gtr, ↓xu16_com, ↓xu16_eql, 
      ↓xu16_lss, ↓xu16_gtr, ↓xu32_com, ↓xu32_eql, ↓xu32_lss, ↓xu32_gtr, ↓xu64_com, ↓xu64_eql, ↓xu64_lss, ↓xu64_gtr, ↓xi64_lss, ↓xi64_gtr, ↓xi64_eql, Int.toNat_natCast, Int.reduceToNat, Nat.reduceMul, Nat.reduceAdd, Nat.reduceSub, 
      Nat.mul_one, List.nil_append, List.cons_append, List.getElem?_toArray, List.getElem?_cons_zero, List.getElem?_cons_succ, cells_int, cells_bool, cells_string, cells_slice, cells_pointer, cells_agg, one_int, one_bool, 
      one_string, one_slice, one_pointer, List.setIfInBounds_toArray, List.set_cons_zero, List.set_cons_succ, ↓xSq_r, ↓xPur_s, ↓xRd_s, ↓xRe_s, ↓xDet_s, ↓xDet_ld, ↓xDet_ld2, ↓xDet_ld3, ↓xDet_ld4, World.size_drew, Nat.zero_add, 
      Nat.add_zero, cell_drew, frozen_drew, cell_set_eq, cell_set_o, cell_set_b, Option.map_some, World.frozen?_setCell, decide_true, decide_false, List.not_mem_nil, not_false_eq_true, ↓xGuard_tt, Bool.not_true, Bool.not_false, 
      ←decide_not, ↓bd_28, ↓ln_26, eq_self]
  have H0 := enc_new (w := w1) (Nat.le_refl w1.heap.size)
  have G0 : Ext [] w1 (w1.alloc (.cells [Value.slice none 0 0].toArray 28)) := Ext.alloc _ _ _
  refine codec_Enc_Int_call (Yld.mono (Enc_Int_spec v H0 (by simp)) ?_)
  rintro u v1 ⟨rfl, s1, F1, H1, S1⟩
  have G1 := G0.new F1 (fun x hx => (H0.up x hx).1)
  rw [List.nil_append] at H1
  have hlen : (uintB (zig v)).length ≤ 10 := uintF_le
  simp (disch := (first | omega | decide | (simp only [World.size_alloc, World.size_setCell, World.size_drew, List.mem_cons, List.not_mem_nil, or_false, not_false_eq_true] <;> omega) | fail)) only [↓xBox_r, ↓loadK_some, ↓loadsK_s, ↓loadsK_n, ↓loadsR_s, ↓loadsR_n, ↓storesK_s, ↓storesK_n, setCells_c, setCells_n, World.setCell_alloc_at, World.setCell_alloc_past, World.cell?_alloc_at, World.cell?_alloc_past, 
      World.frozen?_alloc_at, World.frozen?_alloc_past, World.size_alloc, ↓xPick_t, ↓xPick_f, ↓xGuard_tt, ↓xGuard_ff, ↓xGuard_tf, ↓xGuard_ft, ↓xGuard_u, ↓xNil_r, Option.isNone_some, Option.isNone_none, ↓xIf_t, tick_eq, tickV_eq, ne_eq, 
      dlt_t, dlt_f, dle_t, dle_f, deq_t, deq_f, dne_t, dne_f, not_true_eq_false, Int.reduceAdd, Int.reduceSub, Int.reduceMul, Int.reduceEq, Int.reduceLT, Int.reduceLE, Bool.false_and, Bool.true_and, Bool.and_true, 
      Bool.and_false, ↓xBin_add', ↓xBin_sub', ↓xBin_mul', ↓xBin_quo', ↓xBin_rem', wrap_in, ↓xIf_f, ↓xIf_tt, ↓xEx0, ↓xEx1, ↓xEx2, ↓xEx3, ↓xBin_eqs, ↓xBin_nes, ↓xUn_not, ↓xu8_com, ↓xu8_eql, ↓xu8_lss, ↓xu8_gtr, ↓xu16_com, ↓xu16_eql, 
      ↓xu16_lss, ↓xu16_gtr, ↓xu32_com, ↓xu32_eql, ↓xu32_lss, ↓xu32_gtr, ↓xu64_com, ↓xu64_eql, ↓xu64_lss, ↓xu64_gtr, ↓xi64_lss, ↓xi64_gtr, ↓xi64_eql, Int.toNat_natCast, Int.reduceToNat, Nat.reduceMul, Nat.reduceAdd, Nat.reduceSub, 
      Nat.mul_one, List.nil_append, List.cons_append, List.getElem?_toArray, List.getElem?_cons_zero, List.getElem?_cons_succ, cells_int, cells_bool, cells_string, cells_slice, cells_pointer, cells_agg, one_int, one_bool, 
      one_string, one_slice, one_pointer, List.setIfInBounds_toArray, List.set_cons_zero, List.set_cons_succ, ↓xSq_r, ↓xPur_s, ↓xRd_s, ↓xRe_s, ↓xDet_s, ↓xDet_ld, ↓xDet_ld2, ↓xDet_ld3, ↓xDet_ld4, World.size_drew, Nat.zero_add, 
      Nat.add_zero, cell_drew, frozen_drew, cell_set_eq, cell_set_o, cell_set_b, Option.map_some, World.frozen?_setCell, decide_true, decide_false, List.not_mem_nil, not_false_eq_true, ↓xGuard_tt, Bool.not_true, Bool.not_false, 
      ←decide_not, ↓bd_28, ↓ln_26, eq_self]
  refine codec_Enc_Bytes_call (Yld.mono (Enc_Bytes_spec H1 (by omega)) ?_)
  rintro u v2 ⟨F2, a2, c2, rfl, hc2, hn2, R2, N2⟩
  simp (disch := (first | omega | decide | (simp only [World.size_alloc, World.size_setCell, World.size_drew, List.mem_cons, List.not_mem_nil, or_false, not_false_eq_true] <;> omega) | fail)) only [↓xBox_r, ↓loadK_some, ↓loadsK_s, ↓loadsK_n, ↓loadsR_s, ↓loadsR_n, ↓storesK_s, ↓storesK_n, setCells_c, setCells_n, World.setCell_alloc_at, World.setCell_alloc_past, World.cell?_alloc_at, World.cell?_alloc_past, 
      World.frozen?_alloc_at, World.frozen?_alloc_past, World.size_alloc, ↓xPick_t, ↓xPick_f, ↓xGuard_tt, ↓xGuard_ff, ↓xGuard_tf, ↓xGuard_ft, ↓xGuard_u, ↓xNil_r, Option.isNone_some, Option.isNone_none, ↓xIf_t, tick_eq, tickV_eq, ne_eq, 
      dlt_t, dlt_f, dle_t, dle_f, deq_t, deq_f, dne_t, dne_f, not_true_eq_false, Int.reduceAdd, Int.reduceSub, Int.reduceMul, Int.reduceEq, Int.reduceLT, Int.reduceLE, Bool.false_and, Bool.true_and, Bool.and_true, 
      Bool.and_false, ↓xBin_add', ↓xBin_sub', ↓xBin_mul', ↓xBin_quo', ↓xBin_rem', wrap_in, ↓xIf_f, ↓xIf_tt, ↓xEx0, ↓xEx1, ↓xEx2, ↓xEx3, ↓xBin_eqs, ↓xBin_nes, ↓xUn_not, ↓xu8_com, ↓xu8_eql, ↓xu8_lss, ↓xu8_gtr, ↓xu16_com, ↓xu16_eql, 
      ↓xu16_lss, ↓xu16_gtr, ↓xu32_com, ↓xu32_eql, ↓xu32_lss, ↓xu32_gtr, ↓xu64_com, ↓xu64_eql, ↓xu64_lss, ↓xu64_gtr, ↓xi64_lss, ↓xi64_gtr, ↓xi64_eql, Int.toNat_natCast, Int.reduceToNat, Nat.reduceMul, Nat.reduceAdd, Nat.reduceSub, 
      Nat.mul_one, List.nil_append, List.cons_append, List.getElem?_toArray, List.getElem?_cons_zero, List.getElem?_cons_succ, cells_int, cells_bool, cells_string, cells_slice, cells_pointer, cells_agg, one_int, one_bool, 
      one_string, one_slice, one_pointer, List.setIfInBounds_toArray, List.set_cons_zero, List.set_cons_succ, ↓xSq_r, ↓xPur_s, ↓xRd_s, ↓xRe_s, ↓xDet_s, ↓xDet_ld, ↓xDet_ld2, ↓xDet_ld3, ↓xDet_ld4, World.size_drew, Nat.zero_add, 
      Nat.add_zero, cell_drew, frozen_drew, cell_set_eq, cell_set_o, cell_set_b, Option.map_some, World.frozen?_setCell, decide_true, decide_false, List.not_mem_nil, not_false_eq_true, ↓xGuard_tt, Bool.not_true, Bool.not_false, 
      ←decide_not, ↓bd_28, ↓ln_26, eq_self]
  refine codec_Of_call (Yld.mono (Dec_Of_spec _ a2 _ c2 v2 rfl (by omega) R2 hn2) ?_)
  rintro u v3 ⟨F3, gd, a3, c3, rfl, hgd, D3⟩
  have q1 : decU (uintB (zig v)) = .ok (zig v, []) := by have := dec_enc (zig v) []; rwa [List.append_nil] at this
  simp (disch := (first | omega | decide | (simp only [World.size_alloc, World.size_setCell, World.size_drew, List.mem_cons, List.not_mem_nil, or_false, not_false_eq_true] <;> omega) | fail)) only [↓xBox_r, ↓loadK_some, ↓loadsK_s, ↓loadsK_n, ↓loadsR_s, ↓loadsR_n, ↓storesK_s, ↓storesK_n, setCells_c, setCells_n, World.setCell_alloc_at, World.setCell_alloc_past, World.cell?_alloc_at, World.cell?_alloc_past, 
      World.frozen?_alloc_at, World.frozen?_alloc_past, World.size_alloc, ↓xPick_t, ↓xPick_f, ↓xGuard_tt, ↓xGuard_ff, ↓xGuard_tf, ↓xGuard_ft, ↓xGuard_u, ↓xNil_r, Option.isNone_some, Option.isNone_none, ↓xIf_t, tick_eq, tickV_eq, ne_eq, 
      dlt_t, dlt_f, dle_t, dle_f, deq_t, deq_f, dne_t, dne_f, not_true_eq_false, Int.reduceAdd, Int.reduceSub, Int.reduceMul, Int.reduceEq, Int.reduceLT, Int.reduceLE, Bool.false_and, Bool.true_and, Bool.and_true, 
      Bool.and_false, ↓xBin_add', ↓xBin_sub', ↓xBin_mul', ↓xBin_quo', ↓xBin_rem', wrap_in, ↓xIf_f, ↓xIf_tt, ↓xEx0, ↓xEx1, ↓xEx2, ↓xEx3, ↓xBin_eqs, ↓xBin_nes, ↓xUn_not, ↓xu8_com, ↓xu8_eql, ↓xu8_lss, ↓xu8_gtr, ↓xu16_com, ↓xu16_eql, 
      ↓xu16_lss, ↓xu16_gtr, ↓xu32_com, ↓xu32_eql, ↓xu32_lss, ↓xu32_gtr, ↓xu64_com, ↓xu64_eql, ↓xu64_lss, ↓xu64_gtr, ↓xi64_lss, ↓xi64_gtr, ↓xi64_eql, Int.toNat_natCast, Int.reduceToNat, Nat.reduceMul, Nat.reduceAdd, Nat.reduceSub, 
      Nat.mul_one, List.nil_append, List.cons_append, List.getElem?_toArray, List.getElem?_cons_zero, List.getElem?_cons_succ, cells_int, cells_bool, cells_string, cells_slice, cells_pointer, cells_agg, one_int, one_bool, 
      one_string, one_slice, one_pointer, List.setIfInBounds_toArray, List.set_cons_zero, List.set_cons_succ, ↓xSq_r, ↓xPur_s, ↓xRd_s, ↓xRe_s, ↓xDet_s, ↓xDet_ld, ↓xDet_ld2, ↓xDet_ld3, ↓xDet_ld4, World.size_drew, Nat.zero_add, 
      Nat.add_zero, cell_drew, frozen_drew, cell_set_eq, cell_set_o, cell_set_b, Option.map_some, World.frozen?_setCell, decide_true, decide_false, List.not_mem_nil, not_false_eq_true, ↓xGuard_tt, Bool.not_true, Bool.not_false, 
      ←decide_not, ↓bd_28, ↓ln_26, eq_self]
  refine codec_Dec_Int_call (Yld.mono (Dec_Int_spec D3) ?_)
  intro u v4 hr
  rw [q1] at hr
  obtain ⟨rfl, K4, a4, c4, D4⟩ := hr
  rw [zag_zig hv]
  have G3 := (G1.trans F2).trans F3
  have hz3 := (G1.trans F2).size
  have G4 : Ext [] w1 v4 := G3.new K4 (by simp; omega)
  have H4 : EncIs v4 w1.heap.size w1.heap.size s1 _ := ((H1.ext0 F2).ext0 F3).ext K4 (fun b hb hm => by
    have := (H1.up b hb).2
    have := F2.size
    simp at hm
    omega)
  simp (disch := (first | omega | decide | (simp only [World.size_alloc, World.size_setCell, World.size_drew, List.mem_cons, List.not_mem_nil, or_false, not_false_eq_true] <;> omega) | fail)) only [↓xBox_r, ↓loadK_some, ↓loadsK_s, ↓loadsK_n, ↓loadsR_s, ↓loadsR_n, ↓storesK_s, ↓storesK_n, setCells_c, setCells_n, World.setCell_alloc_at, World.setCell_alloc_past, World.cell?_alloc_at, World.cell?_alloc_past, 
      World.frozen?_alloc_at, World.frozen?_alloc_past, World.size_alloc, ↓xPick_t, ↓xPick_f, ↓xGuard_tt, ↓xGuard_ff, ↓xGuard_tf, ↓xGuard_ft, ↓xGuard_u, ↓xNil_r, Option.isNone_some, Option.isNone_none, ↓xIf_t, tick_eq, tickV_eq, ne_eq, 
      dlt_t, dlt_f, dle_t, dle_f, deq_t, deq_f, dne_t, dne_f, not_true_eq_false, Int.reduceAdd, Int.reduceSub, Int.reduceMul, Int.reduceEq, Int.reduceLT, Int.reduceLE, Bool.false_and, Bool.true_and, Bool.and_true, 
      Bool.and_false, ↓xBin_add', ↓xBin_sub', ↓xBin_mul', ↓xBin_quo', ↓xBin_rem', wrap_in, ↓xIf_f, ↓xIf_tt, ↓xEx0, ↓xEx1, ↓xEx2, ↓xEx3, ↓xBin_eqs, ↓xBin_nes, ↓xUn_not, ↓xu8_com, ↓xu8_eql, ↓xu8_lss, ↓xu8_gtr, ↓xu16_com, ↓xu16_eql, 
      ↓xu16_lss, ↓xu16_gtr, ↓xu32_com, ↓xu32_eql, ↓xu32_lss, ↓xu32_gtr, ↓xu64_com, ↓xu64_eql, ↓xu64_lss, ↓xu64_gtr, ↓xi64_lss, ↓xi64_gtr, ↓xi64_eql, Int.toNat_natCast, Int.reduceToNat, Nat.reduceMul, Nat.reduceAdd, Nat.reduceSub, 
      Nat.mul_one, List.nil_append, List.cons_append, List.getElem?_toArray, List.getElem?_cons_zero, List.getElem?_cons_succ, cells_int, cells_bool, cells_string, cells_slice, cells_pointer, cells_agg, one_int, one_bool, 
      one_string, one_slice, one_pointer, List.setIfInBounds_toArray, List.set_cons_zero, List.set_cons_succ, ↓xSq_r, ↓xPur_s, ↓xRd_s, ↓xRe_s, ↓xDet_s, ↓xDet_ld, ↓xDet_ld2, ↓xDet_ld3, ↓xDet_ld4, World.size_drew, Nat.zero_add, 
      Nat.add_zero, cell_drew, frozen_drew, cell_set_eq, cell_set_o, cell_set_b, Option.map_some, World.frozen?_setCell, decide_true, decide_false, List.not_mem_nil, not_false_eq_true, ↓xGuard_tt, Bool.not_true, Bool.not_false, 
      ←decide_not, ↓bd_28, ↓ln_26, eq_self]
  refine codec_Dec_Left_call (Gives.to (Dec_Left_spec D4) fun v5 F5 => ?_)
  simp (disch := (first | omega | decide | (simp only [World.size_alloc, World.size_setCell, World.size_drew, List.mem_cons, List.not_mem_nil, or_false, not_false_eq_true] <;> omega) | fail)) only [↓xBox_r, ↓loadK_some, ↓loadsK_s, ↓loadsK_n, ↓loadsR_s, ↓loadsR_n, ↓storesK_s, ↓storesK_n, setCells_c, setCells_n, World.setCell_alloc_at, World.setCell_alloc_past, World.cell?_alloc_at, World.cell?_alloc_past, 
      World.frozen?_alloc_at, World.frozen?_alloc_past, World.size_alloc, ↓xPick_t, ↓xPick_f, ↓xGuard_tt, ↓xGuard_ff, ↓xGuard_tf, ↓xGuard_ft, ↓xGuard_u, ↓xNil_r, Option.isNone_some, Option.isNone_none, ↓xIf_t, tick_eq, tickV_eq, ne_eq, 
      dlt_t, dlt_f, dle_t, dle_f, deq_t, deq_f, dne_t, dne_f, not_true_eq_false, Int.reduceAdd, Int.reduceSub, Int.reduceMul, Int.reduceEq, Int.reduceLT, Int.reduceLE, Bool.false_and, Bool.true_and, Bool.and_true, 
      Bool.and_false, ↓xBin_add', ↓xBin_sub', ↓xBin_mul', ↓xBin_quo', ↓xBin_rem', wrap_in, ↓xIf_f, ↓xIf_tt, ↓xEx0, ↓xEx1, ↓xEx2, ↓xEx3, ↓xBin_eqs, ↓xBin_nes, ↓xUn_not, ↓xu8_com, ↓xu8_eql, ↓xu8_lss, ↓xu8_gtr, ↓xu16_com, ↓xu16_eql, 
      ↓xu16_lss, ↓xu16_gtr, ↓xu32_com, ↓xu32_eql, ↓xu32_lss, ↓xu32_gtr, ↓xu64_com, ↓xu64_eql, ↓xu64_lss, ↓xu64_gtr, ↓xi64_lss, ↓xi64_gtr, ↓xi64_eql, Int.toNat_natCast, Int.reduceToNat, Nat.reduceMul, Nat.reduceAdd, Nat.reduceSub, 
      Nat.mul_one, List.nil_append, List.cons_append, List.getElem?_toArray, List.getElem?_cons_zero, List.getElem?_cons_succ, cells_int, cells_bool, cells_string, cells_slice, cells_pointer, cells_agg, one_int, one_bool, 
      one_string, one_slice, one_pointer, List.setIfInBounds_toArray, List.set_cons_zero, List.set_cons_succ, ↓xSq_r, ↓xPur_s, ↓xRd_s, ↓xRe_s, ↓xDet_s, ↓xDet_ld, ↓xDet_ld2, ↓xDet_ld3, ↓xDet_ld4, World.size_drew, Nat.zero_add, 
      Nat.add_zero, cell_drew, frozen_drew, cell_set_eq, cell_set_o, cell_set_b, Option.map_some, World.frozen?_setCell, decide_true, decide_false, List.not_mem_nil, not_false_eq_true, ↓xGuard_tt, Bool.not_true, Bool.not_false, 
      ←decide_not, ↓bd_28, ↓ln_26, eq_self]
  by_cases g1 : v < -64
  · simp (disch := (first | omega | decide | (simp only [World.size_alloc, World.size_setCell, World.size_drew, List.mem_cons, List.not_mem_nil, or_false, not_false_eq_true] <;> omega) | fail)) only [↓xBox_r, ↓loadK_some, ↓loadsK_s, ↓loadsK_n, ↓loadsR_s, ↓loadsR_n, ↓storesK_s, ↓storesK_n, setCells_c, setCells_n, World.setCell_alloc_at, World.setCell_alloc_past, World.cell?_alloc_at, World.cell?_alloc_past, 
      World.frozen?_alloc_at, World.frozen?_alloc_past, World.size_alloc, ↓xPick_t, ↓xPick_f, ↓xGuard_tt, ↓xGuard_ff, ↓xGuard_tf, ↓xGuard_ft, ↓xGuard_u, ↓xNil_r, Option.isNone_some, Option.isNone_none, ↓xIf_t, tick_eq, tickV_eq, ne_eq, 
      dlt_t, dlt_f, dle_t, dle_f, deq_t, deq_f, dne_t, dne_f, not_true_eq_false, Int.reduceAdd, Int.reduceSub, Int.reduceMul, Int.reduceEq, Int.reduceLT, Int.reduceLE, Bool.false_and, Bool.true_and, Bool.and_true, 
      Bool.and_false, ↓xBin_add', ↓xBin_sub', ↓xBin_mul', ↓xBin_quo', ↓xBin_rem', wrap_in, ↓xIf_f, ↓xIf_tt, ↓xEx0, ↓xEx1, ↓xEx2, ↓xEx3, ↓xBin_eqs, ↓xBin_nes, ↓xUn_not, ↓xu8_com, ↓xu8_eql, ↓xu8_lss, ↓xu8_gtr, ↓xu16_com, ↓xu16_eql, 
      ↓xu16_lss, ↓xu16_gtr, ↓xu32_com, ↓xu32_eql, ↓xu32_lss, ↓xu32_gtr, ↓xu64_com, ↓xu64_eql, ↓xu64_lss, ↓xu64_gtr, ↓xi64_lss, ↓xi64_gtr, ↓xi64_eql, Int.toNat_natCast, Int.reduceToNat, Nat.reduceMul, Nat.reduceAdd, Nat.reduceSub, 
      Nat.mul_one, List.nil_append, List.cons_append, List.getElem?_toArray, List.getElem?_cons_zero, List.getElem?_cons_succ, cells_int, cells_bool, cells_string, cells_slice, cells_pointer, cells_agg, one_int, one_bool, 
      one_string, one_slice, one_pointer, List.setIfInBounds_toArray, List.set_cons_zero, List.set_cons_succ, ↓xSq_r, ↓xPur_s, ↓xRd_s, ↓xRe_s, ↓xDet_s, ↓xDet_ld, ↓xDet_ld2, ↓xDet_ld3, ↓xDet_ld4, World.size_drew, Nat.zero_add, 
      Nat.add_zero, cell_drew, frozen_drew, cell_set_eq, cell_set_o, cell_set_b, Option.map_some, World.frozen?_setCell, decide_true, decide_false, List.not_mem_nil, not_false_eq_true, ↓xGuard_tt, Bool.not_true, Bool.not_false, 
      ←decide_not, ↓bd_28, ↓ln_26, eq_self]
    refine loamref5_Zig_call (Gives.to (rZig_spec v hv _) fun v6 F6 => ?_)
    rw [← zig_eq hv]
    simp (disch := (first | omega | decide | (simp only [World.size_alloc, World.size_setCell, World.size_drew, List.mem_cons, List.not_mem_nil, or_false, not_false_eq_true] <;> omega) | fail)) only [↓xBox_r, ↓loadK_some, ↓loadsK_s, ↓loadsK_n, ↓loadsR_s, ↓loadsR_n, ↓storesK_s, ↓storesK_n, setCells_c, setCells_n, World.setCell_alloc_at, World.setCell_alloc_past, World.cell?_alloc_at, World.cell?_alloc_past, 
      World.frozen?_alloc_at, World.frozen?_alloc_past, World.size_alloc, ↓xPick_t, ↓xPick_f, ↓xGuard_tt, ↓xGuard_ff, ↓xGuard_tf, ↓xGuard_ft, ↓xGuard_u, ↓xNil_r, Option.isNone_some, Option.isNone_none, ↓xIf_t, tick_eq, tickV_eq, ne_eq, 
      dlt_t, dlt_f, dle_t, dle_f, deq_t, deq_f, dne_t, dne_f, not_true_eq_false, Int.reduceAdd, Int.reduceSub, Int.reduceMul, Int.reduceEq, Int.reduceLT, Int.reduceLE, Bool.false_and, Bool.true_and, Bool.and_true, 
      Bool.and_false, ↓xBin_add', ↓xBin_sub', ↓xBin_mul', ↓xBin_quo', ↓xBin_rem', wrap_in, ↓xIf_f, ↓xIf_tt, ↓xEx0, ↓xEx1, ↓xEx2, ↓xEx3, ↓xBin_eqs, ↓xBin_nes, ↓xUn_not, ↓xu8_com, ↓xu8_eql, ↓xu8_lss, ↓xu8_gtr, ↓xu16_com, ↓xu16_eql, 
      ↓xu16_lss, ↓xu16_gtr, ↓xu32_com, ↓xu32_eql, ↓xu32_lss, ↓xu32_gtr, ↓xu64_com, ↓xu64_eql, ↓xu64_lss, ↓xu64_gtr, ↓xi64_lss, ↓xi64_gtr, ↓xi64_eql, Int.toNat_natCast, Int.reduceToNat, Nat.reduceMul, Nat.reduceAdd, Nat.reduceSub, 
      Nat.mul_one, List.nil_append, List.cons_append, List.getElem?_toArray, List.getElem?_cons_zero, List.getElem?_cons_succ, cells_int, cells_bool, cells_string, cells_slice, cells_pointer, cells_agg, one_int, one_bool, 
      one_string, one_slice, one_pointer, List.setIfInBounds_toArray, List.set_cons_zero, List.set_cons_succ, ↓xSq_r, ↓xPur_s, ↓xRd_s, ↓xRe_s, ↓xDet_s, ↓xDet_ld, ↓xDet_ld2, ↓xDet_ld3, ↓xDet_ld4, World.size_drew, Nat.zero_add, 
      Nat.add_zero, cell_drew, frozen_drew, cell_set_eq, cell_set_o, cell_set_b, Option.map_some, World.frozen?_setCell, decide_true, decide_false, List.not_mem_nil, not_false_eq_true, ↓xGuard_tt, Bool.not_true, Bool.not_false, 
      ←decide_not, ↓bd_28, ↓ln_26, eq_self]
    refine loamref5_Zag_call (Gives.to (rZag_spec _ _) fun v7 F7 => ?_)
    rw [zag_zig hv]
    simp (disch := (first | omega | decide | (simp only [World.size_alloc, World.size_setCell, World.size_drew, List.mem_cons, List.not_mem_nil, or_false, not_false_eq_true] <;> omega) | fail)) only [↓xBox_r, ↓loadK_some, ↓loadsK_s, ↓loadsK_n, ↓loadsR_s, ↓loadsR_n, ↓storesK_s, ↓storesK_n, setCells_c, setCells_n, World.setCell_alloc_at, World.setCell_alloc_past, World.cell?_alloc_at, World.cell?_alloc_past, 
      World.frozen?_alloc_at, World.frozen?_alloc_past, World.size_alloc, ↓xPick_t, ↓xPick_f, ↓xGuard_tt, ↓xGuard_ff, ↓xGuard_tf, ↓xGuard_ft, ↓xGuard_u, ↓xNil_r, Option.isNone_some, Option.isNone_none, ↓xIf_t, tick_eq, tickV_eq, ne_eq, 
      dlt_t, dlt_f, dle_t, dle_f, deq_t, deq_f, dne_t, dne_f, not_true_eq_false, Int.reduceAdd, Int.reduceSub, Int.reduceMul, Int.reduceEq, Int.reduceLT, Int.reduceLE, Bool.false_and, Bool.true_and, Bool.and_true, 
      Bool.and_false, ↓xBin_add', ↓xBin_sub', ↓xBin_mul', ↓xBin_quo', ↓xBin_rem', wrap_in, ↓xIf_f, ↓xIf_tt, ↓xEx0, ↓xEx1, ↓xEx2, ↓xEx3, ↓xBin_eqs, ↓xBin_nes, ↓xUn_not, ↓xu8_com, ↓xu8_eql, ↓xu8_lss, ↓xu8_gtr, ↓xu16_com, ↓xu16_eql, 
      ↓xu16_lss, ↓xu16_gtr, ↓xu32_com, ↓xu32_eql, ↓xu32_lss, ↓xu32_gtr, ↓xu64_com, ↓xu64_eql, ↓xu64_lss, ↓xu64_gtr, ↓xi64_lss, ↓xi64_gtr, ↓xi64_eql, Int.toNat_natCast, Int.reduceToNat, Nat.reduceMul, Nat.reduceAdd, Nat.reduceSub, 
      Nat.mul_one, List.nil_append, List.cons_append, List.getElem?_toArray, List.getElem?_cons_zero, List.getElem?_cons_succ, cells_int, cells_bool, cells_string, cells_slice, cells_pointer, cells_agg, one_int, one_bool, 
      one_string, one_slice, one_pointer, List.setIfInBounds_toArray, List.set_cons_zero, List.set_cons_succ, ↓xSq_r, ↓xPur_s, ↓xRd_s, ↓xRe_s, ↓xDet_s, ↓xDet_ld, ↓xDet_ld2, ↓xDet_ld3, ↓xDet_ld4, World.size_drew, Nat.zero_add, 
      Nat.add_zero, cell_drew, frozen_drew, cell_set_eq, cell_set_o, cell_set_b, Option.map_some, World.frozen?_setCell, decide_true, decide_false, List.not_mem_nil, not_false_eq_true, ↓xGuard_tt, Bool.not_true, Bool.not_false, 
      ←decide_not, ↓bd_28, ↓ln_26, eq_self]
    exact ⟨by trivial, (((E1.trans G4).trans F5).trans F6).trans F7⟩
  · by_cases g2 : 63 < v
    · simp (disch := (first | omega | decide | (simp only [World.size_alloc, World.size_setCell, World.size_drew, List.mem_cons, List.not_mem_nil, or_false, not_false_eq_true] <;> omega) | fail)) only [↓xBox_r, ↓loadK_some, ↓loadsK_s, ↓loadsK_n, ↓loadsR_s, ↓loadsR_n, ↓storesK_s, ↓storesK_n, setCells_c, setCells_n, World.setCell_alloc_at, World.setCell_alloc_past, World.cell?_alloc_at, World.cell?_alloc_past, 
      World.frozen?_alloc_at, World.frozen?_alloc_past, World.size_alloc, ↓xPick_t, ↓xPick_f, ↓xGuard_tt, ↓xGuard_ff, ↓xGuard_tf, ↓xGuard_ft, ↓xGuard_u, ↓xNil_r, Option.isNone_some, Option.isNone_none, ↓xIf_t, tick_eq, tickV_eq, ne_eq, 
      dlt_t, dlt_f, dle_t, dle_f, deq_t, deq_f, dne_t, dne_f, not_true_eq_false, Int.reduceAdd, Int.reduceSub, Int.reduceMul, Int.reduceEq, Int.reduceLT, Int.reduceLE, Bool.false_and, Bool.true_and, Bool.and_true, 
      Bool.and_false, ↓xBin_add', ↓xBin_sub', ↓xBin_mul', ↓xBin_quo', ↓xBin_rem', wrap_in, ↓xIf_f, ↓xIf_tt, ↓xEx0, ↓xEx1, ↓xEx2, ↓xEx3, ↓xBin_eqs, ↓xBin_nes, ↓xUn_not, ↓xu8_com, ↓xu8_eql, ↓xu8_lss, ↓xu8_gtr, ↓xu16_com, ↓xu16_eql, 
      ↓xu16_lss, ↓xu16_gtr, ↓xu32_com, ↓xu32_eql, ↓xu32_lss, ↓xu32_gtr, ↓xu64_com, ↓xu64_eql, ↓xu64_lss, ↓xu64_gtr, ↓xi64_lss, ↓xi64_gtr, ↓xi64_eql, Int.toNat_natCast, Int.reduceToNat, Nat.reduceMul, Nat.reduceAdd, Nat.reduceSub, 
      Nat.mul_one, List.nil_append, List.cons_append, List.getElem?_toArray, List.getElem?_cons_zero, List.getElem?_cons_succ, cells_int, cells_bool, cells_string, cells_slice, cells_pointer, cells_agg, one_int, one_bool, 
      one_string, one_slice, one_pointer, List.setIfInBounds_toArray, List.set_cons_zero, List.set_cons_succ, ↓xSq_r, ↓xPur_s, ↓xRd_s, ↓xRe_s, ↓xDet_s, ↓xDet_ld, ↓xDet_ld2, ↓xDet_ld3, ↓xDet_ld4, World.size_drew, Nat.zero_add, 
      Nat.add_zero, cell_drew, frozen_drew, cell_set_eq, cell_set_o, cell_set_b, Option.map_some, World.frozen?_setCell, decide_true, decide_false, List.not_mem_nil, not_false_eq_true, ↓xGuard_tt, Bool.not_true, Bool.not_false, 
      ←decide_not, ↓bd_28, ↓ln_26, eq_self]
      refine loamref5_Zig_call (Gives.to (rZig_spec v hv _) fun v6 F6 => ?_)
      rw [← zig_eq hv]
      simp (disch := (first | omega | decide | (simp only [World.size_alloc, World.size_setCell, World.size_drew, List.mem_cons, List.not_mem_nil, or_false, not_false_eq_true] <;> omega) | fail)) only [↓xBox_r, ↓loadK_some, ↓loadsK_s, ↓loadsK_n, ↓loadsR_s, ↓loadsR_n, ↓storesK_s, ↓storesK_n, setCells_c, setCells_n, World.setCell_alloc_at, World.setCell_alloc_past, World.cell?_alloc_at, World.cell?_alloc_past, 
      World.frozen?_alloc_at, World.frozen?_alloc_past, World.size_alloc, ↓xPick_t, ↓xPick_f, ↓xGuard_tt, ↓xGuard_ff, ↓xGuard_tf, ↓xGuard_ft, ↓xGuard_u, ↓xNil_r, Option.isNone_some, Option.isNone_none, ↓xIf_t, tick_eq, tickV_eq, ne_eq, 
      dlt_t, dlt_f, dle_t, dle_f, deq_t, deq_f, dne_t, dne_f, not_true_eq_false, Int.reduceAdd, Int.reduceSub, Int.reduceMul, Int.reduceEq, Int.reduceLT, Int.reduceLE, Bool.false_and, Bool.true_and, Bool.and_true, 
      Bool.and_false, ↓xBin_add', ↓xBin_sub', ↓xBin_mul', ↓xBin_quo', ↓xBin_rem', wrap_in, ↓xIf_f, ↓xIf_tt, ↓xEx0, ↓xEx1, ↓xEx2, ↓xEx3, ↓xBin_eqs, ↓xBin_nes, ↓xUn_not, ↓xu8_com, ↓xu8_eql, ↓xu8_lss, ↓xu8_gtr, ↓xu16_com, ↓xu16_eql, 
      ↓xu16_lss, ↓xu16_gtr, ↓xu32_com, ↓xu32_eql, ↓xu32_lss, ↓xu32_gtr, ↓xu64_com, ↓xu64_eql, ↓xu64_lss, ↓xu64_gtr, ↓xi64_lss, ↓xi64_gtr, ↓xi64_eql, Int.toNat_natCast, Int.reduceToNat, Nat.reduceMul, Nat.reduceAdd, Nat.reduceSub, 
      Nat.mul_one, List.nil_append, List.cons_append, List.getElem?_toArray, List.getElem?_cons_zero, List.getElem?_cons_succ, cells_int, cells_bool, cells_string, cells_slice, cells_pointer, cells_agg, one_int, one_bool, 
      one_string, one_slice, one_pointer, List.setIfInBounds_toArray, List.set_cons_zero, List.set_cons_succ, ↓xSq_r, ↓xPur_s, ↓xRd_s, ↓xRe_s, ↓xDet_s, ↓xDet_ld, ↓xDet_ld2, ↓xDet_ld3, ↓xDet_ld4, World.size_drew, Nat.zero_add, 
      Nat.add_zero, cell_drew, frozen_drew, cell_set_eq, cell_set_o, cell_set_b, Option.map_some, World.frozen?_setCell, decide_true, decide_false, List.not_mem_nil, not_false_eq_true, ↓xGuard_tt, Bool.not_true, Bool.not_false, 
      ←decide_not, ↓bd_28, ↓ln_26, eq_self]
      refine loamref5_Zag_call (Gives.to (rZag_spec _ _) fun v7 F7 => ?_)
      rw [zag_zig hv]
      simp (disch := (first | omega | decide | (simp only [World.size_alloc, World.size_setCell, World.size_drew, List.mem_cons, List.not_mem_nil, or_false, not_false_eq_true] <;> omega) | fail)) only [↓xBox_r, ↓loadK_some, ↓loadsK_s, ↓loadsK_n, ↓loadsR_s, ↓loadsR_n, ↓storesK_s, ↓storesK_n, setCells_c, setCells_n, World.setCell_alloc_at, World.setCell_alloc_past, World.cell?_alloc_at, World.cell?_alloc_past, 
      World.frozen?_alloc_at, World.frozen?_alloc_past, World.size_alloc, ↓xPick_t, ↓xPick_f, ↓xGuard_tt, ↓xGuard_ff, ↓xGuard_tf, ↓xGuard_ft, ↓xGuard_u, ↓xNil_r, Option.isNone_some, Option.isNone_none, ↓xIf_t, tick_eq, tickV_eq, ne_eq, 
      dlt_t, dlt_f, dle_t, dle_f, deq_t, deq_f, dne_t, dne_f, not_true_eq_false, Int.reduceAdd, Int.reduceSub, Int.reduceMul, Int.reduceEq, Int.reduceLT, Int.reduceLE, Bool.false_and, Bool.true_and, Bool.and_true, 
      Bool.and_false, ↓xBin_add', ↓xBin_sub', ↓xBin_mul', ↓xBin_quo', ↓xBin_rem', wrap_in, ↓xIf_f, ↓xIf_tt, ↓xEx0, ↓xEx1, ↓xEx2, ↓xEx3, ↓xBin_eqs, ↓xBin_nes, ↓xUn_not, ↓xu8_com, ↓xu8_eql, ↓xu8_lss, ↓xu8_gtr, ↓xu16_com, ↓xu16_eql, 
      ↓xu16_lss, ↓xu16_gtr, ↓xu32_com, ↓xu32_eql, ↓xu32_lss, ↓xu32_gtr, ↓xu64_com, ↓xu64_eql, ↓xu64_lss, ↓xu64_gtr, ↓xi64_lss, ↓xi64_gtr, ↓xi64_eql, Int.toNat_natCast, Int.reduceToNat, Nat.reduceMul, Nat.reduceAdd, Nat.reduceSub, 
      Nat.mul_one, List.nil_append, List.cons_append, List.getElem?_toArray, List.getElem?_cons_zero, List.getElem?_cons_succ, cells_int, cells_bool, cells_string, cells_slice, cells_pointer, cells_agg, one_int, one_bool, 
      one_string, one_slice, one_pointer, List.setIfInBounds_toArray, List.set_cons_zero, List.set_cons_succ, ↓xSq_r, ↓xPur_s, ↓xRd_s, ↓xRe_s, ↓xDet_s, ↓xDet_ld, ↓xDet_ld2, ↓xDet_ld3, ↓xDet_ld4, World.size_drew, Nat.zero_add, 
      Nat.add_zero, cell_drew, frozen_drew, cell_set_eq, cell_set_o, cell_set_b, Option.map_some, World.frozen?_setCell, decide_true, decide_false, List.not_mem_nil, not_false_eq_true, ↓xGuard_tt, Bool.not_true, Bool.not_false, 
      ←decide_not, ↓bd_28, ↓ln_26, eq_self]
      exact ⟨by trivial, (((E1.trans G4).trans F5).trans F6).trans F7⟩
    · simp (disch := (first | omega | decide | (simp only [World.size_alloc, World.size_setCell, World.size_drew, List.mem_cons, List.not_mem_nil, or_false, not_false_eq_true] <;> omega) | fail)) only [↓xBox_r, ↓loadK_some, ↓loadsK_s, ↓loadsK_n, ↓loadsR_s, ↓loadsR_n, ↓storesK_s, ↓storesK_n, setCells_c, setCells_n, World.setCell_alloc_at, World.setCell_alloc_past, World.cell?_alloc_at, World.cell?_alloc_past, 
      World.frozen?_alloc_at, World.frozen?_alloc_past, World.size_alloc, ↓xPick_t, ↓xPick_f, ↓xGuard_tt, ↓xGuard_ff, ↓xGuard_tf, ↓xGuard_ft, ↓xGuard_u, ↓xNil_r, Option.isNone_some, Option.isNone_none, ↓xIf_t, tick_eq, tickV_eq, ne_eq, 
      dlt_t, dlt_f, dle_t, dle_f, deq_t, deq_f, dne_t, dne_f, not_true_eq_false, Int.reduceAdd, Int.reduceSub, Int.reduceMul, Int.reduceEq, Int.reduceLT, Int.reduceLE, Bool.false_and, Bool.true_and, Bool.and_true, 
      Bool.and_false, ↓xBin_add', ↓xBin_sub', ↓xBin_mul', ↓xBin_quo', ↓xBin_rem', wrap_in, ↓xIf_f, ↓xIf_tt, ↓xEx0, ↓xEx1, ↓xEx2, ↓xEx3, ↓xBin_eqs, ↓xBin_nes, ↓xUn_not, ↓xu8_com, ↓xu8_eql, ↓xu8_lss, ↓xu8_gtr, ↓xu16_com, ↓xu16_eql, 
      ↓xu16_lss, ↓xu16_gtr, ↓xu32_com, ↓xu32_eql, ↓xu32_lss, ↓xu32_gtr, ↓xu64_com, ↓xu64_eql, ↓xu64_lss, ↓xu64_gtr, ↓xi64_lss, ↓xi64_gtr, ↓xi64_eql, Int.toNat_natCast, Int.reduceToNat, Nat.reduceMul, Nat.reduceAdd, Nat.reduceSub, 
      Nat.mul_one, List.nil_append, List.cons_append, List.getElem?_toArray, List.getElem?_cons_zero, List.getElem?_cons_succ, cells_int, cells_bool, cells_string, cells_slice, cells_pointer, cells_agg, one_int, one_bool, 
      one_string, one_slice, one_pointer, List.setIfInBounds_toArray, List.set_cons_zero, List.set_cons_succ, ↓xSq_r, ↓xPur_s, ↓xRd_s, ↓xRe_s, ↓xDet_s, ↓xDet_ld, ↓xDet_ld2, ↓xDet_ld3, ↓xDet_ld4, World.size_drew, Nat.zero_add, 
      Nat.add_zero, cell_drew, frozen_drew, cell_set_eq, cell_set_o, cell_set_b, Option.map_some, World.frozen?_setCell, decide_true, decide_false, List.not_mem_nil, not_false_eq_true, ↓xGuard_tt, Bool.not_true, Bool.not_false, 
      ←decide_not, ↓bd_28, ↓ln_26, eq_self]
      refine codec_Enc_Bytes_call (Yld.mono (Enc_Bytes_spec (H4.ext0 F5) (by omega)) ?_)
      rintro u v8 ⟨F8, a8, c8, rfl, hc8, hn8, R8, N8⟩
      rw [zig_small hv (by omega) (by omega)]
      simp (disch := (first | omega | decide | (simp only [World.size_alloc, World.size_setCell, World.size_drew, List.mem_cons, List.not_mem_nil, or_false, not_false_eq_true] <;> omega) | fail)) only [↓xBox_r, ↓loadK_some, ↓loadsK_s, ↓loadsK_n, ↓loadsR_s, ↓loadsR_n, ↓storesK_s, ↓storesK_n, setCells_c, setCells_n, World.setCell_alloc_at, World.setCell_alloc_past, World.cell?_alloc_at, World.cell?_alloc_past, 
      World.frozen?_alloc_at, World.frozen?_alloc_past, World.size_alloc, ↓xPick_t, ↓xPick_f, ↓xGuard_tt, ↓xGuard_ff, ↓xGuard_tf, ↓xGuard_ft, ↓xGuard_u, ↓xNil_r, Option.isNone_some, Option.isNone_none, ↓xIf_t, tick_eq, tickV_eq, ne_eq, 
      dlt_t, dlt_f, dle_t, dle_f, deq_t, deq_f, dne_t, dne_f, not_true_eq_false, Int.reduceAdd, Int.reduceSub, Int.reduceMul, Int.reduceEq, Int.reduceLT, Int.reduceLE, Bool.false_and, Bool.true_and, Bool.and_true, 
      Bool.and_false, ↓xBin_add', ↓xBin_sub', ↓xBin_mul', ↓xBin_quo', ↓xBin_rem', wrap_in, ↓xIf_f, ↓xIf_tt, ↓xEx0, ↓xEx1, ↓xEx2, ↓xEx3, ↓xBin_eqs, ↓xBin_nes, ↓xUn_not, ↓xu8_com, ↓xu8_eql, ↓xu8_lss, ↓xu8_gtr, ↓xu16_com, ↓xu16_eql, 
      ↓xu16_lss, ↓xu16_gtr, ↓xu32_com, ↓xu32_eql, ↓xu32_lss, ↓xu32_gtr, ↓xu64_com, ↓xu64_eql, ↓xu64_lss, ↓xu64_gtr, ↓xi64_lss, ↓xi64_gtr, ↓xi64_eql, Int.toNat_natCast, Int.reduceToNat, Nat.reduceMul, Nat.reduceAdd, Nat.reduceSub, 
      Nat.mul_one, List.nil_append, List.cons_append, List.getElem?_toArray, List.getElem?_cons_zero, List.getElem?_cons_succ, cells_int, cells_bool, cells_string, cells_slice, cells_pointer, cells_agg, one_int, one_bool, 
      one_string, one_slice, one_pointer, List.setIfInBounds_toArray, List.set_cons_zero, List.set_cons_succ, ↓xSq_r, ↓xPur_s, ↓xRd_s, ↓xRe_s, ↓xDet_s, ↓xDet_ld, ↓xDet_ld2, ↓xDet_ld3, ↓xDet_ld4, World.size_drew, Nat.zero_add, 
      Nat.add_zero, cell_drew, frozen_drew, cell_set_eq, cell_set_o, cell_set_b, Option.map_some, World.frozen?_setCell, decide_true, decide_false, List.not_mem_nil, not_false_eq_true, ↓xGuard_tt, Bool.not_true, Bool.not_false, 
      ←decide_not, ↓bd_28, ↓ln_26, eq_self]
      refine loamref5_Zig_call (Gives.to (rZig_spec v hv _) fun v6 F6 => ?_)
      rw [← zig_eq hv]
      simp (disch := (first | omega | decide | (simp only [World.size_alloc, World.size_setCell, World.size_drew, List.mem_cons, List.not_mem_nil, or_false, not_false_eq_true] <;> omega) | fail)) only [↓xBox_r, ↓loadK_some, ↓loadsK_s, ↓loadsK_n, ↓loadsR_s, ↓loadsR_n, ↓storesK_s, ↓storesK_n, setCells_c, setCells_n, World.setCell_alloc_at, World.setCell_alloc_past, World.cell?_alloc_at, World.cell?_alloc_past, 
      World.frozen?_alloc_at, World.frozen?_alloc_past, World.size_alloc, ↓xPick_t, ↓xPick_f, ↓xGuard_tt, ↓xGuard_ff, ↓xGuard_tf, ↓xGuard_ft, ↓xGuard_u, ↓xNil_r, Option.isNone_some, Option.isNone_none, ↓xIf_t, tick_eq, tickV_eq, ne_eq, 
      dlt_t, dlt_f, dle_t, dle_f, deq_t, deq_f, dne_t, dne_f, not_true_eq_false, Int.reduceAdd, Int.reduceSub, Int.reduceMul, Int.reduceEq, Int.reduceLT, Int.reduceLE, Bool.false_and, Bool.true_and, Bool.and_true, 
      Bool.and_false, ↓xBin_add', ↓xBin_sub', ↓xBin_mul', ↓xBin_quo', ↓xBin_rem', wrap_in, ↓xIf_f, ↓xIf_tt, ↓xEx0, ↓xEx1, ↓xEx2, ↓xEx3, ↓xBin_eqs, ↓xBin_nes, ↓xUn_not, ↓xu8_com, ↓xu8_eql, ↓xu8_lss, ↓xu8_gtr, ↓xu16_com, ↓xu16_eql, 
      ↓xu16_lss, ↓xu16_gtr, ↓xu32_com, ↓xu32_eql, ↓xu32_lss, ↓xu32_gtr, ↓xu64_com, ↓xu64_eql, ↓xu64_lss, ↓xu64_gtr, ↓xi64_lss, ↓xi64_gtr, ↓xi64_eql, Int.toNat_natCast, Int.reduceToNat, Nat.reduceMul, Nat.reduceAdd, Nat.reduceSub, 
      Nat.mul_one, List.nil_append, List.cons_append, List.getElem?_toArray, List.getElem?_cons_zero, List.getElem?_cons_succ, cells_int, cells_bool, cells_string, cells_slice, cells_pointer, cells_agg, one_int, one_bool, 
      one_string, one_slice, one_pointer, List.setIfInBounds_toArray, List.set_cons_zero, List.set_cons_succ, ↓xSq_r, ↓xPur_s, ↓xRd_s, ↓xRe_s, ↓xDet_s, ↓xDet_ld, ↓xDet_ld2, ↓xDet_ld3, ↓xDet_ld4, World.size_drew, Nat.zero_add, 
      Nat.add_zero, cell_drew, frozen_drew, cell_set_eq, cell_set_o, cell_set_b, Option.map_some, World.frozen?_setCell, decide_true, decide_false, List.not_mem_nil, not_false_eq_true, ↓xGuard_tt, Bool.not_true, Bool.not_false, 
      ←decide_not, ↓bd_28, ↓ln_26, eq_self]
      refine loamref5_Zag_call (Gives.to (rZag_spec _ _) fun v7 F7 => ?_)
      rw [zag_zig hv]
      simp (disch := (first | omega | decide | (simp only [World.size_alloc, World.size_setCell, World.size_drew, List.mem_cons, List.not_mem_nil, or_false, not_false_eq_true] <;> omega) | fail)) only [↓xBox_r, ↓loadK_some, ↓loadsK_s, ↓loadsK_n, ↓loadsR_s, ↓loadsR_n, ↓storesK_s, ↓storesK_n, setCells_c, setCells_n, World.setCell_alloc_at, World.setCell_alloc_past, World.cell?_alloc_at, World.cell?_alloc_past, 
      World.frozen?_alloc_at, World.frozen?_alloc_past, World.size_alloc, ↓xPick_t, ↓xPick_f, ↓xGuard_tt, ↓xGuard_ff, ↓xGuard_tf, ↓xGuard_ft, ↓xGuard_u, ↓xNil_r, Option.isNone_some, Option.isNone_none, ↓xIf_t, tick_eq, tickV_eq, ne_eq, 
      dlt_t, dlt_f, dle_t, dle_f, deq_t, deq_f, dne_t, dne_f, not_true_eq_false, Int.reduceAdd, Int.reduceSub, Int.reduceMul, Int.reduceEq, Int.reduceLT, Int.reduceLE, Bool.false_and, Bool.true_and, Bool.and_true, 
      Bool.and_false, ↓xBin_add', ↓xBin_sub', ↓xBin_mul', ↓xBin_quo', ↓xBin_rem', wrap_in, ↓xIf_f, ↓xIf_tt, ↓xEx0, ↓xEx1, ↓xEx2, ↓xEx3, ↓xBin_eqs, ↓xBin_nes, ↓xUn_not, ↓xu8_com, ↓xu8_eql, ↓xu8_lss, ↓xu8_gtr, ↓xu16_com, ↓xu16_eql, 
      ↓xu16_lss, ↓xu16_gtr, ↓xu32_com, ↓xu32_eql, ↓xu32_lss, ↓xu32_gtr, ↓xu64_com, ↓xu64_eql, ↓xu64_lss, ↓xu64_gtr, ↓xi64_lss, ↓xi64_gtr, ↓xi64_eql, Int.toNat_natCast, Int.reduceToNat, Nat.reduceMul, Nat.reduceAdd, Nat.reduceSub, 
      Nat.mul_one, List.nil_append, List.cons_append, List.getElem?_toArray, List.getElem?_cons_zero, List.getElem?_cons_succ, cells_int, cells_bool, cells_string, cells_slice, cells_pointer, cells_agg, one_int, one_bool, 
      one_string, one_slice, one_pointer, List.setIfInBounds_toArray, List.set_cons_zero, List.set_cons_succ, ↓xSq_r, ↓xPur_s, ↓xRd_s, ↓xRe_s, ↓xDet_s, ↓xDet_ld, ↓xDet_ld2, ↓xDet_ld3, ↓xDet_ld4, World.size_drew, Nat.zero_add, 
      Nat.add_zero, cell_drew, frozen_drew, cell_set_eq, cell_set_o, cell_set_b, Option.map_some, World.frozen?_setCell, decide_true, decide_false, List.not_mem_nil, not_false_eq_true, ↓xGuard_tt, Bool.not_true, Bool.not_false, 
      ←decide_not, ↓bd_28, ↓ln_26, eq_self]
      exact ⟨by trivial, ((((E1.trans G4).trans F5).trans F8).trans F6).trans F7⟩
end Go.Proofs.Ytlllabaipfmnjaa
