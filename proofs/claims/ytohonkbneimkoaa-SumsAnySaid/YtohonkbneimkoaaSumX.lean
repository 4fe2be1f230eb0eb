/- The sum of what two rows of bytes differ in: the law, and the walk. -/
import Derived.Test.YtohonkbneimkoaaSumU
set_option linter.unusedVariables false
set_option linter.unusedSimpArgs false
set_option maxHeartbeats 4000000
namespace Go.Proofs.Ytohonkbneimkoaa
open Go.Sh Go.RowKit

def xorB (l m : List (BitVec 8)) : List (BitVec 8) := List.zipWith (· ^^^ ·) l m
theorem xorB_length {l m : List (BitVec 8)} (h : l.length = m.length) : (xorB l m).length = l.length := by simp [xorB]; omega
theorem bitAt_xor {l m : List (BitVec 8)} (h : l.length = m.length) (t : Nat) : bitAt (xorB l m) t = (bitAt l t ^^ bitAt m t) := by
  unfold bitAt xorB
  simp only [List.getD_eq_getElem?_getD]
  by_cases ht : t / 8 < l.length
  · rw [List.getElem?_eq_getElem (by simp; omega), List.getElem?_eq_getElem ht, List.getElem?_eq_getElem (h ▸ ht), List.getElem_zipWith]
    simp
  · rw [List.getElem?_eq_none (by simp; omega), List.getElem?_eq_none (by omega), List.getElem?_eq_none (by omega)]
    simp
theorem bitAt_zero (n t : Nat) : bitAt (List.replicate n (BitVec.ofNat 8 0)) t = false := by
  unfold bitAt
  by_cases h : t / 8 < n <;> simp [List.getD_eq_getElem?_getD, List.getElem?_replicate, h]
theorem not_xor3 (p q r : BitVec 32) : ~~~(p ^^^ (q ^^^ r)) = ~~~p ^^^ ~~~q ^^^ ~~~r := by
  apply BitVec.eq_of_getLsbD_eq
  intro i hi
  simp only [BitVec.getLsbD_not, BitVec.getLsbD_xor, hi, decide_true, Bool.true_and]
  cases p.getLsbD i <;> cases q.getLsbD i <;> cases r.getLsbD i <;> rfl
theorem sum_xor {l m : List (BitVec 8)} (h : l.length = m.length) : sumV (xorB l m) = sumV l ^^^ sumV m ^^^ sumV (List.replicate l.length (BitVec.ofNat 8 0)) := by
  unfold sumV addV
  rw [run_serial, run_serial, run_serial, run_serial, ← not_xor3, xorB_length h, List.length_replicate, ← h]
  congr 1
  rw [← serial_xor, ← serial_xor]
  have e : ∀ s : BitVec 32, s ^^^ (s ^^^ s) = s := fun s => by rw [BitVec.xor_self, BitVec.xor_zero]
  rw [e]
  refine serial_congr fun i _ => ?_
  rw [bitAt_xor h, bitAt_zero, Bool.xor_false]
theorem sumsV_one (l : List (BitVec 8)) : sumsV (BitVec.ofNat 32 0) [l] = sumV l := rfl
/-- a row of bytes made to a row of rows, and summed -/
theorem sum_strand {w0 : World} {next : Value → Prop} {l : List (BitVec 8)} {a : Option Addr} {n c : Nat} (h : RowAt w0 a (bys l)) (hn : n = l.length) (hl : l.length ≤ 4294967296) (hx : next (u32 (sumV l))) :
    xStr (fun N => xNon (Lq [] []) (Lq [] [] w0) (fun w K => xBuildSlice Try.prog 50 1 [(0, .slice a n c)] w K) fun t hh =>
      xDet (Lq [] []) (fun w => Lq [] [] w0 w ∧ hh w) (fun w K => xCall Try.prog (fnv 32) [t] w K) N) next := by
  subst hn
  refine xStr_x (u32 (sumV l)) ?_ hx
  refine xNon_x (V := fun v w' => ∃ ap, v = .slice ap 1 1 ∧ partsAt w' ap [(a, c, l)]) (fun u w1 w2 hV hq => ?_) (fun wq hq => ?_) fun u => xDet_x (fun wq hq => ?_) rfl
  · obtain ⟨ap, e, hr⟩ := hV
    exact ⟨ap, e, hr.ext hq.ext⟩
  · simp (disch := (first | omega | decide | (simp only [World.size_alloc, World.size_setCell, World.size_drew, List.mem_cons, List.not_mem_nil, or_false, not_false_eq_true] <;> omega) | fail)) only [↓xBox_r, ↓loadK_some, ↓loadsK_s, ↓loadsK_n, ↓loadsR_s, ↓loadsR_n, ↓storesK_s, ↓storesK_n, setCells_c, setCells_n, World.setCell_alloc_at, World.setCell_alloc_past, World.cell?_alloc_at, World.cell?_alloc_past, 
      World.frozen?_alloc_at, World.frozen?_alloc_past, World.size_alloc, ↓xPick_t, ↓xPick_f, ↓xGuard_tt, ↓xGuard_ff, ↓xGuard_tf, ↓xGuard_ft, ↓xGuard_u, ↓xNil_r, Option.isNone_some, Option.isNone_none, ↓xIf_t, tick_eq, tickV_eq, ne_eq, 
      dlt_t, dlt_f, dle_t, dle_f, deq_t, deq_f, dne_t, dne_f, not_true_eq_false, Int.reduceAdd, Int.reduceSub, Int.reduceMul, Int.reduceEq, Int.reduceLT, Int.reduceLE, Bool.false_and, Bool.true_and, Bool.and_true, 
      Bool.and_false, ↓xBin_add', ↓xBin_sub', ↓xBin_mul', ↓xBin_quo', ↓xBin_rem', wrap_in, ↓xIf_f, ↓xIf_tt, ↓xEx0, ↓xEx1, ↓xEx2, ↓xEx3, ↓xBin_eqs, ↓xBin_nes, ↓xUn_not, Int.toNat_natCast, Int.reduceToNat, Nat.reduceMul, Nat.reduceAdd, 
      Nat.reduceSub, Nat.mul_one, List.nil_append, List.cons_append, List.getElem?_toArray, List.getElem?_cons_zero, List.getElem?_cons_succ, cells_int, cells_bool, cells_string, cells_slice, cells_pointer, cells_agg, one_int, 
      one_bool, one_string, one_slice, one_pointer, List.setIfInBounds_toArray, List.set_cons_zero, List.set_cons_succ, ↓xDet_s, ↓xDet_ld, ↓xDet_ld2, ↓xDet_ld3, ↓xDet_ld4, World.size_drew, Nat.zero_add, Nat.add_zero, 
      cell_drew, frozen_drew, cell_set_eq, cell_set_o, cell_set_b, Option.map_some, World.frozen?_setCell, decide_true, decide_false, List.not_mem_nil, not_false_eq_true, ↓xGuard_tt, Bool.not_true, Bool.not_false, ←decide_not, ↓bs_50_1, ↓bs_50_2, eq_self]
    exact ⟨⟨_, rfl, one_part (h.ext0 hq.ext) hl⟩, Lq.of (Ext.alloc _ _ _)⟩
  · obtain ⟨hq, ap, rfl, hr⟩ := hq
    exact crc_Sum_call (Gives.lq (Sum_spec [(a, c, l)] ap 1 1 wq rfl (by decide) hr))
theorem SumsXor_spec (l : List (BitVec 8)) (a : Option Addr) (n c : Nat) (l' : List (BitVec 8)) (a' : Option Addr) (n' c' : Nat) (w : World) (ha : BytesArg w l a n c) (hb : BytesArg w l' a' n' c') :
    Gives Try.prog n_loamlaw2_SumsXor #[.slice a n c, .slice a' n' c'] w (.bool true) := by
  obtain ⟨rfl, hcap, -, hnil, h⟩ := ha
  obtain ⟨rfl, hcap', -, hnil', h'⟩ := hb
  refine loamlaw2_SumsXor_of ?_
  unfold loamlaw2_SumsXor
  refine loamlaw2_known_call (Gives.to (known2_spec _) fun w1 E1 => ?_)
  have z1 := E1.size
  try simp only [World.size_alloc, World.size_setCell, World.size_drew] at z1
  simp (disch := (first | omega | decide | (simp only [World.size_alloc, World.size_setCell, World.size_drew, List.mem_cons, List.not_mem_nil, or_false, not_false_eq_true] <;> omega) | fail)) only [↓xBox_r, ↓loadK_some, ↓loadsK_s, ↓loadsK_n, ↓loadsR_s, ↓loadsR_n, ↓storesK_s, ↓storesK_n, setCells_c, setCells_n, World.setCell_alloc_at, World.setCell_alloc_past, World.cell?_alloc_at, World.cell?_alloc_past, 
      World.frozen?_alloc_at, World.frozen?_alloc_past, World.size_alloc, ↓xPick_t, ↓xPick_f, ↓xGuard_tt, ↓xGuard_ff, ↓xGuard_tf, ↓xGuard_ft, ↓xGuard_u, ↓xNil_r, Option.isNone_some, Option.isNone_none, ↓xIf_t, tick_eq, tickV_eq, ne_eq, 
      dlt_t, dlt_f, dle_t, dle_f, deq_t, deq_f, dne_t, dne_f, not_true_eq_false, Int.reduceAdd, Int.reduceSub, Int.reduceMul, Int.reduceEq, Int.reduceLT, Int.reduceLE, Bool.false_and, Bool.true_and, Bool.and_true, 
      Bool.and_false, ↓xBin_add', ↓xBin_sub', ↓xBin_mul', ↓xBin_quo', ↓xBin_rem', wrap_in, ↓xIf_f, ↓xIf_tt, ↓xEx0, ↓xEx1, ↓xEx2, ↓xEx3, ↓xBin_eqs, ↓xBin_nes, ↓xUn_not, ↓xu8_add, ↓xu8_xor, ↓xu8_com, ↓xu8_eql, ↓xu8_lss, ↓xu8_gtr, 
      ↓xu16_add, ↓xu16_xor, ↓xu16_com, ↓xu16_eql, ↓xu16_lss, ↓xu16_gtr, ↓xu32_add, ↓xu32_xor, ↓xu32_com, ↓xu32_eql, ↓xu32_lss, ↓xu32_gtr, ↓xu64_add, ↓xu64_xor, ↓xu64_com, ↓xu64_eql, ↓xu64_lss, ↓xu64_gtr, ↓xi64_lss, ↓xi64_gtr, 
      ↓xi64_eql, ↓xi64_xor, Int.toNat_natCast, Int.reduceToNat, Nat.reduceMul, Nat.reduceAdd, Nat.reduceSub, Nat.mul_one, List.nil_append, List.cons_append, List.getElem?_toArray, List.getElem?_cons_zero, List.getElem?_cons_succ, 
      cells_int, cells_bool, cells_string, cells_slice, cells_pointer, cells_agg, one_int, one_bool, one_string, one_slice, one_pointer, List.setIfInBounds_toArray, List.set_cons_zero, List.set_cons_succ, ↓xDet_s, ↓xDet_ld, 
      ↓xDet_ld2, ↓xDet_ld3, ↓xDet_ld4, World.size_drew, Nat.zero_add, Nat.add_zero, cell_drew, frozen_drew, cell_set_eq, cell_set_o, cell_set_b, Option.map_some, World.frozen?_setCell, decide_true, decide_false, List.not_mem_nil, 
      not_false_eq_true, ↓xGuard_tt, Bool.not_true, Bool.not_false, ←decide_not, ↓ld_5, ↓st_5, ↓ia_51, ↓ln_51, ↓bs_50_1, ↓bs_50_2, ↓mk_51, ↓sh_51, ↓sl_51, eq_self]
  by_cases g1 : 300 < (l.length : Int)
  · simp (disch := (first | omega | decide | (simp only [World.size_alloc, World.size_setCell, World.size_drew, List.mem_cons, List.not_mem_nil, or_false, not_false_eq_true] <;> omega) | fail)) only [↓xBox_r, ↓loadK_some, ↓loadsK_s, ↓loadsK_n, ↓loadsR_s, ↓loadsR_n, ↓storesK_s, ↓storesK_n, setCells_c, setCells_n, World.setCell_alloc_at, World.setCell_alloc_past, World.cell?_alloc_at, World.cell?_alloc_past, 
      World.frozen?_alloc_at, World.frozen?_alloc_past, World.size_alloc, ↓xPick_t, ↓xPick_f, ↓xGuard_tt, ↓xGuard_ff, ↓xGuard_tf, ↓xGuard_ft, ↓xGuard_u, ↓xNil_r, Option.isNone_some, Option.isNone_none, ↓xIf_t, tick_eq, tickV_eq, ne_eq, 
      dlt_t, dlt_f, dle_t, dle_f, deq_t, deq_f, dne_t, dne_f, not_true_eq_false, Int.reduceAdd, Int.reduceSub, Int.reduceMul, Int.reduceEq, Int.reduceLT, Int.reduceLE, Bool.false_and, Bool.true_and, Bool.and_true, 
      Bool.and_false, ↓xBin_add', ↓xBin_sub', ↓xBin_mul', ↓xBin_quo', ↓xBin_rem', wrap_in, ↓xIf_f, ↓xIf_tt, ↓xEx0, ↓xEx1, ↓xEx2, ↓xEx3, ↓xBin_eqs, ↓xBin_nes, ↓xUn_not, ↓xu8_add, ↓xu8_xor, ↓xu8_com, ↓xu8_eql, ↓xu8_lss, ↓xu8_gtr, 
      ↓xu16_add, ↓xu16_xor, ↓xu16_com, ↓xu16_eql, ↓xu16_lss, ↓xu16_gtr, ↓xu32_add, ↓xu32_xor, ↓xu32_com, ↓xu32_eql, ↓xu32_lss, ↓xu32_gtr, ↓xu64_add, ↓xu64_xor, ↓xu64_com, ↓xu64_eql, ↓xu64_lss, ↓xu64_gtr, ↓xi64_lss, ↓xi64_gtr, 
      ↓xi64_eql, ↓xi64_xor, Int.toNat_natCast, Int.reduceToNat, Nat.reduceMul, Nat.reduceAdd, Nat.reduceSub, Nat.mul_one, List.nil_append, List.cons_append, List.getElem?_toArray, List.getElem?_cons_zero, List.getElem?_cons_succ, 
      cells_int, cells_bool, cells_string, cells_slice, cells_pointer, cells_agg, one_int, one_bool, one_string, one_slice, one_pointer, List.setIfInBounds_toArray, List.set_cons_zero, List.set_cons_succ, ↓xDet_s, ↓xDet_ld, 
      ↓xDet_ld2, ↓xDet_ld3, ↓xDet_ld4, World.size_drew, Nat.zero_add, Nat.add_zero, cell_drew, frozen_drew, cell_set_eq, cell_set_o, cell_set_b, Option.map_some, World.frozen?_setCell, decide_true, decide_false, List.not_mem_nil, 
      not_false_eq_true, ↓xGuard_tt, Bool.not_true, Bool.not_false, ←decide_not, ↓ld_5, ↓st_5, ↓ia_51, ↓ln_51, ↓bs_50_1, ↓bs_50_2, ↓mk_51, ↓sh_51, ↓sl_51, eq_self, g1]
    exact ⟨by trivial, by (repeat (first | with_reducible exact Ext.refl _ _ | with_reducible assumption | with_reducible refine Ext.alloc' ?_ _ | with_reducible refine Ext.drew' ?_ | with_reducible refine Ext.set' ?_ ?_ | exact .inr (by first | omega | (simp only [World.size_alloc, World.size_drew, World.size_setCell] <;> omega)) | refine Ext.trans ?_ (by with_reducible assumption)))⟩
  by_cases g2 : (l'.length : Int) < l.length
  · simp (disch := (first | omega | decide | (simp only [World.size_alloc, World.size_setCell, World.size_drew, List.mem_cons, List.not_mem_nil, or_false, not_false_eq_true] <;> omega) | fail)) only [↓xBox_r, ↓loadK_some, ↓loadsK_s, ↓loadsK_n, ↓loadsR_s, ↓loadsR_n, ↓storesK_s, ↓storesK_n, setCells_c, setCells_n, World.setCell_alloc_at, World.setCell_alloc_past, World.cell?_alloc_at, World.cell?_alloc_past, 
      World.frozen?_alloc_at, World.frozen?_alloc_past, World.size_alloc, ↓xPick_t, ↓xPick_f, ↓xGuard_tt, ↓xGuard_ff, ↓xGuard_tf, ↓xGuard_ft, ↓xGuard_u, ↓xNil_r, Option.isNone_some, Option.isNone_none, ↓xIf_t, tick_eq, tickV_eq, ne_eq, 
      dlt_t, dlt_f, dle_t, dle_f, deq_t, deq_f, dne_t, dne_f, not_true_eq_false, Int.reduceAdd, Int.reduceSub, Int.reduceMul, Int.reduceEq, Int.reduceLT, Int.reduceLE, Bool.false_and, Bool.true_and, Bool.and_true, 
      Bool.and_false, ↓xBin_add', ↓xBin_sub', ↓xBin_mul', ↓xBin_quo', ↓xBin_rem', wrap_in, ↓xIf_f, ↓xIf_tt, ↓xEx0, ↓xEx1, ↓xEx2, ↓xEx3, ↓xBin_eqs, ↓xBin_nes, ↓xUn_not, ↓xu8_add, ↓xu8_xor, ↓xu8_com, ↓xu8_eql, ↓xu8_lss, ↓xu8_gtr, 
      ↓xu16_add, ↓xu16_xor, ↓xu16_com, ↓xu16_eql, ↓xu16_lss, ↓xu16_gtr, ↓xu32_add, ↓xu32_xor, ↓xu32_com, ↓xu32_eql, ↓xu32_lss, ↓xu32_gtr, ↓xu64_add, ↓xu64_xor, ↓xu64_com, ↓xu64_eql, ↓xu64_lss, ↓xu64_gtr, ↓xi64_lss, ↓xi64_gtr, 
      ↓xi64_eql, ↓xi64_xor, Int.toNat_natCast, Int.reduceToNat, Nat.reduceMul, Nat.reduceAdd, Nat.reduceSub, Nat.mul_one, List.nil_append, List.cons_append, List.getElem?_toArray, List.getElem?_cons_zero, List.getElem?_cons_succ, 
      cells_int, cells_bool, cells_string, cells_slice, cells_pointer, cells_agg, one_int, one_bool, one_string, one_slice, one_pointer, List.setIfInBounds_toArray, List.set_cons_zero, List.set_cons_succ, ↓xDet_s, ↓xDet_ld, 
      ↓xDet_ld2, ↓xDet_ld3, ↓xDet_ld4, World.size_drew, Nat.zero_add, Nat.add_zero, cell_drew, frozen_drew, cell_set_eq, cell_set_o, cell_set_b, Option.map_some, World.frozen?_setCell, decide_true, decide_false, List.not_mem_nil, 
      not_false_eq_true, ↓xGuard_tt, Bool.not_true, Bool.not_false, ←decide_not, ↓ld_5, ↓st_5, ↓ia_51, ↓ln_51, ↓bs_50_1, ↓bs_50_2, ↓mk_51, ↓sh_51, ↓sl_51, g1, g2]
    exact ⟨by trivial, by (repeat (first | with_reducible exact Ext.refl _ _ | with_reducible assumption | with_reducible refine Ext.alloc' ?_ _ | with_reducible refine Ext.drew' ?_ | with_reducible refine Ext.set' ?_ ?_ | exact .inr (by first | omega | (simp only [World.size_alloc, World.size_drew, World.size_setCell] <;> omega)) | refine Ext.trans ?_ (by with_reducible assumption)))⟩
  by_cases g3 : 300 < (l'.length : Int)
  · simp (disch := (first | omega | decide | (simp only [World.size_alloc, World.size_setCell, World.size_drew, List.mem_cons, List.not_mem_nil, or_false, not_false_eq_true] <;> omega) | fail)) only [↓xBox_r, ↓loadK_some, ↓loadsK_s, ↓loadsK_n, ↓loadsR_s, ↓loadsR_n, ↓storesK_s, ↓storesK_n, setCells_c, setCells_n, World.setCell_alloc_at, World.setCell_alloc_past, World.cell?_alloc_at, World.cell?_alloc_past, 
      World.frozen?_alloc_at, World.frozen?_alloc_past, World.size_alloc, ↓xPick_t, ↓xPick_f, ↓xGuard_tt, ↓xGuard_ff, ↓xGuard_tf, ↓xGuard_ft, ↓xGuard_u, ↓xNil_r, Option.isNone_some, Option.isNone_none, ↓xIf_t, tick_eq, tickV_eq, ne_eq, 
      dlt_t, dlt_f, dle_t, dle_f, deq_t, deq_f, dne_t, dne_f, not_true_eq_false, Int.reduceAdd, Int.reduceSub, Int.reduceMul, Int.reduceEq, Int.reduceLT, Int.reduceLE, Bool.false_and, Bool.true_and, Bool.and_true, 
      Bool.and_false, ↓xBin_add', ↓xBin_sub', ↓xBin_mul', ↓xBin_quo', ↓xBin_rem', wrap_in, ↓xIf_f, ↓xIf_tt, ↓xEx0, ↓xEx1, ↓xEx2, ↓xEx3, ↓xBin_eqs, ↓xBin_nes, ↓xUn_not, ↓xu8_add, ↓xu8_xor, ↓xu8_com, ↓xu8_eql, ↓xu8_lss, ↓xu8_gtr, 
      ↓xu16_add, ↓xu16_xor, ↓xu16_com, ↓xu16_eql, ↓xu16_lss, ↓xu16_gtr, ↓xu32_add, ↓xu32_xor, ↓xu32_com, ↓xu32_eql, ↓xu32_lss, ↓xu32_gtr, ↓xu64_add, ↓xu64_xor, ↓xu64_com, ↓xu64_eql, ↓xu64_lss, ↓xu64_gtr, ↓xi64_lss, ↓xi64_gtr, 
      ↓xi64_eql, ↓xi64_xor, Int.toNat_natCast, Int.reduceToNat, Nat.reduceMul, Nat.reduceAdd, Nat.reduceSub, Nat.mul_one, List.nil_append, List.cons_append, List.getElem?_toArray, List.getElem?_cons_zero, List.getElem?_cons_succ, 
      cells_int, cells_bool, cells_string, cells_slice, cells_pointer, cells_agg, one_int, one_bool, one_string, one_slice, one_pointer, List.setIfInBounds_toArray, List.set_cons_zero, List.set_cons_succ, ↓xDet_s, ↓xDet_ld, 
      ↓xDet_ld2, ↓xDet_ld3, ↓xDet_ld4, World.size_drew, Nat.zero_add, Nat.add_zero, cell_drew, frozen_drew, cell_set_eq, cell_set_o, cell_set_b, Option.map_some, World.frozen?_setCell, decide_true, decide_false, List.not_mem_nil, 
      not_false_eq_true, ↓xGuard_tt, Bool.not_true, Bool.not_false, ←decide_not, ↓ld_5, ↓st_5, ↓ia_51, ↓ln_51, ↓bs_50_1, ↓bs_50_2, ↓mk_51, ↓sh_51, ↓sl_51, g1, g2, g3]
    exact ⟨by trivial, by (repeat (first | with_reducible exact Ext.refl _ _ | with_reducible assumption | with_reducible refine Ext.alloc' ?_ _ | with_reducible refine Ext.drew' ?_ | with_reducible refine Ext.set' ?_ ?_ | exact .inr (by first | omega | (simp only [World.size_alloc, World.size_drew, World.size_setCell] <;> omega)) | refine Ext.trans ?_ (by with_reducible assumption)))⟩
  simp (disch := (first | omega | decide | (simp only [World.size_alloc, World.size_setCell, World.size_drew, List.mem_cons, List.not_mem_nil, or_false, not_false_eq_true] <;> omega) | fail)) only [↓xBox_r, ↓loadK_some, ↓loadsK_s, ↓loadsK_n, ↓loadsR_s, ↓loadsR_n, ↓storesK_s, ↓storesK_n, setCells_c, setCells_n, World.setCell_alloc_at, World.setCell_alloc_past, World.cell?_alloc_at, World.cell?_alloc_past, 
      World.frozen?_alloc_at, World.frozen?_alloc_past, World.size_alloc, ↓xPick_t, ↓xPick_f, ↓xGuard_tt, ↓xGuard_ff, ↓xGuard_tf, ↓xGuard_ft, ↓xGuard_u, ↓xNil_r, Option.isNone_some, Option.isNone_none, ↓xIf_t, tick_eq, tickV_eq, ne_eq, 
      dlt_t, dlt_f, dle_t, dle_f, deq_t, deq_f, dne_t, dne_f, not_true_eq_false, Int.reduceAdd, Int.reduceSub, Int.reduceMul, Int.reduceEq, Int.reduceLT, Int.reduceLE, Bool.false_and, Bool.true_and, Bool.and_true, 
      Bool.and_false, ↓xBin_add', ↓xBin_sub', ↓xBin_mul', ↓xBin_quo', ↓xBin_rem', wrap_in, ↓xIf_f, ↓xIf_tt, ↓xEx0, ↓xEx1, ↓xEx2, ↓xEx3, ↓xBin_eqs, ↓xBin_nes, ↓xUn_not, ↓xu8_add, ↓xu8_xor, ↓xu8_com, ↓xu8_eql, ↓xu8_lss, ↓xu8_gtr, 
      ↓xu16_add, ↓xu16_xor, ↓xu16_com, ↓xu16_eql, ↓xu16_lss, ↓xu16_gtr, ↓xu32_add, ↓xu32_xor, ↓xu32_com, ↓xu32_eql, ↓xu32_lss, ↓xu32_gtr, ↓xu64_add, ↓xu64_xor, ↓xu64_com, ↓xu64_eql, ↓xu64_lss, ↓xu64_gtr, ↓xi64_lss, ↓xi64_gtr, 
      ↓xi64_eql, ↓xi64_xor, Int.toNat_natCast, Int.reduceToNat, Nat.reduceMul, Nat.reduceAdd, Nat.reduceSub, Nat.mul_one, List.nil_append, List.cons_append, List.getElem?_toArray, List.getElem?_cons_zero, List.getElem?_cons_succ, 
      cells_int, cells_bool, cells_string, cells_slice, cells_pointer, cells_agg, one_int, one_bool, one_string, one_slice, one_pointer, List.setIfInBounds_toArray, List.set_cons_zero, List.set_cons_succ, ↓xDet_s, ↓xDet_ld, 
      ↓xDet_ld2, ↓xDet_ld3, ↓xDet_ld4, World.size_drew, Nat.zero_add, Nat.add_zero, cell_drew, frozen_drew, cell_set_eq, cell_set_o, cell_set_b, Option.map_some, World.frozen?_setCell, decide_true, decide_false, List.not_mem_nil, 
      not_false_eq_true, ↓xGuard_tt, Bool.not_true, Bool.not_false, ←decide_not, ↓ld_5, ↓st_5, ↓ia_51, ↓ln_51, ↓bs_50_1, ↓bs_50_2, ↓mk_51, ↓sh_51, ↓sl_51, g1, g2, g3]
  have hlt : l.length ≤ l'.length := by omega
  generalize hm : l'.take l.length = m
  have hml : l.length = m.length := by rw [← hm, List.length_take]; omega
  have hz : List.replicate l.length (c8 0) = bys (List.replicate l.length (BitVec.ofNat 8 0)) := by rw [bys, List.map_replicate]
  refine xLoop_n l.length (fun i => [i64 i]) (fun i v => Ext [] w1 v ∧ Blk v w1.heap.size 5 (bys (xorB (l.take i) (m.take i) ++ List.replicate (l.length - i) (BitVec.ofNat 8 0)))) ?_ ⟨Ext.alloc [] _ _, by rw [List.take_zero, List.take_zero, Nat.sub_zero]; exact hz ▸ Blk.new w1 _⟩ ?_ ?_
  · rfl
  · rintro i hi u v hu ⟨F, B⟩ nxt hnx
    simp only [List.map_cons, List.map_nil, List.cons.injEq, and_true] at hu
    rw [hu]
    unfold loamlaw2_SumsXor_l1
    have hxl : (xorB (l.take i) (m.take i)).length = i := by rw [xorB_length (by simp; omega)]; simp; omega
    obtain ⟨b1, o1, e1, hb1, hc1⟩ := ((h.ext0 E1).ext0 F).at (i := i) (by simpa using hi)
    obtain ⟨b2, o2, e2, hb2, hc2⟩ := ((h'.ext0 E1).ext0 F).at (i := i) (by simp; omega)
    subst e1 e2
    simp only [List.getElem_map] at hc1 hc2
    simp (disch := (first | omega | decide | (simp only [World.size_alloc, World.size_setCell, World.size_drew, List.mem_cons, List.not_mem_nil, or_false, not_false_eq_true] <;> omega) | fail)) only [↓xBox_r, ↓loadK_some, ↓loadsK_s, ↓loadsK_n, ↓loadsR_s, ↓loadsR_n, ↓storesK_s, ↓storesK_n, setCells_c, setCells_n, World.setCell_alloc_at, World.setCell_alloc_past, World.cell?_alloc_at, World.cell?_alloc_past, 
      World.frozen?_alloc_at, World.frozen?_alloc_past, World.size_alloc, ↓xPick_t, ↓xPick_f, ↓xGuard_tt, ↓xGuard_ff, ↓xGuard_tf, ↓xGuard_ft, ↓xGuard_u, ↓xNil_r, Option.isNone_some, Option.isNone_none, ↓xIf_t, tick_eq, tickV_eq, ne_eq, 
      dlt_t, dlt_f, dle_t, dle_f, deq_t, deq_f, dne_t, dne_f, not_true_eq_false, Int.reduceAdd, Int.reduceSub, Int.reduceMul, Int.reduceEq, Int.reduceLT, Int.reduceLE, Bool.false_and, Bool.true_and, Bool.and_true, 
      Bool.and_false, ↓xBin_add', ↓xBin_sub', ↓xBin_mul', ↓xBin_quo', ↓xBin_rem', wrap_in, ↓xIf_f, ↓xIf_tt, ↓xEx0, ↓xEx1, ↓xEx2, ↓xEx3, ↓xBin_eqs, ↓xBin_nes, ↓xUn_not, ↓xu8_add, ↓xu8_xor, ↓xu8_com, ↓xu8_eql, ↓xu8_lss, ↓xu8_gtr, 
      ↓xu16_add, ↓xu16_xor, ↓xu16_com, ↓xu16_eql, ↓xu16_lss, ↓xu16_gtr, ↓xu32_add, ↓xu32_xor, ↓xu32_com, ↓xu32_eql, ↓xu32_lss, ↓xu32_gtr, ↓xu64_add, ↓xu64_xor, ↓xu64_com, ↓xu64_eql, ↓xu64_lss, ↓xu64_gtr, ↓xi64_lss, ↓xi64_gtr, 
      ↓xi64_eql, ↓xi64_xor, Int.toNat_natCast, Int.reduceToNat, Nat.reduceMul, Nat.reduceAdd, Nat.reduceSub, Nat.mul_one, List.nil_append, List.cons_append, List.getElem?_toArray, List.getElem?_cons_zero, List.getElem?_cons_succ, 
      cells_int, cells_bool, cells_string, cells_slice, cells_pointer, cells_agg, one_int, one_bool, one_string, one_slice, one_pointer, List.setIfInBounds_toArray, List.set_cons_zero, List.set_cons_succ, ↓xDet_s, ↓xDet_ld, 
      ↓xDet_ld2, ↓xDet_ld3, ↓xDet_ld4, World.size_drew, Nat.zero_add, Nat.add_zero, cell_drew, frozen_drew, cell_set_eq, cell_set_o, cell_set_b, Option.map_some, World.frozen?_setCell, decide_true, decide_false, List.not_mem_nil, 
      not_false_eq_true, ↓xGuard_tt, Bool.not_true, Bool.not_false, ←decide_not, ↓ld_5, ↓st_5, ↓ia_51, ↓ln_51, ↓bs_50_1, ↓bs_50_2, ↓mk_51, ↓sh_51, ↓sl_51, g1, g2, g3]
    refine xDraw_ext [] [] ?_
    simp (disch := (first | omega | decide | (simp only [World.size_alloc, World.size_setCell, World.size_drew, List.mem_cons, List.not_mem_nil, or_false, not_false_eq_true] <;> omega) | fail)) only [↓xBox_r, ↓loadK_some, ↓loadsK_s, ↓loadsK_n, ↓loadsR_s, ↓loadsR_n, ↓storesK_s, ↓storesK_n, setCells_c, setCells_n, World.setCell_alloc_at, World.setCell_alloc_past, World.cell?_alloc_at, World.cell?_alloc_past, 
      World.frozen?_alloc_at, World.frozen?_alloc_past, World.size_alloc, ↓xPick_t, ↓xPick_f, ↓xGuard_tt, ↓xGuard_ff, ↓xGuard_tf, ↓xGuard_ft, ↓xGuard_u, ↓xNil_r, Option.isNone_some, Option.isNone_none, ↓xIf_t, tick_eq, tickV_eq, ne_eq, 
      dlt_t, dlt_f, dle_t, dle_f, deq_t, deq_f, dne_t, dne_f, not_true_eq_false, Int.reduceAdd, Int.reduceSub, Int.reduceMul, Int.reduceEq, Int.reduceLT, Int.reduceLE, Bool.false_and, Bool.true_and, Bool.and_true, 
      Bool.and_false, ↓xBin_add', ↓xBin_sub', ↓xBin_mul', ↓xBin_quo', ↓xBin_rem', wrap_in, ↓xIf_f, ↓xIf_tt, ↓xEx0, ↓xEx1, ↓xEx2, ↓xEx3, ↓xBin_eqs, ↓xBin_nes, ↓xUn_not, ↓xu8_add, ↓xu8_xor, ↓xu8_com, ↓xu8_eql, ↓xu8_lss, ↓xu8_gtr, 
      ↓xu16_add, ↓xu16_xor, ↓xu16_com, ↓xu16_eql, ↓xu16_lss, ↓xu16_gtr, ↓xu32_add, ↓xu32_xor, ↓xu32_com, ↓xu32_eql, ↓xu32_lss, ↓xu32_gtr, ↓xu64_add, ↓xu64_xor, ↓xu64_com, ↓xu64_eql, ↓xu64_lss, ↓xu64_gtr, ↓xi64_lss, ↓xi64_gtr, 
      ↓xi64_eql, ↓xi64_xor, Int.toNat_natCast, Int.reduceToNat, Nat.reduceMul, Nat.reduceAdd, Nat.reduceSub, Nat.mul_one, List.nil_append, List.cons_append, List.getElem?_toArray, List.getElem?_cons_zero, List.getElem?_cons_succ, 
      cells_int, cells_bool, cells_string, cells_slice, cells_pointer, cells_agg, one_int, one_bool, one_string, one_slice, one_pointer, List.setIfInBounds_toArray, List.set_cons_zero, List.set_cons_succ, ↓xDet_s, ↓xDet_ld, 
      ↓xDet_ld2, ↓xDet_ld3, ↓xDet_ld4, World.size_drew, Nat.zero_add, Nat.add_zero, cell_drew, frozen_drew, cell_set_eq, cell_set_o, cell_set_b, Option.map_some, World.frozen?_setCell, decide_true, decide_false, List.not_mem_nil, 
      not_false_eq_true, ↓xGuard_tt, Bool.not_true, Bool.not_false, ←decide_not, ↓ld_5, ↓st_5, ↓ia_51, ↓ln_51, ↓bs_50_1, ↓bs_50_2, ↓mk_51, ↓sh_51, ↓sl_51, g1, g2, g3, hc1, hc2]
    refine xEnd_i fun v2 hw2 => ?_
    have F2 : Ext [] v v2 := (Ext.drew [] v).trans hw2.ext
    have B2 := B.ext F2 (by simp)
    have c1 : v2.cell? ⟨w1.heap.size, i, none⟩ = some (u8 (BitVec.ofNat 8 0)) := by
      rw [B2.cell, List.getElem?_map, List.getElem?_append_right (by omega), hxl, Nat.sub_self, List.getElem?_replicate, if_pos (by omega)]
      rfl
    have f1 : v2.frozen? ⟨w1.heap.size, i, none⟩ = false := B2.frozen
    simp (disch := (first | omega | decide | (simp only [World.size_alloc, World.size_setCell, World.size_drew, List.mem_cons, List.not_mem_nil, or_false, not_false_eq_true] <;> omega) | fail)) only [↓xBox_r, ↓loadK_some, ↓loadsK_s, ↓loadsK_n, ↓loadsR_s, ↓loadsR_n, ↓storesK_s, ↓storesK_n, setCells_c, setCells_n, World.setCell_alloc_at, World.setCell_alloc_past, World.cell?_alloc_at, World.cell?_alloc_past, 
      World.frozen?_alloc_at, World.frozen?_alloc_past, World.size_alloc, ↓xPick_t, ↓xPick_f, ↓xGuard_tt, ↓xGuard_ff, ↓xGuard_tf, ↓xGuard_ft, ↓xGuard_u, ↓xNil_r, Option.isNone_some, Option.isNone_none, ↓xIf_t, tick_eq, tickV_eq, ne_eq, 
      dlt_t, dlt_f, dle_t, dle_f, deq_t, deq_f, dne_t, dne_f, not_true_eq_false, Int.reduceAdd, Int.reduceSub, Int.reduceMul, Int.reduceEq, Int.reduceLT, Int.reduceLE, Bool.false_and, Bool.true_and, Bool.and_true, 
      Bool.and_false, ↓xBin_add', ↓xBin_sub', ↓xBin_mul', ↓xBin_quo', ↓xBin_rem', wrap_in, ↓xIf_f, ↓xIf_tt, ↓xEx0, ↓xEx1, ↓xEx2, ↓xEx3, ↓xBin_eqs, ↓xBin_nes, ↓xUn_not, ↓xu8_add, ↓xu8_xor, ↓xu8_com, ↓xu8_eql, ↓xu8_lss, ↓xu8_gtr, 
      ↓xu16_add, ↓xu16_xor, ↓xu16_com, ↓xu16_eql, ↓xu16_lss, ↓xu16_gtr, ↓xu32_add, ↓xu32_xor, ↓xu32_com, ↓xu32_eql, ↓xu32_lss, ↓xu32_gtr, ↓xu64_add, ↓xu64_xor, ↓xu64_com, ↓xu64_eql, ↓xu64_lss, ↓xu64_gtr, ↓xi64_lss, ↓xi64_gtr, 
      ↓xi64_eql, ↓xi64_xor, Int.toNat_natCast, Int.reduceToNat, Nat.reduceMul, Nat.reduceAdd, Nat.reduceSub, Nat.mul_one, List.nil_append, List.cons_append, List.getElem?_toArray, List.getElem?_cons_zero, List.getElem?_cons_succ, 
      cells_int, cells_bool, cells_string, cells_slice, cells_pointer, cells_agg, one_int, one_bool, one_string, one_slice, one_pointer, List.setIfInBounds_toArray, List.set_cons_zero, List.set_cons_succ, ↓xDet_s, ↓xDet_ld, 
      ↓xDet_ld2, ↓xDet_ld3, ↓xDet_ld4, World.size_drew, Nat.zero_add, Nat.add_zero, cell_drew, frozen_drew, cell_set_eq, cell_set_o, cell_set_b, Option.map_some, World.frozen?_setCell, decide_true, decide_false, List.not_mem_nil, 
      not_false_eq_true, ↓xGuard_tt, Bool.not_true, Bool.not_false, ←decide_not, ↓ld_5, ↓st_5, ↓ia_51, ↓ln_51, ↓bs_50_1, ↓bs_50_2, ↓mk_51, ↓sh_51, ↓sl_51, g1, g2, g3, hc1, hc2, c1, f1]
    have B3 := B2.set (i := i) (v := u8 (l[i] ^^^ l'[i]'(by omega)))
    refine hnx _ ⟨(F.trans F2).set' (.inr (Nat.le_refl _)), ?_⟩
    have e : (bys (xorB (l.take i) (m.take i) ++ List.replicate (l.length - i) (BitVec.ofNat 8 0))).set i (u8 (l[i] ^^^ l'[i]'(by omega))) = bys (xorB (l.take (i + 1)) (m.take (i + 1)) ++ List.replicate (l.length - (i + 1)) (BitVec.ofNat 8 0)) := by
      have hmi : l'[i]'(by omega) = m[i]'(by omega) := by simp [← hm]
      rw [hmi, bys_set, List.set_append_right _ _ (by omega), hxl, Nat.sub_self, show l.length - i = (l.length - (i + 1)) + 1 by omega, List.replicate_succ, List.set_cons_zero, List.take_succ_eq_append_getElem hi, List.take_succ_eq_append_getElem (by omega : i < m.length)]
      unfold xorB
      rw [List.zipWith_append (by simp; omega)]
      simp
    rw [e] at B3
    exact B3
  · rintro u v hu ⟨F, B⟩ nxt
    simp only [List.map_cons, List.map_nil, List.cons.injEq, and_true] at hu
    rw [hu]
    unfold loamlaw2_SumsXor_l1
    rw [List.take_length, hml, List.take_length, Nat.sub_self, List.replicate_zero, List.append_nil] at B
    have hxl : (xorB l m).length = l.length := xorB_length hml
    have G : Ext [] w v := E1.trans F
    have rx : RowAt v.drew (some ⟨w1.heap.size, 0, none⟩) (bys (xorB l m)) := B.row.ext0 (Ext.drew _ _)
    have ra : RowAt v.drew a (bys l) := (h.ext0 G).ext0 (Ext.drew _ _)
    have rb : RowAt v.drew a' (bys m) := by
      have := ((h'.ext0 G).ext0 (Ext.drew _ _)).take l.length
      rw [← hm]
      rwa [← List.map_take] at this
    simp (disch := (first | omega | decide | (simp only [World.size_alloc, World.size_setCell, World.size_drew, List.mem_cons, List.not_mem_nil, or_false, not_false_eq_true] <;> omega) | fail)) only [↓xBox_r, ↓loadK_some, ↓loadsK_s, ↓loadsK_n, ↓loadsR_s, ↓loadsR_n, ↓storesK_s, ↓storesK_n, setCells_c, setCells_n, World.setCell_alloc_at, World.setCell_alloc_past, World.cell?_alloc_at, World.cell?_alloc_past, 
      World.frozen?_alloc_at, World.frozen?_alloc_past, World.size_alloc, ↓xPick_t, ↓xPick_f, ↓xGuard_tt, ↓xGuard_ff, ↓xGuard_tf, ↓xGuard_ft, ↓xGuard_u, ↓xNil_r, Option.isNone_some, Option.isNone_none, ↓xIf_t, tick_eq, tickV_eq, ne_eq, 
      dlt_t, dlt_f, dle_t, dle_f, deq_t, deq_f, dne_t, dne_f, not_true_eq_false, Int.reduceAdd, Int.reduceSub, Int.reduceMul, Int.reduceEq, Int.reduceLT, Int.reduceLE, Bool.false_and, Bool.true_and, Bool.and_true, 
      Bool.and_false, ↓xBin_add', ↓xBin_sub', ↓xBin_mul', ↓xBin_quo', ↓xBin_rem', wrap_in, ↓xIf_f, ↓xIf_tt, ↓xEx0, ↓xEx1, ↓xEx2, ↓xEx3, ↓xBin_eqs, ↓xBin_nes, ↓xUn_not, ↓xu8_add, ↓xu8_xor, ↓xu8_com, ↓xu8_eql, ↓xu8_lss, ↓xu8_gtr, 
      ↓xu16_add, ↓xu16_xor, ↓xu16_com, ↓xu16_eql, ↓xu16_lss, ↓xu16_gtr, ↓xu32_add, ↓xu32_xor, ↓xu32_com, ↓xu32_eql, ↓xu32_lss, ↓xu32_gtr, ↓xu64_add, ↓xu64_xor, ↓xu64_com, ↓xu64_eql, ↓xu64_lss, ↓xu64_gtr, ↓xi64_lss, ↓xi64_gtr, 
      ↓xi64_eql, ↓xi64_xor, Int.toNat_natCast, Int.reduceToNat, Nat.reduceMul, Nat.reduceAdd, Nat.reduceSub, Nat.mul_one, List.nil_append, List.cons_append, List.getElem?_toArray, List.getElem?_cons_zero, List.getElem?_cons_succ, 
      cells_int, cells_bool, cells_string, cells_slice, cells_pointer, cells_agg, one_int, one_bool, one_string, one_slice, one_pointer, List.setIfInBounds_toArray, List.set_cons_zero, List.set_cons_succ, ↓xDet_s, ↓xDet_ld, 
      ↓xDet_ld2, ↓xDet_ld3, ↓xDet_ld4, World.size_drew, Nat.zero_add, Nat.add_zero, cell_drew, frozen_drew, cell_set_eq, cell_set_o, cell_set_b, Option.map_some, World.frozen?_setCell, decide_true, decide_false, List.not_mem_nil, 
      not_false_eq_true, ↓xGuard_tt, Bool.not_true, Bool.not_false, ←decide_not, ↓ld_5, ↓st_5, ↓ia_51, ↓ln_51, ↓bs_50_1, ↓bs_50_2, ↓mk_51, ↓sh_51, ↓sl_51, g1, g2, g3]
    refine xDraw_ext [] [] ?_
    simp (disch := (first | omega | decide | (simp only [World.size_alloc, World.size_setCell, World.size_drew, List.mem_cons, List.not_mem_nil, or_false, not_false_eq_true] <;> omega) | fail)) only [↓xBox_r, ↓loadK_some, ↓loadsK_s, ↓loadsK_n, ↓loadsR_s, ↓loadsR_n, ↓storesK_s, ↓storesK_n, setCells_c, setCells_n, World.setCell_alloc_at, World.setCell_alloc_past, World.cell?_alloc_at, World.cell?_alloc_past, 
      World.frozen?_alloc_at, World.frozen?_alloc_past, World.size_alloc, ↓xPick_t, ↓xPick_f, ↓xGuard_tt, ↓xGuard_ff, ↓xGuard_tf, ↓xGuard_ft, ↓xGuard_u, ↓xNil_r, Option.isNone_some, Option.isNone_none, ↓xIf_t, tick_eq, tickV_eq, ne_eq, 
      dlt_t, dlt_f, dle_t, dle_f, deq_t, deq_f, dne_t, dne_f, not_true_eq_false, Int.reduceAdd, Int.reduceSub, Int.reduceMul, Int.reduceEq, Int.reduceLT, Int.reduceLE, Bool.false_and, Bool.true_and, Bool.and_true, 
      Bool.and_false, ↓xBin_add', ↓xBin_sub', ↓xBin_mul', ↓xBin_quo', ↓xBin_rem', wrap_in, ↓xIf_f, ↓xIf_tt, ↓xEx0, ↓xEx1, ↓xEx2, ↓xEx3, ↓xBin_eqs, ↓xBin_nes, ↓xUn_not, ↓xu8_add, ↓xu8_xor, ↓xu8_com, ↓xu8_eql, ↓xu8_lss, ↓xu8_gtr, 
      ↓xu16_add, ↓xu16_xor, ↓xu16_com, ↓xu16_eql, ↓xu16_lss, ↓xu16_gtr, ↓xu32_add, ↓xu32_xor, ↓xu32_com, ↓xu32_eql, ↓xu32_lss, ↓xu32_gtr, ↓xu64_add, ↓xu64_xor, ↓xu64_com, ↓xu64_eql, ↓xu64_lss, ↓xu64_gtr, ↓xi64_lss, ↓xi64_gtr, 
      ↓xi64_eql, ↓xi64_xor, Int.toNat_natCast, Int.reduceToNat, Nat.reduceMul, Nat.reduceAdd, Nat.reduceSub, Nat.mul_one, List.nil_append, List.cons_append, List.getElem?_toArray, List.getElem?_cons_zero, List.getElem?_cons_succ, 
      cells_int, cells_bool, cells_string, cells_slice, cells_pointer, cells_agg, one_int, one_bool, one_string, one_slice, one_pointer, List.setIfInBounds_toArray, List.set_cons_zero, List.set_cons_succ, ↓xDet_s, ↓xDet_ld, 
      ↓xDet_ld2, ↓xDet_ld3, ↓xDet_ld4, World.size_drew, Nat.zero_add, Nat.add_zero, cell_drew, frozen_drew, cell_set_eq, cell_set_o, cell_set_b, Option.map_some, World.frozen?_setCell, decide_true, decide_false, List.not_mem_nil, 
      not_false_eq_true, ↓xGuard_tt, Bool.not_true, Bool.not_false, ←decide_not, ↓ld_5, ↓st_5, ↓ia_51, ↓ln_51, ↓bs_50_1, ↓bs_50_2, ↓mk_51, ↓sh_51, ↓sl_51, g1, g2, g3]
    refine sum_strand rx (by omega) (by omega) ?_
    refine sum_strand ra rfl (by omega) ?_
    refine sum_strand rb (by omega) (by omega) ?_
    simp (disch := (first | omega | decide | (simp only [World.size_alloc, World.size_setCell, World.size_drew, List.mem_cons, List.not_mem_nil, or_false, not_false_eq_true] <;> omega) | fail)) only [↓xBox_r, ↓loadK_some, ↓loadsK_s, ↓loadsK_n, ↓loadsR_s, ↓loadsR_n, ↓storesK_s, ↓storesK_n, setCells_c, setCells_n, World.setCell_alloc_at, World.setCell_alloc_past, World.cell?_alloc_at, World.cell?_alloc_past, 
      World.frozen?_alloc_at, World.frozen?_alloc_past, World.size_alloc, ↓xPick_t, ↓xPick_f, ↓xGuard_tt, ↓xGuard_ff, ↓xGuard_tf, ↓xGuard_ft, ↓xGuard_u, ↓xNil_r, Option.isNone_some, Option.isNone_none, ↓xIf_t, tick_eq, tickV_eq, ne_eq, 
      dlt_t, dlt_f, dle_t, dle_f, deq_t, deq_f, dne_t, dne_f, not_true_eq_false, Int.reduceAdd, Int.reduceSub, Int.reduceMul, Int.reduceEq, Int.reduceLT, Int.reduceLE, Bool.false_and, Bool.true_and, Bool.and_true, 
      Bool.and_false, ↓xBin_add', ↓xBin_sub', ↓xBin_mul', ↓xBin_quo', ↓xBin_rem', wrap_in, ↓xIf_f, ↓xIf_tt, ↓xEx0, ↓xEx1, ↓xEx2, ↓xEx3, ↓xBin_eqs, ↓xBin_nes, ↓xUn_not, ↓xu8_add, ↓xu8_xor, ↓xu8_com, ↓xu8_eql, ↓xu8_lss, ↓xu8_gtr, 
      ↓xu16_add, ↓xu16_xor, ↓xu16_com, ↓xu16_eql, ↓xu16_lss, ↓xu16_gtr, ↓xu32_add, ↓xu32_xor, ↓xu32_com, ↓xu32_eql, ↓xu32_lss, ↓xu32_gtr, ↓xu64_add, ↓xu64_xor, ↓xu64_com, ↓xu64_eql, ↓xu64_lss, ↓xu64_gtr, ↓xi64_lss, ↓xi64_gtr, 
      ↓xi64_eql, ↓xi64_xor, Int.toNat_natCast, Int.reduceToNat, Nat.reduceMul, Nat.reduceAdd, Nat.reduceSub, Nat.mul_one, List.nil_append, List.cons_append, List.getElem?_toArray, List.getElem?_cons_zero, List.getElem?_cons_succ, 
      cells_int, cells_bool, cells_string, cells_slice, cells_pointer, cells_agg, one_int, one_bool, one_string, one_slice, one_pointer, List.setIfInBounds_toArray, List.set_cons_zero, List.set_cons_succ, ↓xDet_s, ↓xDet_ld, 
      ↓xDet_ld2, ↓xDet_ld3, ↓xDet_ld4, World.size_drew, Nat.zero_add, Nat.add_zero, cell_drew, frozen_drew, cell_set_eq, cell_set_o, cell_set_b, Option.map_some, World.frozen?_setCell, decide_true, decide_false, List.not_mem_nil, 
      not_false_eq_true, ↓xGuard_tt, Bool.not_true, Bool.not_false, ←decide_not, ↓ld_5, ↓st_5, ↓ia_51, ↓ln_51, ↓bs_50_1, ↓bs_50_2, ↓mk_51, ↓sh_51, ↓sl_51, g1, g2, g3]
    refine xStr_x (u32 (sumV (List.replicate l.length (BitVec.ofNat 8 0)))) ?_ ?_
    · refine xNon_x (V := fun v w' => ∃ g, v = .slice (some ⟨g, 0, none⟩) l.length l.length ∧ RowAt w' (some ⟨g, 0, none⟩) (bys (List.replicate l.length (BitVec.ofNat 8 0)))) (fun u w1 w2 hV hq => ?_) (fun wq hq => ?_) fun u => ?_
      · obtain ⟨g, e, hr⟩ := hV
        exact ⟨g, e, hr.ext0 hq.ext⟩
      · simp (disch := (first | omega | decide | (simp only [World.size_alloc, World.size_setCell, World.size_drew, List.mem_cons, List.not_mem_nil, or_false, not_false_eq_true] <;> omega) | fail)) only [↓xBox_r, ↓loadK_some, ↓loadsK_s, ↓loadsK_n, ↓loadsR_s, ↓loadsR_n, ↓storesK_s, ↓storesK_n, setCells_c, setCells_n, World.setCell_alloc_at, World.setCell_alloc_past, World.cell?_alloc_at, World.cell?_alloc_past, 
      World.frozen?_alloc_at, World.frozen?_alloc_past, World.size_alloc, ↓xPick_t, ↓xPick_f, ↓xGuard_tt, ↓xGuard_ff, ↓xGuard_tf, ↓xGuard_ft, ↓xGuard_u, ↓xNil_r, Option.isNone_some, Option.isNone_none, ↓xIf_t, tick_eq, tickV_eq, ne_eq, 
      dlt_t, dlt_f, dle_t, dle_f, deq_t, deq_f, dne_t, dne_f, not_true_eq_false, Int.reduceAdd, Int.reduceSub, Int.reduceMul, Int.reduceEq, Int.reduceLT, Int.reduceLE, Bool.false_and, Bool.true_and, Bool.and_true, 
      Bool.and_false, ↓xBin_add', ↓xBin_sub', ↓xBin_mul', ↓xBin_quo', ↓xBin_rem', wrap_in, ↓xIf_f, ↓xIf_tt, ↓xEx0, ↓xEx1, ↓xEx2, ↓xEx3, ↓xBin_eqs, ↓xBin_nes, ↓xUn_not, ↓xu8_add, ↓xu8_xor, ↓xu8_com, ↓xu8_eql, ↓xu8_lss, ↓xu8_gtr, 
      ↓xu16_add, ↓xu16_xor, ↓xu16_com, ↓xu16_eql, ↓xu16_lss, ↓xu16_gtr, ↓xu32_add, ↓xu32_xor, ↓xu32_com, ↓xu32_eql, ↓xu32_lss, ↓xu32_gtr, ↓xu64_add, ↓xu64_xor, ↓xu64_com, ↓xu64_eql, ↓xu64_lss, ↓xu64_gtr, ↓xi64_lss, ↓xi64_gtr, 
      ↓xi64_eql, ↓xi64_xor, Int.toNat_natCast, Int.reduceToNat, Nat.reduceMul, Nat.reduceAdd, Nat.reduceSub, Nat.mul_one, List.nil_append, List.cons_append, List.getElem?_toArray, List.getElem?_cons_zero, List.getElem?_cons_succ, 
      cells_int, cells_bool, cells_string, cells_slice, cells_pointer, cells_agg, one_int, one_bool, one_string, one_slice, one_pointer, List.setIfInBounds_toArray, List.set_cons_zero, List.set_cons_succ, ↓xDet_s, ↓xDet_ld, 
      ↓xDet_ld2, ↓xDet_ld3, ↓xDet_ld4, World.size_drew, Nat.zero_add, Nat.add_zero, cell_drew, frozen_drew, cell_set_eq, cell_set_o, cell_set_b, Option.map_some, World.frozen?_setCell, decide_true, decide_false, List.not_mem_nil, 
      not_false_eq_true, ↓xGuard_tt, Bool.not_true, Bool.not_false, ←decide_not, ↓ld_5, ↓st_5, ↓ia_51, ↓ln_51, ↓bs_50_1, ↓bs_50_2, ↓mk_51, ↓sh_51, ↓sl_51, g1, g2, g3]
        rw [hz]
        exact ⟨⟨_, rfl, (Blk.new (e := 5) wq _).row⟩, Lq.of (Ext.alloc _ _ _)⟩
      · refine xNon_x (V := fun v w' => ∃ ap ax, v = .slice ap 1 1 ∧ partsAt w' ap [(ax, l.length, List.replicate l.length (BitVec.ofNat 8 0))]) (fun u w1 w2 hV hq => ?_) (fun wq hq => ?_) fun u => xDet_x (fun wq hq => ?_) rfl
        · obtain ⟨ap, ax, e, hr⟩ := hV
          exact ⟨ap, ax, e, hr.ext hq.ext⟩
        · obtain ⟨hq, g, rfl, hr⟩ := hq
          simp (disch := (first | omega | decide | (simp only [World.size_alloc, World.size_setCell, World.size_drew, List.mem_cons, List.not_mem_nil, or_false, not_false_eq_true] <;> omega) | fail)) only [↓xBox_r, ↓loadK_some, ↓loadsK_s, ↓loadsK_n, ↓loadsR_s, ↓loadsR_n, ↓storesK_s, ↓storesK_n, setCells_c, setCells_n, World.setCell_alloc_at, World.setCell_alloc_past, World.cell?_alloc_at, World.cell?_alloc_past, 
      World.frozen?_alloc_at, World.frozen?_alloc_past, World.size_alloc, ↓xPick_t, ↓xPick_f, ↓xGuard_tt, ↓xGuard_ff, ↓xGuard_tf, ↓xGuard_ft, ↓xGuard_u, ↓xNil_r, Option.isNone_some, Option.isNone_none, ↓xIf_t, tick_eq, tickV_eq, ne_eq, 
      dlt_t, dlt_f, dle_t, dle_f, deq_t, deq_f, dne_t, dne_f, not_true_eq_false, Int.reduceAdd, Int.reduceSub, Int.reduceMul, Int.reduceEq, Int.reduceLT, Int.reduceLE, Bool.false_and, Bool.true_and, Bool.and_true, 
      Bool.and_false, ↓xBin_add', ↓xBin_sub', ↓xBin_mul', ↓xBin_quo', ↓xBin_rem', wrap_in, ↓xIf_f, ↓xIf_tt, ↓xEx0, ↓xEx1, ↓xEx2, ↓xEx3, ↓xBin_eqs, ↓xBin_nes, ↓xUn_not, ↓xu8_add, ↓xu8_xor, ↓xu8_com, ↓xu8_eql, ↓xu8_lss, ↓xu8_gtr, 
      ↓xu16_add, ↓xu16_xor, ↓xu16_com, ↓xu16_eql, ↓xu16_lss, ↓xu16_gtr, ↓xu32_add, ↓xu32_xor, ↓xu32_com, ↓xu32_eql, ↓xu32_lss, ↓xu32_gtr, ↓xu64_add, ↓xu64_xor, ↓xu64_com, ↓xu64_eql, ↓xu64_lss, ↓xu64_gtr, ↓xi64_lss, ↓xi64_gtr, 
      ↓xi64_eql, ↓xi64_xor, Int.toNat_natCast, Int.reduceToNat, Nat.reduceMul, Nat.reduceAdd, Nat.reduceSub, Nat.mul_one, List.nil_append, List.cons_append, List.getElem?_toArray, List.getElem?_cons_zero, List.getElem?_cons_succ, 
      cells_int, cells_bool, cells_string, cells_slice, cells_pointer, cells_agg, one_int, one_bool, one_string, one_slice, one_pointer, List.setIfInBounds_toArray, List.set_cons_zero, List.set_cons_succ, ↓xDet_s, ↓xDet_ld, 
      ↓xDet_ld2, ↓xDet_ld3, ↓xDet_ld4, World.size_drew, Nat.zero_add, Nat.add_zero, cell_drew, frozen_drew, cell_set_eq, cell_set_o, cell_set_b, Option.map_some, World.frozen?_setCell, decide_true, decide_false, List.not_mem_nil, 
      not_false_eq_true, ↓xGuard_tt, Bool.not_true, Bool.not_false, ←decide_not, ↓ld_5, ↓st_5, ↓ia_51, ↓ln_51, ↓bs_50_1, ↓bs_50_2, ↓mk_51, ↓sh_51, ↓sl_51, g1, g2, g3]
          have := one_part (c1 := l.length) hr (by simp; omega)
          rw [List.length_replicate] at this
          exact ⟨⟨_, _, rfl, this⟩, Lq.of (Ext.alloc _ _ _)⟩
        · obtain ⟨hq, ap, ax, rfl, hr⟩ := hq
          exact crc_Sum_call (Gives.lq (Sum_spec _ ap 1 1 wq rfl (by decide) hr))
    · rw [sum_xor hml]
      simp (disch := (first | omega | decide | (simp only [World.size_alloc, World.size_setCell, World.size_drew, List.mem_cons, List.not_mem_nil, or_false, not_false_eq_true] <;> omega) | fail)) only [↓xBox_r, ↓loadK_some, ↓loadsK_s, ↓loadsK_n, ↓loadsR_s, ↓loadsR_n, ↓storesK_s, ↓storesK_n, setCells_c, setCells_n, World.setCell_alloc_at, World.setCell_alloc_past, World.cell?_alloc_at, World.cell?_alloc_past, 
      World.frozen?_alloc_at, World.frozen?_alloc_past, World.size_alloc, ↓xPick_t, ↓xPick_f, ↓xGuard_tt, ↓xGuard_ff, ↓xGuard_tf, ↓xGuard_ft, ↓xGuard_u, ↓xNil_r, Option.isNone_some, Option.isNone_none, ↓xIf_t, tick_eq, tickV_eq, ne_eq, 
      dlt_t, dlt_f, dle_t, dle_f, deq_t, deq_f, dne_t, dne_f, not_true_eq_false, Int.reduceAdd, Int.reduceSub, Int.reduceMul, Int.reduceEq, Int.reduceLT, Int.reduceLE, Bool.false_and, Bool.true_and, Bool.and_true, 
      Bool.and_false, ↓xBin_add', ↓xBin_sub', ↓xBin_mul', ↓xBin_quo', ↓xBin_rem', wrap_in, ↓xIf_f, ↓xIf_tt, ↓xEx0, ↓xEx1, ↓xEx2, ↓xEx3, ↓xBin_eqs, ↓xBin_nes, ↓xUn_not, ↓xu8_add, ↓xu8_xor, ↓xu8_com, ↓xu8_eql, ↓xu8_lss, ↓xu8_gtr, 
      ↓xu16_add, ↓xu16_xor, ↓xu16_com, ↓xu16_eql, ↓xu16_lss, ↓xu16_gtr, ↓xu32_add, ↓xu32_xor, ↓xu32_com, ↓xu32_eql, ↓xu32_lss, ↓xu32_gtr, ↓xu64_add, ↓xu64_xor, ↓xu64_com, ↓xu64_eql, ↓xu64_lss, ↓xu64_gtr, ↓xi64_lss, ↓xi64_gtr, 
      ↓xi64_eql, ↓xi64_xor, Int.toNat_natCast, Int.reduceToNat, Nat.reduceMul, Nat.reduceAdd, Nat.reduceSub, Nat.mul_one, List.nil_append, List.cons_append, List.getElem?_toArray, List.getElem?_cons_zero, List.getElem?_cons_succ, 
      cells_int, cells_bool, cells_string, cells_slice, cells_pointer, cells_agg, one_int, one_bool, one_string, one_slice, one_pointer, List.setIfInBounds_toArray, List.set_cons_zero, List.set_cons_succ, ↓xDet_s, ↓xDet_ld, 
      ↓xDet_ld2, ↓xDet_ld3, ↓xDet_ld4, World.size_drew, Nat.zero_add, Nat.add_zero, cell_drew, frozen_drew, cell_set_eq, cell_set_o, cell_set_b, Option.map_some, World.frozen?_setCell, decide_true, decide_false, List.not_mem_nil, 
      not_false_eq_true, ↓xGuard_tt, Bool.not_true, Bool.not_false, ←decide_not, ↓ld_5, ↓st_5, ↓ia_51, ↓ln_51, ↓bs_50_1, ↓bs_50_2, ↓mk_51, ↓sh_51, ↓sl_51, g1, g2, g3]
      refine xEndU_i fun uS w9 hw => ?_
      exact ⟨by trivial, G.trans ((Ext.drew [] _).trans hw.ext)⟩
end Go.Proofs.Ytohonkbneimkoaa
