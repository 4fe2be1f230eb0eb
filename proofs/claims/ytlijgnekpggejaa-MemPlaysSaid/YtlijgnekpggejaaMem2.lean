/- Words moved; the small example of the statements on words. -/
import Derived.Test.YtlijgnekpggejaaMem
set_option linter.unusedVariables false
set_option linter.unusedSimpArgs false
set_option maxHeartbeats 4000000
namespace Go.Proofs.Ytlijgnekpggejaa
open Go.Sh Go.RowKit

theorem moveW_none {ws : List (BitVec 64)} {to src : Nat} : moveW ws to src 0 = ws := by simp [moveW]
theorem wrds_one {l : List (BitVec 64)} : ∀ u ∈ wrds l, u.oneCell' = true := by simp [Value.oneCell']
section
variable {w : World} {base g : Nat} {a : Option Addr} {c : Nat} {ws : List (BitVec 64)}
abbrev rsMem2_0 := (And.intro @xBox_r (And.intro @loadK_some (And.intro @loadsK_s (And.intro @loadsK_n (And.intro @loadsR_s (And.intro @loadsR_n (And.intro @storesK_s (And.intro @storesK_n (And.intro @xPick_t (And.intro @xPick_f (And.intro @xGuard_tt (And.intro @xGuard_ff (And.intro @xGuard_tf (And.intro @xGuard_ft (And.intro @xGuard_u 
  (And.intro @xNil_r (And.intro @xIf_t (And.intro @xBin_add' (And.intro @xBin_sub' (And.intro @xBin_mul' (And.intro @xBin_quo' (And.intro @xBin_rem' (And.intro @xIf_f (And.intro @xIf_tt (And.intro @xEx0 (And.intro @xEx1 (And.intro @xEx2 (And.intro @xEx3 (And.intro @xBin_eqs (And.intro @xBin_nes (And.intro @xUn_not (And.intro @xu8_add (And.intro @xu8_com 
  (And.intro @xu16_add (And.intro @xu16_com (And.intro @xu32_add (And.intro @xu32_com (And.intro @xu64_add (And.intro @xu64_com (And.intro @xMakeFunc_r (And.intro @xSq_r (And.intro @xPur_s (And.intro @xRd_s (And.intro @xRe_s (And.intro @xDet_s (And.intro @xDet_ld (And.intro @xDet_ld2 (And.intro @xDet_ld3 (And.intro @xDet_ld4 (And.intro @xGuard_tt 
  (And.intro @ld_58 (And.intro @fa_78_0 (And.intro @ln_58 (And.intro @sh_58 (And.intro @sm_58 @sb_58)))))))))))))))))))))))))))))))))))))))))))))))))))))))
abbrev rsMem2_1 := (And.intro @setCells_c (And.intro @setCells_n (And.intro @World.setCell_alloc_at (And.intro @World.setCell_alloc_past (And.intro @World.cell?_alloc_at (And.intro @World.cell?_alloc_past (And.intro @World.frozen?_alloc_at (And.intro @World.frozen?_alloc_past 
  (And.intro @World.size_alloc (And.intro @dlt_t (And.intro @dlt_f (And.intro @dle_t (And.intro @dle_f (And.intro @deq_t (And.intro @deq_f (And.intro @dne_t (And.intro @dne_f (And.intro @not_true_eq_false (And.intro @Bool.false_and (And.intro @Bool.true_and (And.intro @Bool.and_true (And.intro @Bool.and_false (And.intro @wrap_in (And.intro @Int.toNat_natCast 
  (And.intro @Nat.mul_one (And.intro @cells_int (And.intro @cells_bool (And.intro @cells_string (And.intro @cells_slice (And.intro @cells_pointer (And.intro @cells_agg (And.intro @one_int (And.intro @one_bool (And.intro @one_string (And.intro @one_slice (And.intro @one_pointer (And.intro @beq_tt (And.intro @beq_ff (And.intro @beq_tf 
  (And.intro @beq_ft (And.intro @cell_sets_b (And.intro @frozen_sets (And.intro @size_sets (And.intro @World.size_drew (And.intro @Nat.zero_add (And.intro @Nat.add_zero (And.intro @cell_drew (And.intro @frozen_drew (And.intro @cell_set_eq (And.intro @cell_set_o (And.intro @cell_set_b (And.intro @World.frozen?_setCell 
  (And.intro @decide_true (And.intro @decide_false (And.intro @not_false_eq_true (And.intro @Bool.not_true @Bool.not_false))))))))))))))))))))))))))))))))))))))))))))))))))))))))
theorem Move_ok (to src n : Nat) (h : MemIs w base g a c ws) (h1 : to + n ≤ ws.length) (h2 : src + n ≤ ws.length) :
    Yld Try.prog n_mem_Mem_Move #[ptr g, i64 to, i64 src, i64 n] w fun u w' => u = i64 0 ∧ Ext (blkOf a) w w' ∧ MemIs w' base g a c (moveW ws to src n) := by
  refine mem_Mem_Move_of ?_
  unfold mem_Mem_Move
  have hl := h.len
  have hcap := h.cap
  simp (disch := (first | omega | decide | (simp only [World.size_alloc, World.size_setCell, World.size_drew, size_sets, List.mem_cons, List.not_mem_nil, or_false, not_false_eq_true] <;> omega) | fail)) only [↓rsMem2_0, rsMem2_1, Option.isNone_some, Option.isNone_none, tick_eq, tickV_eq, ne_eq, Int.reduceAdd, Int.reduceSub, Int.reduceMul, Int.reduceEq, Int.reduceLT, Int.reduceLE, Int.reduceToNat, Nat.reduceMul, Nat.reduceAdd, Nat.reduceSub, List.nil_append, List.cons_append, List.getElem?_toArray, List.getElem?_cons_zero, List.getElem?_cons_succ, List.setIfInBounds_toArray, List.set_cons_zero, List.set_cons_succ, Option.map_some, List.not_mem_nil, ←decide_not, h.hd]
  refine mem_in_call (Gives.to (min_spec _ _ _ _ (by omega) (by omega)) fun w1 E1 => ?_)
  have z1 := E1.size
  try simp only [World.size_alloc, World.size_setCell, World.size_drew] at z1
  have hv : decide (among (to : Int) n ws.length) = true := decide_eq_true (by unfold among; omega)
  have hv2 : decide (among (src : Int) n ws.length) = true := decide_eq_true (by unfold among; omega)
  have M1 := h.ext0 E1
  simp (disch := (first | omega | decide | (simp only [World.size_alloc, World.size_setCell, World.size_drew, size_sets, List.mem_cons, List.not_mem_nil, or_false, not_false_eq_true] <;> omega) | fail)) only [↓rsMem2_0, rsMem2_1, Option.isNone_some, Option.isNone_none, tick_eq, tickV_eq, ne_eq, Int.reduceAdd, Int.reduceSub, Int.reduceMul, Int.reduceEq, Int.reduceLT, Int.reduceLE, Int.reduceToNat, Nat.reduceMul, Nat.reduceAdd, Nat.reduceSub, List.nil_append, List.cons_append, List.getElem?_toArray, List.getElem?_cons_zero, List.getElem?_cons_succ, List.setIfInBounds_toArray, List.set_cons_zero, List.set_cons_succ, Option.map_some, List.not_mem_nil, ←decide_not, h.hd, hv, M1.hd]
  refine mem_in_call (Gives.to (min_spec _ _ _ _ (by omega) (by omega)) fun w2 E2 => ?_)
  have z2 := E2.size
  try simp only [World.size_alloc, World.size_setCell, World.size_drew] at z2
  have M2 := M1.ext0 E2
  have t1 : ((to : Int) + n).toNat = to + n := by omega
  have t2 : ((src : Int) + n).toNat = src + n := by omega
  have hgl := M2.lt
  simp (disch := (first | omega | decide | (simp only [World.size_alloc, World.size_setCell, World.size_drew, size_sets, List.mem_cons, List.not_mem_nil, or_false, not_false_eq_true] <;> omega) | fail)) only [↓rsMem2_0, rsMem2_1, Option.isNone_some, Option.isNone_none, tick_eq, tickV_eq, ne_eq, Int.reduceAdd, Int.reduceSub, Int.reduceMul, Int.reduceEq, Int.reduceLT, Int.reduceLE, Int.reduceToNat, Nat.reduceMul, Nat.reduceAdd, Nat.reduceSub, List.nil_append, List.cons_append, List.getElem?_toArray, List.getElem?_cons_zero, List.getElem?_cons_succ, List.setIfInBounds_toArray, List.set_cons_zero, List.set_cons_succ, Option.map_some, List.not_mem_nil, ←decide_not, h.hd, hv, M1.hd, hv2, M2.hd]
  refine xDraw_ext [] [] ?_
  simp (disch := (first | omega | decide | (simp only [World.size_alloc, World.size_setCell, World.size_drew, size_sets, List.mem_cons, List.not_mem_nil, or_false, not_false_eq_true] <;> omega) | fail)) only [↓rsMem2_0, rsMem2_1, Option.isNone_some, Option.isNone_none, tick_eq, tickV_eq, ne_eq, Int.reduceAdd, Int.reduceSub, Int.reduceMul, Int.reduceEq, Int.reduceLT, Int.reduceLE, Int.reduceToNat, Nat.reduceMul, Nat.reduceAdd, Nat.reduceSub, List.nil_append, List.cons_append, List.getElem?_toArray, List.getElem?_cons_zero, List.getElem?_cons_succ, List.setIfInBounds_toArray, List.set_cons_zero, List.set_cons_succ, Option.map_some, List.not_mem_nil, ←decide_not, h.hd, hv, M1.hd, hv2, M2.hd, t1, t2]
  refine xEnd_i fun v2 hw2 => ?_
  have E3 : Ext [] w2 v2 := (Ext.drew [] w2).trans hw2.ext
  have M3 := M2.ext0 E3
  by_cases hn : n = 0
  · rw [xCopy_none (e := 23) (by kernel_rfl) (by kernel_rfl) (by rw [hn]; simp)]
    simp (disch := (first | omega | decide | (simp only [World.size_alloc, World.size_setCell, World.size_drew, size_sets, List.mem_cons, List.not_mem_nil, or_false, not_false_eq_true] <;> omega) | fail)) only [↓rsMem2_0, rsMem2_1, Option.isNone_some, Option.isNone_none, tick_eq, tickV_eq, ne_eq, Int.reduceAdd, Int.reduceSub, Int.reduceMul, Int.reduceEq, Int.reduceLT, Int.reduceLE, Int.reduceToNat, Nat.reduceMul, Nat.reduceAdd, Nat.reduceSub, List.nil_append, List.cons_append, List.getElem?_toArray, List.getElem?_cons_zero, List.getElem?_cons_succ, List.setIfInBounds_toArray, List.set_cons_zero, List.set_cons_succ, Option.map_some, List.not_mem_nil, ←decide_not, h.hd, hv, M1.hd, hv2, M2.hd, t1, t2]
    rw [hn, moveW_none]
    exact ⟨by trivial, ((E1.trans E2).trans E3).more (by simp), M3⟩
  · have hw : ws ≠ [] := by intro e; rw [e, List.length_nil] at h1; omega
    rcases M3.own with e | ⟨gs, rest, rfl, hbs, hB, hc⟩
    · exact absurd e hw
    have hgn := M3.apart hw
    rw [if_neg (by omega), if_neg (by omega)]
    simp only [Option.map_some, addr_add, Nat.zero_add, Nat.add_sub_cancel_left, tick_eq, tickV_eq]
    have hnews : ((ws.drop src).take n).length = n := by simp; omega
    have hnl : (wrds ((ws.drop src).take n)).length = n := by rw [List.length_map, hnews]
    have hsrc : RowAt v2 (some ⟨gs, src, none⟩) (wrds ((ws.drop src).take n)) := by
      refine .inr ⟨gs, src, rfl, fun i x hi => ?_⟩
      rw [hB.cell]
      have hi2 : i < n := by have := (List.getElem?_eq_some_iff.1 hi).1; rwa [hnl] at this
      rw [List.getElem?_append_left (by simp; omega)]
      rw [← hi]
      simp only [List.getElem?_map, List.getElem?_take, if_pos hi2, List.getElem?_drop]
    have hro : roomy v2 gs to (wrds ((ws.drop src).take n)) := hB.roomy (by rw [hnl, List.length_append, List.length_map]; omega) wrds_one
    rw [xCopy_all (e := 23) (cs := wrds ((ws.drop src).take n)) (by kernel_rfl) (by kernel_rfl) hnl.symm (Nat.le_refl _) hsrc hro]
    simp (disch := (first | omega | decide | (simp only [World.size_alloc, World.size_setCell, World.size_drew, size_sets, List.mem_cons, List.not_mem_nil, or_false, not_false_eq_true] <;> omega) | fail)) only [↓rsMem2_0, rsMem2_1, Option.isNone_some, Option.isNone_none, tick_eq, tickV_eq, ne_eq, Int.reduceAdd, Int.reduceSub, Int.reduceMul, Int.reduceEq, Int.reduceLT, Int.reduceLE, Int.reduceToNat, Nat.reduceMul, Nat.reduceAdd, Nat.reduceSub, List.nil_append, List.cons_append, List.getElem?_toArray, List.getElem?_cons_zero, List.getElem?_cons_succ, List.setIfInBounds_toArray, List.set_cons_zero, List.set_cons_succ, Option.map_some, List.not_mem_nil, ←decide_not, h.hd, hv, M1.hd, hv2, M2.hd, t1, t2]
    have B4 := hB.sets (l := wrds ((ws.drop src).take n)) (o := to) (by rw [hnl, List.length_append, List.length_map]; omega)
    have e4 : (wrds ws ++ rest).take to ++ wrds ((ws.drop src).take n) ++ (wrds ws ++ rest).drop (to + (wrds ((ws.drop src).take n)).length) = wrds (moveW ws to src n) ++ rest := by
      rw [hnl, List.take_append_of_le_length (by simp; omega), List.drop_append_of_le_length (by simp; omega)]
      simp [wrds, moveW, List.map_take, List.map_drop]
    rw [e4] at B4
    have F4 : Ext [gs] v2 (v2.setCells gs to (wrds ((ws.drop src).take n))) := (Ext.refl _ _).sets (by simp)
    have hml : (moveW ws to src n).length = ws.length := moveW_length h1 h2
    refine ⟨by trivial, (((E1.trans E2).trans E3).more (by simp)).trans F4, M3.lo, ?_, by rw [hml]; exact hl, by rw [hml]; exact hcap, M3.nil, .inr ⟨gs, rest, rfl, hbs, B4, ?_⟩, fun _ => hgn, M3.up⟩
    · rw [F4.cell (a := ⟨g, 0, none⟩) M3.lt hgn, hml]; exact M3.hd
    · simp only [List.length_append, List.length_map] at hc ⊢
      rw [hml]; exact hc
theorem Move_out (to src n : Int) (h : MemIs w base g a c ws) (hi : ¬ (among to n ws.length ∧ among src n ws.length)) : Gives Try.prog n_mem_Mem_Move #[ptr g, i64 to, i64 src, i64 n] w (i64 1) := by
  refine mem_Mem_Move_of ?_
  unfold mem_Mem_Move
  have hl := h.len
  simp (disch := (first | omega | decide | (simp only [World.size_alloc, World.size_setCell, World.size_drew, size_sets, List.mem_cons, List.not_mem_nil, or_false, not_false_eq_true] <;> omega) | fail)) only [↓rsMem2_0, rsMem2_1, Option.isNone_some, Option.isNone_none, tick_eq, tickV_eq, ne_eq, Int.reduceAdd, Int.reduceSub, Int.reduceMul, Int.reduceEq, Int.reduceLT, Int.reduceLE, Int.reduceToNat, Nat.reduceMul, Nat.reduceAdd, Nat.reduceSub, List.nil_append, List.cons_append, List.getElem?_toArray, List.getElem?_cons_zero, List.getElem?_cons_succ, List.setIfInBounds_toArray, List.set_cons_zero, List.set_cons_succ, Option.map_some, List.not_mem_nil, ←decide_not, h.hd]
  refine mem_in_call (Gives.to (min_spec _ _ _ _ (by omega) (by omega)) fun w1 E1 => ?_)
  have z1 := E1.size
  try simp only [World.size_alloc, World.size_setCell, World.size_drew] at z1
  have M1 := h.ext0 E1
  by_cases hv : among to n ws.length
  · simp (disch := (first | omega | decide | (simp only [World.size_alloc, World.size_setCell, World.size_drew, size_sets, List.mem_cons, List.not_mem_nil, or_false, not_false_eq_true] <;> omega) | fail)) only [↓rsMem2_0, rsMem2_1, Option.isNone_some, Option.isNone_none, tick_eq, tickV_eq, ne_eq, Int.reduceAdd, Int.reduceSub, Int.reduceMul, Int.reduceEq, Int.reduceLT, Int.reduceLE, Int.reduceToNat, Nat.reduceMul, Nat.reduceAdd, Nat.reduceSub, List.nil_append, List.cons_append, List.getElem?_toArray, List.getElem?_cons_zero, List.getElem?_cons_succ, List.setIfInBounds_toArray, List.set_cons_zero, List.set_cons_succ, Option.map_some, List.not_mem_nil, ←decide_not, h.hd, decide_eq_true hv, M1.hd]
    refine mem_in_call (Gives.to (min_spec _ _ _ _ (by omega) (by omega)) fun w2 E2 => ?_)
    have z2 := E2.size
    try simp only [World.size_alloc, World.size_setCell, World.size_drew] at z2
    simp (disch := (first | omega | decide | (simp only [World.size_alloc, World.size_setCell, World.size_drew, size_sets, List.mem_cons, List.not_mem_nil, or_false, not_false_eq_true] <;> omega) | fail)) only [↓rsMem2_0, rsMem2_1, Option.isNone_some, Option.isNone_none, tick_eq, tickV_eq, ne_eq, Int.reduceAdd, Int.reduceSub, Int.reduceMul, Int.reduceEq, Int.reduceLT, Int.reduceLE, Int.reduceToNat, Nat.reduceMul, Nat.reduceAdd, Nat.reduceSub, List.nil_append, List.cons_append, List.getElem?_toArray, List.getElem?_cons_zero, List.getElem?_cons_succ, List.setIfInBounds_toArray, List.set_cons_zero, List.set_cons_succ, Option.map_some, List.not_mem_nil, ←decide_not, h.hd, decide_eq_true hv, M1.hd, decide_eq_false (fun e => hi ⟨hv, e⟩)]
    exact ⟨by trivial, by (repeat (first | with_reducible exact Ext.refl _ _ | with_reducible assumption | with_reducible refine Ext.alloc' ?_ _ | with_reducible refine Ext.drew' ?_ | with_reducible refine Ext.set' ?_ ?_ | exact .inr (by first | omega | (simp only [World.size_alloc, World.size_drew, World.size_setCell] <;> omega)) | refine Ext.trans ?_ (by with_reducible assumption)))⟩
  · simp (disch := (first | omega | decide | (simp only [World.size_alloc, World.size_setCell, World.size_drew, size_sets, List.mem_cons, List.not_mem_nil, or_false, not_false_eq_true] <;> omega) | fail)) only [↓rsMem2_0, rsMem2_1, Option.isNone_some, Option.isNone_none, tick_eq, tickV_eq, ne_eq, Int.reduceAdd, Int.reduceSub, Int.reduceMul, Int.reduceEq, Int.reduceLT, Int.reduceLE, Int.reduceToNat, Nat.reduceMul, Nat.reduceAdd, Nat.reduceSub, List.nil_append, List.cons_append, List.getElem?_toArray, List.getElem?_cons_zero, List.getElem?_cons_succ, List.setIfInBounds_toArray, List.set_cons_zero, List.set_cons_succ, Option.map_some, List.not_mem_nil, ←decide_not, h.hd, decide_eq_false hv]
    exact ⟨by trivial, by (repeat (first | with_reducible exact Ext.refl _ _ | with_reducible assumption | with_reducible refine Ext.alloc' ?_ _ | with_reducible refine Ext.drew' ?_ | with_reducible refine Ext.set' ?_ ?_ | exact .inr (by first | omega | (simp only [World.size_alloc, World.size_drew, World.size_setCell] <;> omega)) | refine Ext.trans ?_ (by with_reducible assumption)))⟩
end
abbrev rsMem2_2 := (And.intro @xBox_r (And.intro @loadK_some (And.intro @loadsK_s (And.intro @loadsK_n (And.intro @loadsR_s (And.intro @loadsR_n (And.intro @storesK_s (And.intro @storesK_n (And.intro @xPick_t (And.intro @xPick_f (And.intro @xGuard_tt (And.intro @xGuard_ff (And.intro @xGuard_tf (And.intro @xGuard_ft (And.intro @xGuard_u 
  (And.intro @xNil_r (And.intro @xIf_t (And.intro @xBin_add' (And.intro @xBin_sub' (And.intro @xBin_mul' (And.intro @xBin_quo' (And.intro @xBin_rem' (And.intro @xIf_f (And.intro @xIf_tt (And.intro @xEx0 (And.intro @xEx1 (And.intro @xEx2 (And.intro @xEx3 (And.intro @xBin_eqs (And.intro @xBin_nes (And.intro @xUn_not (And.intro @xu8_add (And.intro @xu8_eql 
  (And.intro @xu8_neq (And.intro @xu16_add (And.intro @xu16_eql (And.intro @xu16_neq (And.intro @xu32_add (And.intro @xu32_eql (And.intro @xu32_neq (And.intro @xu64_add (And.intro @xu64_eql (And.intro @xu64_neq (And.intro @xi64_eql (And.intro @xi64_neq (And.intro @xi64_neg (And.intro @xMakeFunc_r (And.intro @xSq_r (And.intro @xPur_s (And.intro @xRd_s 
  (And.intro @xRe_s (And.intro @xDet_s (And.intro @xDet_ld (And.intro @xDet_ld2 (And.intro @xDet_ld3 (And.intro @xDet_ld4 (And.intro @xGuard_tt (And.intro @ld_23 (And.intro @ia_58 (And.intro @ln_58 (And.intro @bs_22_0 (And.intro @bs_22_1 (And.intro @bs_22_3 (And.intro @bs_22_9 (And.intro @nq_48 @nn_48)))))))))))))))))))))))))))))))))))))))))))))))))))))))))))))))))
theorem known13_spec (w : World) : Gives Try.prog n_loamlaw13_known #[] w (.bool true) := by
  refine loamlaw13_known_of ?_
  unfold loamlaw13_known
  refine mem_New_call (Yld.mono (New_spec 4 w (by decide)) ?_)
  rintro u w1 ⟨F1, g, a, c, rfl, M1⟩
  simp (disch := (first | omega | decide | (simp only [World.size_alloc, World.size_setCell, World.size_drew, size_sets, List.mem_cons, List.not_mem_nil, or_false, not_false_eq_true] <;> omega) | fail)) only [↓rsMem2_2, rsMem2_1, Option.isNone_some, Option.isNone_none, tick_eq, tickV_eq, ne_eq, Int.reduceAdd, Int.reduceSub, Int.reduceMul, Int.reduceEq, Int.reduceLT, Int.reduceLE, Int.reduceToNat, Nat.reduceMul, Nat.reduceAdd, Nat.reduceSub, List.nil_append, List.cons_append, List.getElem?_toArray, List.getElem?_cons_zero, List.getElem?_cons_succ, List.setIfInBounds_toArray, List.set_cons_zero, List.set_cons_succ, Option.map_some, List.not_mem_nil, ←decide_not, eq_self]
  have gw := M1.lo
  have ha : ∀ x ∈ blkOf a, w.heap.size ≤ x := by
    rcases M1.own with e | ⟨gs, rest, rfl, hb, _⟩
    · cases e
    · simpa [blkOf] using hb
  refine mem_Mem_Set_call (Yld.mono (Set_ok 1 (BitVec.ofNat 64 578437695752307201) M1 (by decide)) ?_)
  rintro u w2 ⟨rfl, F2, M2⟩
  have G2 : Ext [] w w2 := F1.new F2 ha
  rw [show (List.replicate 4 c0).set 1 (BitVec.ofNat 64 578437695752307201) = [c0, BitVec.ofNat 64 578437695752307201, c0, c0] by decide] at M2
  simp (disch := (first | omega | decide | (simp only [World.size_alloc, World.size_setCell, World.size_drew, size_sets, List.mem_cons, List.not_mem_nil, or_false, not_false_eq_true] <;> omega) | fail)) only [↓rsMem2_2, rsMem2_1, Option.isNone_some, Option.isNone_none, tick_eq, tickV_eq, ne_eq, Int.reduceAdd, Int.reduceSub, Int.reduceMul, Int.reduceEq, Int.reduceLT, Int.reduceLE, Int.reduceToNat, Nat.reduceMul, Nat.reduceAdd, Nat.reduceSub, List.nil_append, List.cons_append, List.getElem?_toArray, List.getElem?_cons_zero, List.getElem?_cons_succ, List.setIfInBounds_toArray, List.set_cons_zero, List.set_cons_succ, Option.map_some, List.not_mem_nil, ←decide_not, eq_self]
  refine mem_Mem_Bytes_call (Yld.mono (Bytes_ok 7 3 M2 (by decide)) ?_)
  rintro u w3 ⟨F3, a3, c3, rfl, hc3, R3, N3⟩
  rw [show bytesW [c0, BitVec.ofNat 64 578437695752307201, c0, c0] 7 3 = [b8 0, b8 1, b8 2] by decide +kernel] at R3 ⊢
  simp (disch := (first | omega | decide | (simp only [World.size_alloc, World.size_setCell, World.size_drew, size_sets, List.mem_cons, List.not_mem_nil, or_false, not_false_eq_true] <;> omega) | fail)) only [↓rsMem2_2, rsMem2_1, Option.isNone_some, Option.isNone_none, tick_eq, tickV_eq, ne_eq, Int.reduceAdd, Int.reduceSub, Int.reduceMul, Int.reduceEq, Int.reduceLT, Int.reduceLE, Int.reduceToNat, Nat.reduceMul, Nat.reduceAdd, Nat.reduceSub, List.nil_append, List.cons_append, List.getElem?_toArray, List.getElem?_cons_zero, List.getElem?_cons_succ, List.setIfInBounds_toArray, List.set_cons_zero, List.set_cons_succ, Option.map_some, List.not_mem_nil, ←decide_not, eq_self]
  have r9 := lit_row w3 [b8 9]
  have M4 := (M2.ext0 F3).ext0 (Ext.alloc [] w3 (.cells (bys [b8 9]).toArray 5))
  refine mem_Mem_SetBytes_call (Yld.mono (SetBytes_ok 8 [b8 9] (some ⟨w3.heap.size, 0, none⟩) 1 M4 r9 (fun _ _ b o hb hm => ?_) (by decide)) ?_)
  · simp only [Option.some.injEq, Addr.mk.injEq, and_true] at hb
    rcases M2.own with e | ⟨gs, rest, rfl, _, hB, _⟩
    · cases e
    · have := (hB.ext F3 (by simp)).lt
      simp [blkOf] at hm
      omega
  rintro u w4 ⟨rfl, F4, M5⟩
  rw [show setBytesW [c0, BitVec.ofNat 64 578437695752307201, c0, c0] 8 [b8 9] = [c0, BitVec.ofNat 64 578437695752307209, c0, c0] by decide +kernel] at M5
  have G3 : Ext [] w (w3.alloc (.cells (bys [b8 9]).toArray 5)) := (G2.trans F3).trans (Ext.alloc _ _ _)
  have G4 : Ext [] w w4 := G3.new F4 ha
  simp (disch := (first | omega | decide | (simp only [World.size_alloc, World.size_setCell, World.size_drew, size_sets, List.mem_cons, List.not_mem_nil, or_false, not_false_eq_true] <;> omega) | fail)) only [↓rsMem2_2, rsMem2_1, Option.isNone_some, Option.isNone_none, tick_eq, tickV_eq, ne_eq, Int.reduceAdd, Int.reduceSub, Int.reduceMul, Int.reduceEq, Int.reduceLT, Int.reduceLE, Int.reduceToNat, Nat.reduceMul, Nat.reduceAdd, Nat.reduceSub, List.nil_append, List.cons_append, List.getElem?_toArray, List.getElem?_cons_zero, List.getElem?_cons_succ, List.setIfInBounds_toArray, List.set_cons_zero, List.set_cons_succ, Option.map_some, List.not_mem_nil, ←decide_not, eq_self]
  refine mem_Mem_Get_call (Gives.to (Get_ok 1 M5 (by decide)) fun w5 F5 => ?_)
  rw [show ([c0, BitVec.ofNat 64 578437695752307209, c0, c0] : List (BitVec 64)).getD 1 c0 = BitVec.ofNat 64 578437695752307209 from rfl]
  simp (disch := (first | omega | decide | (simp only [World.size_alloc, World.size_setCell, World.size_drew, size_sets, List.mem_cons, List.not_mem_nil, or_false, not_false_eq_true] <;> omega) | fail)) only [↓rsMem2_2, rsMem2_1, Option.isNone_some, Option.isNone_none, tick_eq, tickV_eq, ne_eq, Int.reduceAdd, Int.reduceSub, Int.reduceMul, Int.reduceEq, Int.reduceLT, Int.reduceLE, Int.reduceToNat, Nat.reduceMul, Nat.reduceAdd, Nat.reduceSub, List.nil_append, List.cons_append, List.getElem?_toArray, List.getElem?_cons_zero, List.getElem?_cons_succ, List.setIfInBounds_toArray, List.set_cons_zero, List.set_cons_succ, Option.map_some, List.not_mem_nil, ←decide_not, eq_self]
  refine mem_Mem_Move_call (Yld.mono (Move_ok 0 1 3 (M5.ext0 F5) (by decide) (by decide)) ?_)
  rintro u w6 ⟨rfl, F6, M6⟩
  rw [show moveW [c0, BitVec.ofNat 64 578437695752307209, c0, c0] 0 1 3 = [BitVec.ofNat 64 578437695752307209, c0, c0, c0] by decide +kernel] at M6
  have G6 : Ext [] w w6 := (G4.trans F5).new F6 ha
  simp (disch := (first | omega | decide | (simp only [World.size_alloc, World.size_setCell, World.size_drew, size_sets, List.mem_cons, List.not_mem_nil, or_false, not_false_eq_true] <;> omega) | fail)) only [↓rsMem2_2, rsMem2_1, Option.isNone_some, Option.isNone_none, tick_eq, tickV_eq, ne_eq, Int.reduceAdd, Int.reduceSub, Int.reduceMul, Int.reduceEq, Int.reduceLT, Int.reduceLE, Int.reduceToNat, Nat.reduceMul, Nat.reduceAdd, Nat.reduceSub, List.nil_append, List.cons_append, List.getElem?_toArray, List.getElem?_cons_zero, List.getElem?_cons_succ, List.setIfInBounds_toArray, List.set_cons_zero, List.set_cons_succ, Option.map_some, List.not_mem_nil, ←decide_not, eq_self]
  refine mem_Mem_Get_call (Gives.to (Get_out 4 M6 (by decide)) fun w7 F7 => ?_)
  simp (disch := (first | omega | decide | (simp only [World.size_alloc, World.size_setCell, World.size_drew, size_sets, List.mem_cons, List.not_mem_nil, or_false, not_false_eq_true] <;> omega) | fail)) only [↓rsMem2_2, rsMem2_1, Option.isNone_some, Option.isNone_none, tick_eq, tickV_eq, ne_eq, Int.reduceAdd, Int.reduceSub, Int.reduceMul, Int.reduceEq, Int.reduceLT, Int.reduceLE, Int.reduceToNat, Nat.reduceMul, Nat.reduceAdd, Nat.reduceSub, List.nil_append, List.cons_append, List.getElem?_toArray, List.getElem?_cons_zero, List.getElem?_cons_succ, List.setIfInBounds_toArray, List.set_cons_zero, List.set_cons_succ, Option.map_some, List.not_mem_nil, ←decide_not, eq_self]
  refine mem_Mem_Words_call (Yld.mono (Words_spec (M6.ext0 F7)) ?_)
  rintro u w8 ⟨F8, a8, c8', rfl, hc8, hn8, O8, U8⟩
  have hgs : ∀ x ∈ blkOf a, x < w2.heap.size := by
    rcases M2.own with e | ⟨gs, rest, rfl, _, hB, _⟩
    · cases e
    · have := hB.lt
      simpa [blkOf] using this
  have n3 : ∀ b o, a3 = some ⟨b, o, none⟩ → b ∉ blkOf a := fun b o e hm => by
    have h1 := N3 _ e
    have h2 := hgs b hm
    simp only at h1
    omega
  have R8 := (((((R3.ext0 (Ext.alloc [] w3 (.cells (bys [b8 9]).toArray 5))).ext F4 n3).ext0 F5).ext F6 n3).ext0 F7).ext0 F8
  simp (disch := (first | omega | decide | (simp only [World.size_alloc, World.size_setCell, World.size_drew, size_sets, List.mem_cons, List.not_mem_nil, or_false, not_false_eq_true] <;> omega) | fail)) only [↓rsMem2_2, rsMem2_1, Option.isNone_some, Option.isNone_none, tick_eq, tickV_eq, ne_eq, Int.reduceAdd, Int.reduceSub, Int.reduceMul, Int.reduceEq, Int.reduceLT, Int.reduceLE, Int.reduceToNat, Nat.reduceMul, Nat.reduceAdd, Nat.reduceSub, List.nil_append, List.cons_append, List.getElem?_toArray, List.getElem?_cons_zero, List.getElem?_cons_succ, List.setIfInBounds_toArray, List.set_cons_zero, List.set_cons_succ, Option.map_some, List.not_mem_nil, ←decide_not, eq_self]
  rw [xConv_str (e := 5) (l := [b8 0, b8 1, b8 2]) (by kernel_rfl) (by kernel_rfl) (by kernel_rfl) rfl R8]
  rw [show strOf [b8 0, b8 1, b8 2] = { data := #[0, 1, 2] } by decide +kernel]
  obtain ⟨b, o, rfl, hb, hc⟩ := O8.row.at (i := 0) (by decide)
  simp only [List.getElem_map, List.getElem_cons_zero, Nat.add_zero] at hc
  simp (disch := (first | omega | decide | (simp only [World.size_alloc, World.size_setCell, World.size_drew, size_sets, List.mem_cons, List.not_mem_nil, or_false, not_false_eq_true] <;> omega) | fail)) only [↓rsMem2_2, rsMem2_1, Option.isNone_some, Option.isNone_none, tick_eq, tickV_eq, ne_eq, Int.reduceAdd, Int.reduceSub, Int.reduceMul, Int.reduceEq, Int.reduceLT, Int.reduceLE, Int.reduceToNat, Nat.reduceMul, Nat.reduceAdd, Nat.reduceSub, List.nil_append, List.cons_append, List.getElem?_toArray, List.getElem?_cons_zero, List.getElem?_cons_succ, List.setIfInBounds_toArray, List.set_cons_zero, List.set_cons_succ, Option.map_some, List.not_mem_nil, ←decide_not, hc]
  refine mem_Mem_Len_call (Gives.to (Len_spec (M6.ext0 (F7.trans F8))) fun w9 F9 => ?_)
  simp (disch := (first | omega | decide | (simp only [World.size_alloc, World.size_setCell, World.size_drew, size_sets, List.mem_cons, List.not_mem_nil, or_false, not_false_eq_true] <;> omega) | fail)) only [↓rsMem2_2, rsMem2_1, Option.isNone_some, Option.isNone_none, tick_eq, tickV_eq, ne_eq, Int.reduceAdd, Int.reduceSub, Int.reduceMul, Int.reduceEq, Int.reduceLT, Int.reduceLE, Int.reduceToNat, Nat.reduceMul, Nat.reduceAdd, Nat.reduceSub, List.nil_append, List.cons_append, List.getElem?_toArray, List.getElem?_cons_zero, List.getElem?_cons_succ, List.setIfInBounds_toArray, List.set_cons_zero, List.set_cons_succ, Option.map_some, List.not_mem_nil, ←decide_not, hc]
  exact ⟨by trivial, ((G6.trans F7).trans F8).trans F9⟩
abbrev rsMem2_3 := (And.intro @xBox_r (And.intro @loadK_some (And.intro @loadsK_s (And.intro @loadsK_n (And.intro @loadsR_s (And.intro @loadsR_n (And.intro @storesK_s (And.intro @storesK_n (And.intro @xPick_t (And.intro @xPick_f (And.intro @xGuard_tt (And.intro @xGuard_ff (And.intro @xGuard_tf (And.intro @xGuard_ft (And.intro @xGuard_u 
  (And.intro @xNil_r (And.intro @xIf_t (And.intro @xBin_add' (And.intro @xBin_sub' (And.intro @xBin_mul' (And.intro @xBin_quo' (And.intro @xBin_rem' (And.intro @xIf_f (And.intro @xIf_tt (And.intro @xEx0 (And.intro @xEx1 (And.intro @xEx2 (And.intro @xEx3 (And.intro @xBin_eqs (And.intro @xBin_nes (And.intro @xUn_not (And.intro @xu8_com (And.intro @xu8_eql 
  (And.intro @xu8_neq (And.intro @xu8_leq (And.intro @xu8_geq (And.intro @xu16_com (And.intro @xu16_eql (And.intro @xu16_neq (And.intro @xu16_leq (And.intro @xu16_geq (And.intro @xu32_com (And.intro @xu32_eql (And.intro @xu32_neq (And.intro @xu32_leq (And.intro @xu32_geq (And.intro @xu64_com (And.intro @xu64_eql (And.intro @xu64_neq (And.intro @xu64_leq 
  (And.intro @xu64_geq (And.intro @xi64_leq (And.intro @xi64_geq (And.intro @xi64_eql (And.intro @xi64_neq (And.intro @xi64_neg (And.intro @xMakeFunc_r (And.intro @xSq_r (And.intro @xPur_s (And.intro @xRd_s (And.intro @xRe_s (And.intro @xDet_s (And.intro @xDet_ld (And.intro @xDet_ld2 (And.intro @xDet_ld3 (And.intro @xDet_ld4 (And.intro @xGuard_tt 
  (And.intro @eb_4 (And.intro @nb_4 (And.intro @nq_48 @nn_48))))))))))))))))))))))))))))))))))))))))))))))))))))))))))))))))))))))
theorem MemSizes_spec (n : Int) (w : World) : Gives Try.prog n_loamlaw13_MemSizes #[i64 n] w (.bool true) := by
  refine loamlaw13_MemSizes_of ?_
  unfold loamlaw13_MemSizes
  refine loamlaw13_known_call (Gives.to (known13_spec _) fun w1 E1 => ?_)
  have z1 := E1.size
  try simp only [World.size_alloc, World.size_setCell, World.size_drew] at z1
  simp (disch := (first | omega | decide | (simp only [World.size_alloc, World.size_setCell, World.size_drew, size_sets, List.mem_cons, List.not_mem_nil, or_false, not_false_eq_true] <;> omega) | fail)) only [↓rsMem2_3, rsMem2_1, Option.isNone_some, Option.isNone_none, tick_eq, tickV_eq, ne_eq, Int.reduceAdd, Int.reduceSub, Int.reduceMul, Int.reduceEq, Int.reduceLT, Int.reduceLE, Int.reduceToNat, Nat.reduceMul, Nat.reduceAdd, Nat.reduceSub, List.nil_append, List.cons_append, List.getElem?_toArray, List.getElem?_cons_zero, List.getElem?_cons_succ, List.setIfInBounds_toArray, List.set_cons_zero, List.set_cons_succ, Option.map_some, List.not_mem_nil, ←decide_not, eq_self]
  by_cases hn : n < 0 ∨ 8192 < n
  · refine mem_New_call (Gives.to (New_bad n w1 hn) fun w2 F2 => ?_)
    rcases hn with h | h
    · simp (disch := (first | omega | decide | (simp only [World.size_alloc, World.size_setCell, World.size_drew, size_sets, List.mem_cons, List.not_mem_nil, or_false, not_false_eq_true] <;> omega) | fail)) only [↓rsMem2_3, rsMem2_1, Option.isNone_some, Option.isNone_none, tick_eq, tickV_eq, ne_eq, Int.reduceAdd, Int.reduceSub, Int.reduceMul, Int.reduceEq, Int.reduceLT, Int.reduceLE, Int.reduceToNat, Nat.reduceMul, Nat.reduceAdd, Nat.reduceSub, List.nil_append, List.cons_append, List.getElem?_toArray, List.getElem?_cons_zero, List.getElem?_cons_succ, List.setIfInBounds_toArray, List.set_cons_zero, List.set_cons_succ, Option.map_some, List.not_mem_nil, ←decide_not, beq_self_eq_true]
      exact ⟨by trivial, E1.trans F2⟩
    · have h0 : 0 ≤ n := by omega
      simp (disch := (first | omega | decide | (simp only [World.size_alloc, World.size_setCell, World.size_drew, size_sets, List.mem_cons, List.not_mem_nil, or_false, not_false_eq_true] <;> omega) | fail)) only [↓rsMem2_3, rsMem2_1, Option.isNone_some, Option.isNone_none, tick_eq, tickV_eq, ne_eq, Int.reduceAdd, Int.reduceSub, Int.reduceMul, Int.reduceEq, Int.reduceLT, Int.reduceLE, Int.reduceToNat, Nat.reduceMul, Nat.reduceAdd, Nat.reduceSub, List.nil_append, List.cons_append, List.getElem?_toArray, List.getElem?_cons_zero, List.getElem?_cons_succ, List.setIfInBounds_toArray, List.set_cons_zero, List.set_cons_succ, Option.map_some, List.not_mem_nil, ←decide_not, beq_self_eq_true]
      exact ⟨by trivial, E1.trans F2⟩
  · obtain ⟨k, rfl⟩ : ∃ k : Nat, n = k := ⟨n.toNat, by omega⟩
    refine mem_New_call (Yld.mono (New_spec k w1 (by omega)) ?_)
    rintro u w2 ⟨F2, g, a, c, rfl, M2⟩
    simp (disch := (first | omega | decide | (simp only [World.size_alloc, World.size_setCell, World.size_drew, size_sets, List.mem_cons, List.not_mem_nil, or_false, not_false_eq_true] <;> omega) | fail)) only [↓rsMem2_3, rsMem2_1, Option.isNone_some, Option.isNone_none, tick_eq, tickV_eq, ne_eq, Int.reduceAdd, Int.reduceSub, Int.reduceMul, Int.reduceEq, Int.reduceLT, Int.reduceLE, Int.reduceToNat, Nat.reduceMul, Nat.reduceAdd, Nat.reduceSub, List.nil_append, List.cons_append, List.getElem?_toArray, List.getElem?_cons_zero, List.getElem?_cons_succ, List.setIfInBounds_toArray, List.set_cons_zero, List.set_cons_succ, Option.map_some, List.not_mem_nil, ←decide_not, beq_self_eq_true]
    refine mem_Mem_Len_call (Gives.to (Len_spec M2) fun w3 F3 => ?_)
    simp (disch := (first | omega | decide | (simp only [World.size_alloc, World.size_setCell, World.size_drew, size_sets, List.mem_cons, List.not_mem_nil, or_false, not_false_eq_true] <;> omega) | fail)) only [↓rsMem2_3, rsMem2_1, Option.isNone_some, Option.isNone_none, tick_eq, tickV_eq, ne_eq, Int.reduceAdd, Int.reduceSub, Int.reduceMul, Int.reduceEq, Int.reduceLT, Int.reduceLE, Int.reduceToNat, Nat.reduceMul, Nat.reduceAdd, Nat.reduceSub, List.nil_append, List.cons_append, List.getElem?_toArray, List.getElem?_cons_zero, List.getElem?_cons_succ, List.setIfInBounds_toArray, List.set_cons_zero, List.set_cons_succ, Option.map_some, List.not_mem_nil, ←decide_not, beq_self_eq_true, List.length_replicate]
    exact ⟨by trivial, (E1.trans F2).trans F3⟩
abbrev rsMem2_4 := (And.intro @xBox_r (And.intro @loadK_some (And.intro @loadsK_s (And.intro @loadsK_n (And.intro @loadsR_s (And.intro @loadsR_n (And.intro @storesK_s (And.intro @storesK_n (And.intro @xPick_t (And.intro @xPick_f (And.intro @xGuard_tt (And.intro @xGuard_ff (And.intro @xGuard_tf (And.intro @xGuard_ft (And.intro @xGuard_u 
  (And.intro @xNil_r (And.intro @xIf_t (And.intro @xBin_add' (And.intro @xBin_sub' (And.intro @xBin_mul' (And.intro @xBin_quo' (And.intro @xBin_rem' (And.intro @xIf_f (And.intro @xIf_tt (And.intro @xEx0 (And.intro @xEx1 (And.intro @xEx2 (And.intro @xEx3 (And.intro @xBin_eqs (And.intro @xBin_nes (And.intro @xUn_not (And.intro @xu8_mul (And.intro @xu8_rem 
  (And.intro @xu8_quo (And.intro @xu8_com (And.intro @xu8_eql (And.intro @xu8_lss (And.intro @xu8_gtr (And.intro @xu8_geq (And.intro @xu16_mul (And.intro @xu16_rem (And.intro @xu16_quo (And.intro @xu16_com (And.intro @xu16_eql (And.intro @xu16_lss (And.intro @xu16_gtr (And.intro @xu16_geq (And.intro @xu32_mul (And.intro @xu32_rem (And.intro @xu32_quo 
  (And.intro @xu32_com (And.intro @xu32_eql (And.intro @xu32_lss (And.intro @xu32_gtr (And.intro @xu32_geq (And.intro @xu64_mul (And.intro @xu64_rem (And.intro @xu64_quo (And.intro @xu64_com (And.intro @xu64_eql (And.intro @xu64_lss (And.intro @xu64_gtr (And.intro @xu64_geq (And.intro @xi64_lss (And.intro @xi64_gtr (And.intro @xi64_geq (And.intro @xi64_eql 
  (And.intro @xMakeFunc_r (And.intro @xSq_r (And.intro @xPur_s (And.intro @xRd_s (And.intro @xRe_s (And.intro @xDet_s (And.intro @xDet_ld (And.intro @xDet_ld2 (And.intro @xDet_ld3 (And.intro @xDet_ld4 (And.intro @xGuard_tt (And.intro @ld_5 (And.intro @ld_23 (And.intro @cv_5_23 (And.intro @ia_22 (And.intro @ia_58 (And.intro @ln_22 @ln_58))))))))))))))))))))))))))))))))))))))))))))))))))))))))))))))))))))))))))))))))))))
theorem MemFields_spec (ws : List (BitVec 64)) (a : Option Addr) (n c : Nat) (at' : Int) (w : World) (ha : WordsArg w ws a n c) : Gives Try.prog n_loamlaw13_MemFields #[.slice a n c, i64 at'] w (.bool true) := by
  obtain ⟨rfl, hcap, -, hnil, h⟩ := ha
  refine loamlaw13_MemFields_of ?_
  unfold loamlaw13_MemFields
  refine loamlaw13_known_call (Gives.to (known13_spec _) fun w1 E1 => ?_)
  have z1 := E1.size
  try simp only [World.size_alloc, World.size_setCell, World.size_drew] at z1
  simp (disch := (first | omega | decide | (simp only [World.size_alloc, World.size_setCell, World.size_drew, size_sets, List.mem_cons, List.not_mem_nil, or_false, not_false_eq_true] <;> omega) | fail)) only [↓rsMem2_4, rsMem2_1, Option.isNone_some, Option.isNone_none, tick_eq, tickV_eq, ne_eq, Int.reduceAdd, Int.reduceSub, Int.reduceMul, Int.reduceEq, Int.reduceLT, Int.reduceLE, Int.reduceToNat, Nat.reduceMul, Nat.reduceAdd, Nat.reduceSub, List.nil_append, List.cons_append, List.getElem?_toArray, List.getElem?_cons_zero, List.getElem?_cons_succ, List.setIfInBounds_toArray, List.set_cons_zero, List.set_cons_succ, Option.map_some, List.not_mem_nil, ←decide_not, eq_self]
  by_cases g1 : 100 < (ws.length : Int)
  · simp (disch := (first | omega | decide | (simp only [World.size_alloc, World.size_setCell, World.size_drew, size_sets, List.mem_cons, List.not_mem_nil, or_false, not_false_eq_true] <;> omega) | fail)) only [↓rsMem2_4, rsMem2_1, Option.isNone_some, Option.isNone_none, tick_eq, tickV_eq, ne_eq, Int.reduceAdd, Int.reduceSub, Int.reduceMul, Int.reduceEq, Int.reduceLT, Int.reduceLE, Int.reduceToNat, Nat.reduceMul, Nat.reduceAdd, Nat.reduceSub, List.nil_append, List.cons_append, List.getElem?_toArray, List.getElem?_cons_zero, List.getElem?_cons_succ, List.setIfInBounds_toArray, List.set_cons_zero, List.set_cons_succ, Option.map_some, List.not_mem_nil, ←decide_not, eq_self, g1]
    exact ⟨by trivial, by (repeat (first | with_reducible exact Ext.refl _ _ | with_reducible assumption | with_reducible refine Ext.alloc' ?_ _ | with_reducible refine Ext.drew' ?_ | with_reducible refine Ext.set' ?_ ?_ | exact .inr (by first | omega | (simp only [World.size_alloc, World.size_drew, World.size_setCell] <;> omega)) | refine Ext.trans ?_ (by with_reducible assumption)))⟩
  simp (disch := (first | omega | decide | (simp only [World.size_alloc, World.size_setCell, World.size_drew, size_sets, List.mem_cons, List.not_mem_nil, or_false, not_false_eq_true] <;> omega) | fail)) only [↓rsMem2_4, rsMem2_1, Option.isNone_some, Option.isNone_none, tick_eq, tickV_eq, ne_eq, Int.reduceAdd, Int.reduceSub, Int.reduceMul, Int.reduceEq, Int.reduceLT, Int.reduceLE, Int.reduceToNat, Nat.reduceMul, Nat.reduceAdd, Nat.reduceSub, List.nil_append, List.cons_append, List.getElem?_toArray, List.getElem?_cons_zero, List.getElem?_cons_succ, List.setIfInBounds_toArray, List.set_cons_zero, List.set_cons_succ, Option.map_some, List.not_mem_nil, ←decide_not, g1]
  refine mem_Of_call (Yld.mono (Of_spec ws a c w1 (by omega) (h.ext0 E1) hnil) ?_)
  rintro u w2 ⟨F2, g, a2, c2, rfl, M2⟩
  simp (disch := (first | omega | decide | (simp only [World.size_alloc, World.size_setCell, World.size_drew, size_sets, List.mem_cons, List.not_mem_nil, or_false, not_false_eq_true] <;> omega) | fail)) only [↓rsMem2_4, rsMem2_1, Option.isNone_some, Option.isNone_none, tick_eq, tickV_eq, ne_eq, Int.reduceAdd, Int.reduceSub, Int.reduceMul, Int.reduceEq, Int.reduceLT, Int.reduceLE, Int.reduceToNat, Nat.reduceMul, Nat.reduceAdd, Nat.reduceSub, List.nil_append, List.cons_append, List.getElem?_toArray, List.getElem?_cons_zero, List.getElem?_cons_succ, List.setIfInBounds_toArray, List.set_cons_zero, List.set_cons_succ, Option.map_some, List.not_mem_nil, ←decide_not, g1]
  by_cases hi : 0 ≤ at' ∧ at' < 8 * ws.length
  · obtain ⟨k, rfl⟩ : ∃ k : Nat, at' = k := ⟨at'.toNat, by omega⟩
    refine mem_Mem_Bytes_call (Yld.mono (Bytes_ok k 1 M2 (by omega)) ?_)
    rintro u w3 ⟨F3, a3, c3, rfl, hc3, R3, N3⟩
    have hlen : (bytesW ws k 1).length = 1 := bytesW_length
    rw [hlen] at hc3 ⊢
    have hb3 : bytesW ws k 1 = [byteW ws k] := by simp [bytesW, List.range_succ]
    rw [hb3] at R3
    obtain ⟨b, o, rfl, hbl, hcb⟩ := R3.at (i := 0) (by simp)
    simp only [List.getElem_map, List.getElem_cons_zero, Nat.add_zero] at hcb
    have h3 := ((h.ext0 E1).ext0 F2).ext0 F3
    obtain ⟨b', o', rfl, hbl', hcw⟩ := h3.at (i := k / 8) (by simp; omega)
    simp only [List.getElem_map] at hcw
    have t1 : ((k : Int) / 8).toNat = k / 8 := by omega
    simp (disch := (first | omega | decide | (simp only [World.size_alloc, World.size_setCell, World.size_drew, size_sets, List.mem_cons, List.not_mem_nil, or_false, not_false_eq_true] <;> omega) | fail)) only [↓rsMem2_4, rsMem2_1, Option.isNone_some, Option.isNone_none, tick_eq, tickV_eq, ne_eq, Int.reduceAdd, Int.reduceSub, Int.reduceMul, Int.reduceEq, Int.reduceLT, Int.reduceLE, Int.reduceToNat, Nat.reduceMul, Nat.reduceAdd, Nat.reduceSub, List.nil_append, List.cons_append, List.getElem?_toArray, List.getElem?_cons_zero, List.getElem?_cons_succ, List.setIfInBounds_toArray, List.set_cons_zero, List.set_cons_succ, Option.map_some, List.not_mem_nil, ←decide_not, g1]
    refine xDraw_ext [] [] ?_
    simp (disch := (first | omega | decide | (simp only [World.size_alloc, World.size_setCell, World.size_drew, size_sets, List.mem_cons, List.not_mem_nil, or_false, not_false_eq_true] <;> omega) | fail)) only [↓rsMem2_4, rsMem2_1, Option.isNone_some, Option.isNone_none, tick_eq, tickV_eq, ne_eq, Int.reduceAdd, Int.reduceSub, Int.reduceMul, Int.reduceEq, Int.reduceLT, Int.reduceLE, Int.reduceToNat, Nat.reduceMul, Nat.reduceAdd, Nat.reduceSub, List.nil_append, List.cons_append, List.getElem?_toArray, List.getElem?_cons_zero, List.getElem?_cons_succ, List.setIfInBounds_toArray, List.set_cons_zero, List.set_cons_succ, Option.map_some, List.not_mem_nil, ←decide_not, g1, hcb, hcw, t1]
    have t8 : (8 : Int) * ((k : Int) % 8) = ((8 * (k % 8) : Nat) : Int) := by omega
    apply xDet_x
    · exact fun w hw => bits_Field_call (Gives.lq (Field_spec _ _ _ _))
    have ef : (byteW ws k).setWidth 64 = fieldB ws[k / 8] ((8 : Int) * ((k : Int) % 8)) 8 := by
      rw [t8]
      apply BitVec.eq_of_getLsbD_eq
      intro i hi'
      have := field_bit ws[k / 8] (a := 8 * (k % 8)) (n := 8) (by decide) (by omega) i
      rw [show fieldB ws[k / 8] ((8 * (k % 8) : Nat) : Int) 8 = fieldB ws[k / 8] ((8 * (k % 8) : Nat) : Int) ((8 : Nat) : Int) from rfl, this]
      unfold byteW
      rw [List.getD_eq_getElem?_getD, List.getElem?_eq_getElem (by omega)]
      simp [BitVec.getLsbD_setWidth, hi']
    simp (disch := (first | omega | decide | (simp only [World.size_alloc, World.size_setCell, World.size_drew, size_sets, List.mem_cons, List.not_mem_nil, or_false, not_false_eq_true] <;> omega) | fail)) only [↓rsMem2_4, rsMem2_1, Option.isNone_some, Option.isNone_none, tick_eq, tickV_eq, ne_eq, Int.reduceAdd, Int.reduceSub, Int.reduceMul, Int.reduceEq, Int.reduceLT, Int.reduceLE, Int.reduceToNat, Nat.reduceMul, Nat.reduceAdd, Nat.reduceSub, List.nil_append, List.cons_append, List.getElem?_toArray, List.getElem?_cons_zero, List.getElem?_cons_succ, List.setIfInBounds_toArray, List.set_cons_zero, List.set_cons_succ, Option.map_some, List.not_mem_nil, ←decide_not, g1, hcb, hcw, t1, decide_eq_true ef]
    refine xEnd_i fun w9 hw => ⟨by trivial, ?_⟩
    exact (((E1.trans F2).trans F3).drew').trans hw.ext
  · refine mem_Mem_Bytes_call (Gives.to (Bytes_out at' 1 M2 (by unfold among; omega)) fun w3 F3 => ?_)
    by_cases h0 : at' < 0
    · simp (disch := (first | omega | decide | (simp only [World.size_alloc, World.size_setCell, World.size_drew, size_sets, List.mem_cons, List.not_mem_nil, or_false, not_false_eq_true] <;> omega) | fail)) only [↓rsMem2_4, rsMem2_1, Option.isNone_some, Option.isNone_none, tick_eq, tickV_eq, ne_eq, Int.reduceAdd, Int.reduceSub, Int.reduceMul, Int.reduceEq, Int.reduceLT, Int.reduceLE, Int.reduceToNat, Nat.reduceMul, Nat.reduceAdd, Nat.reduceSub, List.nil_append, List.cons_append, List.getElem?_toArray, List.getElem?_cons_zero, List.getElem?_cons_succ, List.setIfInBounds_toArray, List.set_cons_zero, List.set_cons_succ, Option.map_some, List.not_mem_nil, ←decide_not, g1]
      exact ⟨by trivial, (E1.trans F2).trans F3⟩
    · simp (disch := (first | omega | decide | (simp only [World.size_alloc, World.size_setCell, World.size_drew, size_sets, List.mem_cons, List.not_mem_nil, or_false, not_false_eq_true] <;> omega) | fail)) only [↓rsMem2_4, rsMem2_1, Option.isNone_some, Option.isNone_none, tick_eq, tickV_eq, ne_eq, Int.reduceAdd, Int.reduceSub, Int.reduceMul, Int.reduceEq, Int.reduceLT, Int.reduceLE, Int.reduceToNat, Nat.reduceMul, Nat.reduceAdd, Nat.reduceSub, List.nil_append, List.cons_append, List.getElem?_toArray, List.getElem?_cons_zero, List.getElem?_cons_succ, List.setIfInBounds_toArray, List.set_cons_zero, List.set_cons_succ, Option.map_some, List.not_mem_nil, ←decide_not, g1]
      exact ⟨by trivial, (E1.trans F2).trans F3⟩
end Go.Proofs.Ytlijgnekpggejaa
