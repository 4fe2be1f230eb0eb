/- What the statements on spaces call (sq). -/
import Derived.Test.YtlllabaipfmnjaaSpc3
set_option linter.unusedVariables false
set_option linter.unusedSimpArgs false
set_option maxHeartbeats 4000000
namespace Go.Proofs.Ytlllabaipfmnjaa
open Go.Sh Go.RowKit

abbrev rsSpcK_0 := (And.intro @xBox_r (And.intro @loadK_some (And.intro @loadsK_s (And.intro @loadsK_n (And.intro @loadsR_s (And.intro @loadsR_n (And.intro @storesK_s (And.intro @storesK_n (And.intro @xPick_t (And.intro @xPick_f (And.intro @xGuard_tt (And.intro @xGuard_ff (And.intro @xGuard_tf (And.intro @xGuard_ft (And.intro @xGuard_u 
  (And.intro @xNil_r (And.intro @xIf_t (And.intro @xBin_add' (And.intro @xBin_sub' (And.intro @xBin_mul' (And.intro @xBin_quo' (And.intro @xBin_rem' (And.intro @xIf_f (And.intro @xIf_tt (And.intro @xEx0 (And.intro @xEx1 (And.intro @xEx2 (And.intro @xEx3 (And.intro @xBin_eqs (And.intro @xBin_nes (And.intro @xUn_not (And.intro @xu8_neq (And.intro @xu16_neq 
  (And.intro @xu32_neq (And.intro @xu64_neq (And.intro @xi64_neq (And.intro @xi64_neg (And.intro @xMakeFunc_r (And.intro @xSq_r (And.intro @xPur_s (And.intro @xRd_s (And.intro @xRe_s (And.intro @xDet_s (And.intro @xDet_ld (And.intro @xDet_ld2 (And.intro @xDet_ld3 (And.intro @xDet_ld4 @xGuard_tt)))))))))))))))))))))))))))))))))))))))))))))))
abbrev rsSpcK_1 := (And.intro @setCells_c (And.intro @setCells_n (And.intro @World.setCell_alloc_at (And.intro @World.setCell_alloc_past (And.intro @World.cell?_alloc_at (And.intro @World.cell?_alloc_past (And.intro @World.frozen?_alloc_at (And.intro @World.frozen?_alloc_past 
  (And.intro @World.size_alloc (And.intro @dlt_t (And.intro @dlt_f (And.intro @dle_t (And.intro @dle_f (And.intro @deq_t (And.intro @deq_f (And.intro @dne_t (And.intro @dne_f (And.intro @not_true_eq_false (And.intro @Bool.false_and (And.intro @Bool.true_and (And.intro @Bool.and_true (And.intro @Bool.and_false (And.intro @wrap_in (And.intro @Int.toNat_natCast 
  (And.intro @Nat.mul_one (And.intro @cells_int (And.intro @cells_bool (And.intro @cells_string (And.intro @cells_slice (And.intro @cells_pointer (And.intro @cells_agg (And.intro @one_int (And.intro @one_bool (And.intro @one_string (And.intro @one_slice (And.intro @one_pointer (And.intro @beq_tt (And.intro @beq_ff (And.intro @beq_tf 
  (And.intro @beq_ft (And.intro @cell_sets_b (And.intro @frozen_sets (And.intro @size_sets (And.intro @World.size_drew (And.intro @Nat.zero_add (And.intro @Nat.add_zero (And.intro @cell_drew (And.intro @frozen_drew (And.intro @cell_set_eq (And.intro @cell_set_o (And.intro @cell_set_b (And.intro @World.frozen?_setCell 
  (And.intro @decide_true (And.intro @decide_false (And.intro @not_false_eq_true (And.intro @Bool.not_true @Bool.not_false))))))))))))))))))))))))))))))))))))))))))))))))))))))))
theorem Mem15_spec (ws : List (BitVec 64)) (a : Option Addr) (c : Nat) (w : World) (hl : ws.length ≤ 8192) (h : RowAt w a (wrds ws)) (hn : a = none → c = 0) :
    Yld Try.prog n_loamlaw15_Mem #[.slice a ws.length c] w fun u w' => Ext [] w w' ∧ ∃ g a' c', u = ptr g ∧ MemIs w' w.heap.size g a' c' ws := by
  refine loamlaw15_Mem_of ?_
  unfold loamlaw15_Mem
  refine mem_Of_call (Yld.mono (Of_spec ws a c w hl h hn) ?_)
  rintro u w1 ⟨F1, g, a', c', rfl, M⟩
  simp (disch := (first | omega | decide | (simp only [World.size_alloc, World.size_setCell, World.size_drew, size_sets, List.mem_cons, List.not_mem_nil, or_false, not_false_eq_true] <;> omega) | fail)) only [↓rsSpcK_0, rsSpcK_1, Option.isNone_some, Option.isNone_none, tick_eq, tickV_eq, ne_eq, Int.reduceAdd, Int.reduceSub, Int.reduceMul, Int.reduceEq, Int.reduceLT, Int.reduceLE, Int.reduceToNat, Nat.reduceMul, Nat.reduceAdd, Nat.reduceSub, List.nil_append, List.cons_append, List.getElem?_toArray, List.getElem?_cons_zero, List.getElem?_cons_succ, List.setIfInBounds_toArray, List.set_cons_zero, List.set_cons_succ, Option.map_some, List.not_mem_nil, ←decide_not, eq_self]
  exact ⟨F1, g, a', c', rfl, M⟩
abbrev rsSpcK_2 := (And.intro @xBox_r (And.intro @loadK_some (And.intro @loadsK_s (And.intro @loadsK_n (And.intro @loadsR_s (And.intro @loadsR_n (And.intro @storesK_s (And.intro @storesK_n (And.intro @xPick_t (And.intro @xPick_f (And.intro @xGuard_tt (And.intro @xGuard_ff (And.intro @xGuard_tf (And.intro @xGuard_ft (And.intro @xGuard_u 
  (And.intro @xNil_r (And.intro @xIf_t (And.intro @xBin_add' (And.intro @xBin_sub' (And.intro @xBin_mul' (And.intro @xBin_quo' (And.intro @xBin_rem' (And.intro @xIf_f (And.intro @xIf_tt (And.intro @xEx0 (And.intro @xEx1 (And.intro @xEx2 (And.intro @xEx3 (And.intro @xBin_eqs (And.intro @xBin_nes (And.intro @xUn_not (And.intro @xu8_add (And.intro @xu8_neq 
  (And.intro @xu8_lss (And.intro @xu16_add (And.intro @xu16_neq (And.intro @xu16_lss (And.intro @xu32_add (And.intro @xu32_neq (And.intro @xu32_lss (And.intro @xu64_add (And.intro @xu64_neq (And.intro @xu64_lss (And.intro @xi64_lss (And.intro @xi64_neq (And.intro @xi64_neg (And.intro @xMakeFunc_r (And.intro @xSq_r (And.intro @xPur_s (And.intro @xRd_s 
  (And.intro @xRe_s (And.intro @xDet_s (And.intro @xDet_ld (And.intro @xDet_ld2 (And.intro @xDet_ld3 (And.intro @xDet_ld4 (And.intro @xGuard_tt (And.intro @ld_3 (And.intro @ia_89 @ln_89)))))))))))))))))))))))))))))))))))))))))))))))))))))))))))
theorem ints_spec {w : World} {l : List Nat} {a a' : Option Addr} {c c' : Nat} (h : RowAt w a (nums l)) (h' : RowAt w a' (nums l)) (hl : l.length ≤ 100000) : Gives Try.prog n_loamlaw15_ints #[.slice a l.length c, .slice a' l.length c'] w (.bool true) := by
  refine loamlaw15_ints_of ?_
  unfold loamlaw15_ints
  simp (disch := (first | omega | decide | (simp only [World.size_alloc, World.size_setCell, World.size_drew, size_sets, List.mem_cons, List.not_mem_nil, or_false, not_false_eq_true] <;> omega) | fail)) only [↓rsSpcK_2, rsSpcK_1, Option.isNone_some, Option.isNone_none, tick_eq, tickV_eq, ne_eq, Int.reduceAdd, Int.reduceSub, Int.reduceMul, Int.reduceEq, Int.reduceLT, Int.reduceLE, Int.reduceToNat, Nat.reduceMul, Nat.reduceAdd, Nat.reduceSub, List.nil_append, List.cons_append, List.getElem?_toArray, List.getElem?_cons_zero, List.getElem?_cons_succ, List.setIfInBounds_toArray, List.set_cons_zero, List.set_cons_succ, Option.map_some, List.not_mem_nil, ←decide_not, eq_self]
  refine xLoop_n l.length (fun j => [i64 (j : Int)]) (fun _ w' => Ext [] w w') rfl (Ext.refl _ _) ?_ ?_
  · intro j hj u v1 hu F nxt hnx
    simp only [List.map_cons, List.map_nil, List.cons.injEq, and_true] at hu
    rw [hu]
    obtain ⟨b1, o1, rfl, z1, k1⟩ := (h.ext0 F).at (i := j) (by simpa using hj)
    obtain ⟨b2, o2, rfl, z2, k2⟩ := (h'.ext0 F).at (i := j) (by simpa using hj)
    simp only [List.getElem_map] at k1 k2
    unfold loamlaw15_ints_l1
    simp (disch := (first | omega | decide | (simp only [World.size_alloc, World.size_setCell, World.size_drew, size_sets, List.mem_cons, List.not_mem_nil, or_false, not_false_eq_true] <;> omega) | fail)) only [↓rsSpcK_2, rsSpcK_1, Option.isNone_some, Option.isNone_none, tick_eq, tickV_eq, ne_eq, Int.reduceAdd, Int.reduceSub, Int.reduceMul, Int.reduceEq, Int.reduceLT, Int.reduceLE, Int.reduceToNat, Nat.reduceMul, Nat.reduceAdd, Nat.reduceSub, List.nil_append, List.cons_append, List.getElem?_toArray, List.getElem?_cons_zero, List.getElem?_cons_succ, List.setIfInBounds_toArray, List.set_cons_zero, List.set_cons_succ, Option.map_some, List.not_mem_nil, ←decide_not, k1, k2]
    exact hnx _ (F.trans (Ext.drew _ _))
  · intro u v1 hu F nxt
    simp only [List.map_cons, List.map_nil, List.cons.injEq, and_true] at hu
    rw [hu]
    unfold loamlaw15_ints_l1
    simp (disch := (first | omega | decide | (simp only [World.size_alloc, World.size_setCell, World.size_drew, size_sets, List.mem_cons, List.not_mem_nil, or_false, not_false_eq_true] <;> omega) | fail)) only [↓rsSpcK_2, rsSpcK_1, Option.isNone_some, Option.isNone_none, tick_eq, tickV_eq, ne_eq, Int.reduceAdd, Int.reduceSub, Int.reduceMul, Int.reduceEq, Int.reduceLT, Int.reduceLE, Int.reduceToNat, Nat.reduceMul, Nat.reduceAdd, Nat.reduceSub, List.nil_append, List.cons_append, List.getElem?_toArray, List.getElem?_cons_zero, List.getElem?_cons_succ, List.setIfInBounds_toArray, List.set_cons_zero, List.set_cons_succ, Option.map_some, List.not_mem_nil, ←decide_not, eq_self]
    exact ⟨by trivial, F⟩
abbrev rsSpcK_3 := (And.intro @xBox_r (And.intro @loadK_some (And.intro @loadsK_s (And.intro @loadsK_n (And.intro @loadsR_s (And.intro @loadsR_n (And.intro @storesK_s (And.intro @storesK_n (And.intro @xPick_t (And.intro @xPick_f (And.intro @xGuard_tt (And.intro @xGuard_ff (And.intro @xGuard_tf (And.intro @xGuard_ft (And.intro @xGuard_u 
  (And.intro @xNil_r (And.intro @xIf_t (And.intro @xBin_add' (And.intro @xBin_sub' (And.intro @xBin_mul' (And.intro @xBin_quo' (And.intro @xBin_rem' (And.intro @xIf_f (And.intro @xIf_tt (And.intro @xEx0 (And.intro @xEx1 (And.intro @xEx2 (And.intro @xEx3 (And.intro @xBin_eqs (And.intro @xBin_nes (And.intro @xUn_not (And.intro @xu8_add (And.intro @xu8_sub 
  (And.intro @xu8_eql (And.intro @xu8_neq (And.intro @xu8_lss (And.intro @xu16_add (And.intro @xu16_sub (And.intro @xu16_eql (And.intro @xu16_neq (And.intro @xu16_lss (And.intro @xu32_add (And.intro @xu32_sub (And.intro @xu32_eql (And.intro @xu32_neq (And.intro @xu32_lss (And.intro @xu64_add (And.intro @xu64_sub (And.intro @xu64_eql (And.intro @xu64_neq 
  (And.intro @xu64_lss (And.intro @xi64_lss (And.intro @xi64_eql (And.intro @xi64_neq (And.intro @xi64_neg (And.intro @xMakeFunc_r (And.intro @xSq_r (And.intro @xPur_s (And.intro @xRd_s (And.intro @xRe_s (And.intro @xDet_s (And.intro @xDet_ld (And.intro @xDet_ld2 (And.intro @xDet_ld3 (And.intro @xDet_ld4 (And.intro @xGuard_tt (And.intro @ld_3 (And.intro @ld_29 
  (And.intro @ld_30 (And.intro @ld_81 (And.intro @fa_98_0 (And.intro @fa_98_1 (And.intro @fa_98_2 (And.intro @fa_98_3 (And.intro @fa_105_0 (And.intro @fa_105_1 (And.intro @fa_105_2 (And.intro @fa_105_3 (And.intro @ia_30 @ln_30)))))))))))))))))))))))))))))))))))))))))))))))))))))))))))))))))))))))))))))))
theorem Same_spec {w : World} {base s g m : Nat} {a r : Option Addr} {c cr : Nat} {ws : List (BitVec 64)} {b t e : Nat} (S : SpIs w base s g a c ws b t e) (R : RfIs w m r cr ws b t e) : Gives Try.prog n_loamlaw15_Same #[ptr s, ptr m] w (.bool true) := by
  have q1 := S.bt
  have q2 := S.te
  have q3 := S.el
  have q4 := S.mem.len
  refine loamlaw15_Same_of ?_
  unfold loamlaw15_Same
  have ks := fun i => S.blk.cell (i := i)
  simp (disch := (first | omega | decide | (simp only [World.size_alloc, World.size_setCell, World.size_drew, size_sets, List.mem_cons, List.not_mem_nil, or_false, not_false_eq_true] <;> omega) | fail)) only [↓rsSpcK_3, rsSpcK_1, Option.isNone_some, Option.isNone_none, tick_eq, tickV_eq, ne_eq, Int.reduceAdd, Int.reduceSub, Int.reduceMul, Int.reduceEq, Int.reduceLT, Int.reduceLE, Int.reduceToNat, Nat.reduceMul, Nat.reduceAdd, Nat.reduceSub, List.nil_append, List.cons_append, List.getElem?_toArray, List.getElem?_cons_zero, List.getElem?_cons_succ, List.setIfInBounds_toArray, List.set_cons_zero, List.set_cons_succ, Option.map_some, List.not_mem_nil, ←decide_not, ks]
  refine mem_Mem_Words_call (Yld.mono (Words_spec S.mem) ?_)
  rintro u w1 ⟨F1, aw, cw, rfl, hcw, hnw, O1, U1⟩
  have ks1 := fun i => (S.ext0 F1).blk.cell (i := i)
  have kr1 := fun i => (R.ext0 F1).blk.cell (i := i)
  simp (disch := (first | omega | decide | (simp only [World.size_alloc, World.size_setCell, World.size_drew, size_sets, List.mem_cons, List.not_mem_nil, or_false, not_false_eq_true] <;> omega) | fail)) only [↓rsSpcK_3, rsSpcK_1, Option.isNone_some, Option.isNone_none, tick_eq, tickV_eq, ne_eq, Int.reduceAdd, Int.reduceSub, Int.reduceMul, Int.reduceEq, Int.reduceLT, Int.reduceLE, Int.reduceToNat, Nat.reduceMul, Nat.reduceAdd, Nat.reduceSub, List.nil_append, List.cons_append, List.getElem?_toArray, List.getElem?_cons_zero, List.getElem?_cons_succ, List.setIfInBounds_toArray, List.set_cons_zero, List.set_cons_succ, Option.map_some, List.not_mem_nil, ←decide_not, ks, ks1, kr1]
  refine xLoop_n ws.length (fun j => [i64 (j : Int)]) (fun _ w' => Ext [] w1 w') rfl (by (repeat (first | with_reducible exact Ext.refl _ _ | with_reducible assumption | with_reducible refine Ext.alloc' ?_ _ | with_reducible refine Ext.drew' ?_ | with_reducible refine Ext.set' ?_ ?_ | exact .inr (by first | omega | (simp only [World.size_alloc, World.size_drew, World.size_setCell] <;> omega)) | refine Ext.trans ?_ (by with_reducible assumption)))) ?_ ?_
  · intro j hj u v1 hu F nxt hnx
    simp only [List.map_cons, List.map_nil, List.cons.injEq, and_true] at hu
    rw [hu]
    obtain ⟨b1, o1, rfl, z1, k1⟩ := (O1.row.ext0 F).at (i := j) (by simpa using hj)
    obtain ⟨b2, o2, hr, z2, k2⟩ := ((R.ext0 F1).ext0 F).row.at (i := j) (by simpa using hj)
    simp only [List.getElem_map] at k1 k2
    have kr := fun i => ((R.ext0 F1).ext0 F).blk.cell (i := i)
    unfold loamlaw15_Same_l1
    simp (disch := (first | omega | decide | (simp only [World.size_alloc, World.size_setCell, World.size_drew, size_sets, List.mem_cons, List.not_mem_nil, or_false, not_false_eq_true] <;> omega) | fail)) only [↓rsSpcK_3, rsSpcK_1, Option.isNone_some, Option.isNone_none, tick_eq, tickV_eq, ne_eq, Int.reduceAdd, Int.reduceSub, Int.reduceMul, Int.reduceEq, Int.reduceLT, Int.reduceLE, Int.reduceToNat, Nat.reduceMul, Nat.reduceAdd, Nat.reduceSub, List.nil_append, List.cons_append, List.getElem?_toArray, List.getElem?_cons_zero, List.getElem?_cons_succ, List.setIfInBounds_toArray, List.set_cons_zero, List.set_cons_succ, Option.map_some, List.not_mem_nil, ←decide_not, ks, ks1, kr1, k1, k2, kr, hr]
    exact hnx _ (F.trans (Ext.drew _ _))
  · intro u v1 hu F nxt
    simp only [List.map_cons, List.map_nil, List.cons.injEq, and_true] at hu
    rw [hu]
    have Sv := (S.ext0 F1).ext0 F
    have Rv := (R.ext0 F1).ext0 F
    have kr := fun i => Rv.blk.cell (i := i)
    unfold loamlaw15_Same_l1
    simp (disch := (first | omega | decide | (simp only [World.size_alloc, World.size_setCell, World.size_drew, size_sets, List.mem_cons, List.not_mem_nil, or_false, not_false_eq_true] <;> omega) | fail)) only [↓rsSpcK_3, rsSpcK_1, Option.isNone_some, Option.isNone_none, tick_eq, tickV_eq, ne_eq, Int.reduceAdd, Int.reduceSub, Int.reduceMul, Int.reduceEq, Int.reduceLT, Int.reduceLE, Int.reduceToNat, Nat.reduceMul, Nat.reduceAdd, Nat.reduceSub, List.nil_append, List.cons_append, List.getElem?_toArray, List.getElem?_cons_zero, List.getElem?_cons_succ, List.setIfInBounds_toArray, List.set_cons_zero, List.set_cons_succ, Option.map_some, List.not_mem_nil, ←decide_not, ks, ks1, kr1, kr]
    refine space_Space_Used_call (Gives.to (Used_spec (Sv.ext0 (Ext.drew [] v1))) fun w2 F2d => ?_)
    have F2 := (Ext.drew [] _).trans F2d
    have kr2 := fun i => (Rv.ext0 F2).blk.cell (i := i)
    simp (disch := (first | omega | decide | (simp only [World.size_alloc, World.size_setCell, World.size_drew, size_sets, List.mem_cons, List.not_mem_nil, or_false, not_false_eq_true] <;> omega) | fail)) only [↓rsSpcK_3, rsSpcK_1, Option.isNone_some, Option.isNone_none, tick_eq, tickV_eq, ne_eq, Int.reduceAdd, Int.reduceSub, Int.reduceMul, Int.reduceEq, Int.reduceLT, Int.reduceLE, Int.reduceToNat, Nat.reduceMul, Nat.reduceAdd, Nat.reduceSub, List.nil_append, List.cons_append, List.getElem?_toArray, List.getElem?_cons_zero, List.getElem?_cons_succ, List.setIfInBounds_toArray, List.set_cons_zero, List.set_cons_succ, Option.map_some, List.not_mem_nil, ←decide_not, ks, ks1, kr1, kr, kr2]
    refine space_Space_Free_call (Gives.to (Free_spec (Sv.ext0 F2)) fun w3 F3 => ?_)
    have kr3 := fun i => ((Rv.ext0 F2).ext0 F3).blk.cell (i := i)
    simp (disch := (first | omega | decide | (simp only [World.size_alloc, World.size_setCell, World.size_drew, size_sets, List.mem_cons, List.not_mem_nil, or_false, not_false_eq_true] <;> omega) | fail)) only [↓rsSpcK_3, rsSpcK_1, Option.isNone_some, Option.isNone_none, tick_eq, tickV_eq, ne_eq, Int.reduceAdd, Int.reduceSub, Int.reduceMul, Int.reduceEq, Int.reduceLT, Int.reduceLE, Int.reduceToNat, Nat.reduceMul, Nat.reduceAdd, Nat.reduceSub, List.nil_append, List.cons_append, List.getElem?_toArray, List.getElem?_cons_zero, List.getElem?_cons_succ, List.setIfInBounds_toArray, List.set_cons_zero, List.set_cons_succ, Option.map_some, List.not_mem_nil, ←decide_not, ks, ks1, kr1, kr, kr2, kr3]
    exact ⟨by trivial, F1.trans (F.trans (F2.trans F3))⟩
abbrev rsSpcK_4 := (And.intro @xBox_r (And.intro @loadK_some (And.intro @loadsK_s (And.intro @loadsK_n (And.intro @loadsR_s (And.intro @loadsR_n (And.intro @storesK_s (And.intro @storesK_n (And.intro @xPick_t (And.intro @xPick_f (And.intro @xGuard_tt (And.intro @xGuard_ff (And.intro @xGuard_tf (And.intro @xGuard_ft (And.intro @xGuard_u 
  (And.intro @xNil_r (And.intro @xIf_t (And.intro @xBin_add' (And.intro @xBin_sub' (And.intro @xBin_mul' (And.intro @xBin_quo' (And.intro @xBin_rem' (And.intro @xIf_f (And.intro @xIf_tt (And.intro @xEx0 (And.intro @xEx1 (And.intro @xEx2 (And.intro @xEx3 (And.intro @xBin_eqs (And.intro @xBin_nes (And.intro @xUn_not (And.intro @xu8_add (And.intro @xu8_eql 
  (And.intro @xu8_neq (And.intro @xu16_add (And.intro @xu16_eql (And.intro @xu16_neq (And.intro @xu32_add (And.intro @xu32_eql (And.intro @xu32_neq (And.intro @xu64_add (And.intro @xu64_eql (And.intro @xu64_neq (And.intro @xi64_eql (And.intro @xi64_neq (And.intro @xi64_neg (And.intro @xMakeFunc_r (And.intro @xSq_r (And.intro @xPur_s (And.intro @xRd_s 
  (And.intro @xRe_s (And.intro @xDet_s (And.intro @xDet_ld (And.intro @xDet_ld2 (And.intro @xDet_ld3 (And.intro @xDet_ld4 (And.intro @xGuard_tt (And.intro @ld_3 (And.intro @ld_81 (And.intro @fa_80_1 (And.intro @fa_98_0 (And.intro @fa_98_2 (And.intro @al_80 (And.intro @st_80 (And.intro @bd_80_0 (And.intro @bd_80_0_1 (And.intro @bd_80_1 (And.intro @bd_80_2_3 
  (And.intro @bd_80 (And.intro @ia_89 (And.intro @ln_89 (And.intro @nq_81 (And.intro @nq_84 (And.intro @nn_81 @nn_84))))))))))))))))))))))))))))))))))))))))))))))))))))))))))))))))))))))))))
theorem known15_spec (w : World) : Gives Try.prog n_loamlaw15_known #[] w (.bool true) := by
  refine loamlaw15_known_of ?_
  unfold loamlaw15_known
  refine mem_New_call (Yld.mono (New_spec 20 w (by decide)) ?_)
  rintro u w1 ⟨F1, g, a, c, rfl, M⟩
  simp (disch := (first | omega | decide | (simp only [World.size_alloc, World.size_setCell, World.size_drew, size_sets, List.mem_cons, List.not_mem_nil, or_false, not_false_eq_true] <;> omega) | fail)) only [↓rsSpcK_4, rsSpcK_1, Option.isNone_some, Option.isNone_none, tick_eq, tickV_eq, ne_eq, Int.reduceAdd, Int.reduceSub, Int.reduceMul, Int.reduceEq, Int.reduceLT, Int.reduceLE, Int.reduceToNat, Nat.reduceMul, Nat.reduceAdd, Nat.reduceSub, List.nil_append, List.cons_append, List.getElem?_toArray, List.getElem?_cons_zero, List.getElem?_cons_succ, List.setIfInBounds_toArray, List.set_cons_zero, List.set_cons_succ, Option.map_some, List.not_mem_nil, ←decide_not, eq_self]
  refine space_New_call (Yld.mono (SNew_ok (b := 2) (e := 12) M (by decide) (by simp)) ?_)
  rintro u w2 ⟨F2, s, rfl, z1, z2, S2⟩
  have k2 := fun i => S2.blk.cell (i := i)
  simp (disch := (first | omega | decide | (simp only [World.size_alloc, World.size_setCell, World.size_drew, size_sets, List.mem_cons, List.not_mem_nil, or_false, not_false_eq_true] <;> omega) | fail)) only [↓rsSpcK_4, rsSpcK_1, Option.isNone_some, Option.isNone_none, tick_eq, tickV_eq, ne_eq, Int.reduceAdd, Int.reduceSub, Int.reduceMul, Int.reduceEq, Int.reduceLT, Int.reduceLE, Int.reduceToNat, Nat.reduceMul, Nat.reduceAdd, Nat.reduceSub, List.nil_append, List.cons_append, List.getElem?_toArray, List.getElem?_cons_zero, List.getElem?_cons_succ, List.setIfInBounds_toArray, List.set_cons_zero, List.set_cons_succ, Option.map_some, List.not_mem_nil, ←decide_not, k2]
  have n2 : (List.replicate 20 c0) ≠ [] := by decide
  have zs := F1.size
  have ub : ∀ x ∈ blkOf a, w.heap.size ≤ x := M.up
  refine space_Space_Alloc_call (Yld.mono (SAlloc_ok (p := 2) (bb := 0) (n := 3) S2 (by decide) (by decide) (by decide)) ?_)
  rintro u w3 ⟨hu, F3, S3⟩
  have hu3 : u = .tuple #[i64 2, i64 0] := hu
  subst hu3
  have S3' : SpIs w3 w.heap.size s g a c (alW (List.replicate 20 c0) 2 (packW 2 0 false 0) 3) 2 5 12 := S3
  simp (disch := (first | omega | decide | (simp only [World.size_alloc, World.size_setCell, World.size_drew, size_sets, List.mem_cons, List.not_mem_nil, or_false, not_false_eq_true] <;> omega) | fail)) only [↓rsSpcK_4, rsSpcK_1, Option.isNone_some, Option.isNone_none, tick_eq, tickV_eq, ne_eq, Int.reduceAdd, Int.reduceSub, Int.reduceMul, Int.reduceEq, Int.reduceLT, Int.reduceLE, Int.reduceToNat, Nat.reduceMul, Nat.reduceAdd, Nat.reduceSub, List.nil_append, List.cons_append, List.getElem?_toArray, List.getElem?_cons_zero, List.getElem?_cons_succ, List.setIfInBounds_toArray, List.set_cons_zero, List.set_cons_succ, Option.map_some, List.not_mem_nil, ←decide_not, k2]
  refine space_Space_Alloc_call (Yld.mono (SAlloc_ok (p := 0) (bb := 9) (n := 3) S3' (by decide) (by decide) (by decide)) ?_)
  rintro u w4 ⟨hu, F4, S4⟩
  have hu4 : u = .tuple #[i64 5, i64 0] := hu
  subst hu4
  have S4' : SpIs w4 w.heap.size s g a c (alW (alW (List.replicate 20 c0) 2 (packW 2 0 false 0) 3) 5 (packW 0 9 false 0) 3) 2 8 12 := S4
  have hob : objs (alW (alW (List.replicate 20 c0) 2 (packW 2 0 false 0) 3) 5 (packW 0 9 false 0) 3) 2 8 = some [2, 5] :=
    (objs_some (by decide)).2 (Objs.alloc (t := 5) (n := 3) (l := [2]) (Objs.alloc (t := 2) (n := 3) (l := []) .nil (by simp) (by decide) (by decide)) (by simp) (by decide) (by decide))
  have e5 : wat (alW (alW (List.replicate 20 c0) 2 (packW 2 0 false 0) 3) 5 (packW 0 9 false 0) 3) 5 = packW 0 9 false 0 := by rw [wat_alW (by simp), if_pos rfl]
  have e2 : wat (alW (alW (List.replicate 20 c0) 2 (packW 2 0 false 0) 3) 5 (packW 0 9 false 0) 3) 2 = packW 2 0 false 0 := by
    rw [wat_alW (by simp), if_neg (by decide), if_neg (by decide), wat_alW (by simp), if_pos rfl]
  have hlen : (alW (alW (List.replicate 20 c0) 2 (packW 2 0 false 0) 3) 5 (packW 0 9 false 0) 3).length = 20 := by simp
  generalize alW (alW (List.replicate 20 c0) 2 (packW 2 0 false 0) 3) 5 (packW 0 9 false 0) 3 = W at *
  simp (disch := (first | omega | decide | (simp only [World.size_alloc, World.size_setCell, World.size_drew, size_sets, List.mem_cons, List.not_mem_nil, or_false, not_false_eq_true] <;> omega) | fail)) only [↓rsSpcK_4, rsSpcK_1, Option.isNone_some, Option.isNone_none, tick_eq, tickV_eq, ne_eq, Int.reduceAdd, Int.reduceSub, Int.reduceMul, Int.reduceEq, Int.reduceLT, Int.reduceLE, Int.reduceToNat, Nat.reduceMul, Nat.reduceAdd, Nat.reduceSub, List.nil_append, List.cons_append, List.getElem?_toArray, List.getElem?_cons_zero, List.getElem?_cons_succ, List.setIfInBounds_toArray, List.set_cons_zero, List.set_cons_succ, Option.map_some, List.not_mem_nil, ←decide_not, k2]
  refine space_Space_Alloc_call (Gives.to (SAlloc_full (p := 9) (bb := 0) S4' (by decide) (by decide)) fun w5 F5 => ?_)
  simp (disch := (first | omega | decide | (simp only [World.size_alloc, World.size_setCell, World.size_drew, size_sets, List.mem_cons, List.not_mem_nil, or_false, not_false_eq_true] <;> omega) | fail)) only [↓rsSpcK_4, rsSpcK_1, Option.isNone_some, Option.isNone_none, tick_eq, tickV_eq, ne_eq, Int.reduceAdd, Int.reduceSub, Int.reduceMul, Int.reduceEq, Int.reduceLT, Int.reduceLE, Int.reduceToNat, Nat.reduceMul, Nat.reduceAdd, Nat.reduceSub, List.nil_append, List.cons_append, List.getElem?_toArray, List.getElem?_cons_zero, List.getElem?_cons_succ, List.setIfInBounds_toArray, List.set_cons_zero, List.set_cons_succ, Option.map_some, List.not_mem_nil, ←decide_not, k2]
  refine space_Space_Objects_call (Yld.mono (SObjects_spec (S4'.ext0 F5)) ?_)
  intro u w6 hu
  rw [hob] at hu
  obtain ⟨v, rfl, F6, a6, c6, rfl, hc6, R6⟩ := hu
  have S6 := (S4'.ext0 F5).ext0 F6
  simp (disch := (first | omega | decide | (simp only [World.size_alloc, World.size_setCell, World.size_drew, size_sets, List.mem_cons, List.not_mem_nil, or_false, not_false_eq_true] <;> omega) | fail)) only [↓rsSpcK_4, rsSpcK_1, Option.isNone_some, Option.isNone_none, tick_eq, tickV_eq, ne_eq, Int.reduceAdd, Int.reduceSub, Int.reduceMul, Int.reduceEq, Int.reduceLT, Int.reduceLE, Int.reduceToNat, Nat.reduceMul, Nat.reduceAdd, Nat.reduceSub, List.nil_append, List.cons_append, List.getElem?_toArray, List.getElem?_cons_zero, List.getElem?_cons_succ, List.setIfInBounds_toArray, List.set_cons_zero, List.set_cons_succ, Option.map_some, List.not_mem_nil, ←decide_not, k2]
  have hh := SHead_in (o := 5) S6 (by decide) (by decide)
  have x1 : vP (packW 0 9 false 0) = 0 := by decide
  have x2 : vB (packW 0 9 false 0) = 9 := by decide
  have x3 : vM (packW 0 9 false 0) = false := by decide
  have x4 : vT (packW 0 9 false 0) = 0 := by decide
  have x5 : unErr (packW 0 9 false 0) = 0 := by decide
  rw [e5, x1, x2, x3, x4, x5] at hh
  refine space_Space_Head_call (Gives.to hh fun w7 F7 => ?_)
  have S7 := S6.ext0 F7
  have k7 := fun i => S7.blk.cell (i := i)
  have z7 := S7.blk.lt
  simp (disch := (first | omega | decide | (simp only [World.size_alloc, World.size_setCell, World.size_drew, size_sets, List.mem_cons, List.not_mem_nil, or_false, not_false_eq_true] <;> omega) | fail)) only [↓rsSpcK_4, rsSpcK_1, Option.isNone_some, Option.isNone_none, tick_eq, tickV_eq, ne_eq, Int.reduceAdd, Int.reduceSub, Int.reduceMul, Int.reduceEq, Int.reduceLT, Int.reduceLE, Int.reduceToNat, Nat.reduceMul, Nat.reduceAdd, Nat.reduceSub, List.nil_append, List.cons_append, List.getElem?_toArray, List.getElem?_cons_zero, List.getElem?_cons_succ, List.setIfInBounds_toArray, List.set_cons_zero, List.set_cons_succ, Option.map_some, List.not_mem_nil, ←decide_not, k2, k7]
  have B : Blk (w7.alloc (.cells #[i64 0, i64 9, .bool false, i64 0] 80)) w7.heap.size 80 [i64 0, i64 9, .bool false, i64 0] := Blk.at rfl
  have X : Ext [] w7 (w7.alloc (.cells #[i64 0, i64 9, .bool false, i64 0] 80)) := Ext.alloc _ _ _
  generalize w7.alloc (.cells #[i64 0, i64 9, .bool false, i64 0] 80) = y at *
  have hg := Get_ok 2 (S7.ext0 X).mem (by rw [hlen]; decide)
  have e2' : W.getD 2 c0 = BitVec.ofNat 64 9223372036854775812 := by
    show wat W 2 = _
    rw [e2]
    decide
  rw [e2'] at hg
  refine mem_Mem_Get_call (Gives.to hg fun w8 F8 => ?_)
  have S8 := (S7.ext0 X).ext0 F8
  have B8 := B.ext F8 (by simp)
  have R8 := R6.ext0 (F7.trans (X.trans F8))
  obtain ⟨b1, o1, rfl, zz, c1⟩ := R8.at (i := 1) (by decide)
  have c1' : w8.cell? ⟨b1, o1 + 1, none⟩ = some (i64 5) := c1
  have k8 := fun i => B8.cell (i := i)
  simp (disch := (first | omega | decide | (simp only [World.size_alloc, World.size_setCell, World.size_drew, size_sets, List.mem_cons, List.not_mem_nil, or_false, not_false_eq_true] <;> omega) | fail)) only [↓rsSpcK_4, rsSpcK_1, Option.isNone_some, Option.isNone_none, tick_eq, tickV_eq, ne_eq, Int.reduceAdd, Int.reduceSub, Int.reduceMul, Int.reduceEq, Int.reduceLT, Int.reduceLE, Int.reduceToNat, Nat.reduceMul, Nat.reduceAdd, Nat.reduceSub, List.nil_append, List.cons_append, List.getElem?_toArray, List.getElem?_cons_zero, List.getElem?_cons_succ, List.setIfInBounds_toArray, List.set_cons_zero, List.set_cons_succ, Option.map_some, List.not_mem_nil, ←decide_not, k2, k7, c1', k8]
  refine space_Space_Used_call (Gives.to (Used_spec S8) fun w9 F9 => ?_)
  simp (disch := (first | omega | decide | (simp only [World.size_alloc, World.size_setCell, World.size_drew, size_sets, List.mem_cons, List.not_mem_nil, or_false, not_false_eq_true] <;> omega) | fail)) only [↓rsSpcK_4, rsSpcK_1, Option.isNone_some, Option.isNone_none, tick_eq, tickV_eq, ne_eq, Int.reduceAdd, Int.reduceSub, Int.reduceMul, Int.reduceEq, Int.reduceLT, Int.reduceLE, Int.reduceToNat, Nat.reduceMul, Nat.reduceAdd, Nat.reduceSub, List.nil_append, List.cons_append, List.getElem?_toArray, List.getElem?_cons_zero, List.getElem?_cons_succ, List.setIfInBounds_toArray, List.set_cons_zero, List.set_cons_succ, Option.map_some, List.not_mem_nil, ←decide_not, k2, k7, c1', k8]
  refine space_Space_Free_call (Gives.to (Free_spec (S8.ext0 F9)) fun w10 F10 => ?_)
  have k10 := fun i => ((S8.ext0 F9).ext0 F10).blk.cell (i := i)
  simp (disch := (first | omega | decide | (simp only [World.size_alloc, World.size_setCell, World.size_drew, size_sets, List.mem_cons, List.not_mem_nil, or_false, not_false_eq_true] <;> omega) | fail)) only [↓rsSpcK_4, rsSpcK_1, Option.isNone_some, Option.isNone_none, tick_eq, tickV_eq, ne_eq, Int.reduceAdd, Int.reduceSub, Int.reduceMul, Int.reduceEq, Int.reduceLT, Int.reduceLE, Int.reduceToNat, Nat.reduceMul, Nat.reduceAdd, Nat.reduceSub, List.nil_append, List.cons_append, List.getElem?_toArray, List.getElem?_cons_zero, List.getElem?_cons_succ, List.setIfInBounds_toArray, List.set_cons_zero, List.set_cons_succ, Option.map_some, List.not_mem_nil, ←decide_not, k2, k7, c1', k8, k10]
  have z0 := z1
  have F34 : Ext [] w w4 := by
    have q1 : Ext [] w w2 := F1.trans F2
    have q3 : Ext [] w w3 := q1.new F3 (fun x hx => by
      rcases List.mem_cons.1 hx with rfl | hx
      · omega
      · exact ub x hx)
    exact q3.new F4 (fun x hx => by
      rcases List.mem_cons.1 hx with rfl | hx
      · omega
      · exact ub x hx)
  exact ⟨by trivial, F34.trans (F5.trans (F6.trans (F7.trans (X.trans (F8.trans (F9.trans F10))))))⟩
end Go.Proofs.Ytlllabaipfmnjaa
