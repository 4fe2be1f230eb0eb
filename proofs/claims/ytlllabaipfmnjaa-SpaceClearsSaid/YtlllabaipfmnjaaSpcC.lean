/- The statement on a new object's words, walked (sq). -/
import Derived.Test.YtlllabaipfmnjaaSpcK
set_option linter.unusedVariables false
set_option linter.unusedSimpArgs false
set_option maxHeartbeats 4000000
namespace Go.Proofs.Ytlllabaipfmnjaa
open Go.Sh Go.RowKit Go.ChangeShapes Go.WideShapes Go.ChangeAt

/-! a new object is nought behind its header -/
theorem fill_set {f : BitVec 64} {j n : Nat} (h : j < n) : (List.replicate j f ++ List.replicate (n - j) c0).set j f = List.replicate (j + 1) f ++ List.replicate (n - (j + 1)) c0 := by
  apply List.ext_getElem?
  intro i
  simp only [List.getElem?_set, List.getElem?_append, List.getElem?_replicate, List.length_append, List.length_replicate]
  by_cases h1 : j = i
  · subst h1
    rw [if_pos rfl, if_pos (by omega), if_pos (by omega), if_pos (by omega)]
  · rw [if_neg h1]
    by_cases h2 : i < j
    · simp [h2, show i < j + 1 by omega]
    · by_cases h3 : i < n
      · simp [h2, show ¬ i < j + 1 by omega, show i - j < n - j by omega, show i - (j + 1) < n - (j + 1) by omega]
      · simp [h2, show ¬ i < j + 1 by omega, show ¬ i - j < n - j by omega, show ¬ i - (j + 1) < n - (j + 1) by omega]
abbrev rsSpcC_0 := (And.intro @xBox_r (And.intro @loadK_some (And.intro @loadsK_s (And.intro @loadsK_n (And.intro @loadsR_s (And.intro @loadsR_n (And.intro @storesK_s (And.intro @storesK_n (And.intro @xPick_t (And.intro @xPick_f (And.intro @xGuard_tt (And.intro @xGuard_ff (And.intro @xGuard_tf (And.intro @xGuard_ft (And.intro @xGuard_u 
  (And.intro @xNil_r (And.intro @xIf_t (And.intro @xBin_add' (And.intro @xBin_sub' (And.intro @xBin_mul' (And.intro @xBin_quo' (And.intro @xBin_rem' (And.intro @xIf_f (And.intro @xIf_tt (And.intro @xEx0 (And.intro @xEx1 (And.intro @xEx2 (And.intro @xEx3 (And.intro @xBin_eqs (And.intro @xBin_nes (And.intro @xUn_not (And.intro @xu8_add (And.intro @xu8_com 
  (And.intro @xu8_eql (And.intro @xu8_neq (And.intro @xu8_lss (And.intro @xu16_add (And.intro @xu16_com (And.intro @xu16_eql (And.intro @xu16_neq (And.intro @xu16_lss (And.intro @xu32_add (And.intro @xu32_com (And.intro @xu32_eql (And.intro @xu32_neq (And.intro @xu32_lss (And.intro @xu64_add (And.intro @xu64_com (And.intro @xu64_eql (And.intro @xu64_neq 
  (And.intro @xu64_lss (And.intro @xi64_lss (And.intro @xi64_eql (And.intro @xi64_neq (And.intro @xi64_neg (And.intro @xMakeFunc_r (And.intro @xSq_r (And.intro @xPur_s (And.intro @xRd_s (And.intro @xRe_s (And.intro @xDet_s (And.intro @xDet_ld (And.intro @xDet_ld2 (And.intro @xDet_ld3 (And.intro @xDet_ld4 (And.intro @xGuard_tt (And.intro @ld_4 (And.intro @ld_80 
  (And.intro @ld_81 (And.intro @fa_80_2 (And.intro @fa_98_0 (And.intro @st_29 (And.intro @ia_30 (And.intro @ln_30 @mk_30))))))))))))))))))))))))))))))))))))))))))))))))))))))))))))))))))))))))))
abbrev rsSpcC_1 := (And.intro @setCells_c (And.intro @setCells_n (And.intro @World.setCell_alloc_at (And.intro @World.setCell_alloc_past (And.intro @World.cell?_alloc_at (And.intro @World.cell?_alloc_past (And.intro @World.frozen?_alloc_at (And.intro @World.frozen?_alloc_past 
  (And.intro @World.size_alloc (And.intro @dlt_t (And.intro @dlt_f (And.intro @dle_t (And.intro @dle_f (And.intro @deq_t (And.intro @deq_f (And.intro @dne_t (And.intro @dne_f (And.intro @not_true_eq_false (And.intro @Bool.false_and (And.intro @Bool.true_and (And.intro @Bool.and_true (And.intro @Bool.and_false (And.intro @wrap_in (And.intro @Int.toNat_natCast 
  (And.intro @Nat.mul_one (And.intro @cells_int (And.intro @cells_bool (And.intro @cells_string (And.intro @cells_slice (And.intro @cells_pointer (And.intro @cells_agg (And.intro @one_int (And.intro @one_bool (And.intro @one_string (And.intro @one_slice (And.intro @one_pointer (And.intro @beq_tt (And.intro @beq_ff (And.intro @beq_tf 
  (And.intro @beq_ft (And.intro @cell_sets_b (And.intro @frozen_sets (And.intro @size_sets (And.intro @World.size_drew (And.intro @Nat.zero_add (And.intro @Nat.add_zero (And.intro @cell_drew (And.intro @frozen_drew (And.intro @cell_set_eq (And.intro @cell_set_o (And.intro @cell_set_b (And.intro @World.frozen?_setCell 
  (And.intro @decide_true (And.intro @decide_false (And.intro @not_false_eq_true (And.intro @Bool.not_true @Bool.not_false))))))))))))))))))))))))))))))))))))))))))))))))))))))))
theorem SpaceClears_spec (f0 : Int) (p bb : Int) (m : Bool) (tt : Int) (hf : 0 ≤ f0 ∧ f0 ≤ 18446744073709551615) (w : World) : Gives Try.prog n_loamlaw15_SpaceClears #[.int .u64 f0, hd p bb m tt] w (.bool true) := by
  rw [u64_of hf.1 hf.2]
  generalize BitVec.ofInt 64 f0 = f
  refine loamlaw15_SpaceClears_of ?_
  unfold loamlaw15_SpaceClears
  simp (disch := (first | omega | decide | (simp only [World.size_alloc, World.size_setCell, World.size_drew, size_sets, List.mem_cons, List.not_mem_nil, or_false, not_false_eq_true] <;> omega) | fail)) only [↓rsSpcC_0, rsSpcC_1, Option.isNone_some, Option.isNone_none, tick_eq, tickV_eq, ne_eq, Int.reduceAdd, Int.reduceSub, Int.reduceMul, Int.reduceEq, Int.reduceLT, Int.reduceLE, Int.reduceToNat, Nat.reduceMul, Nat.reduceAdd, Nat.reduceSub, List.nil_append, List.cons_append, List.getElem?_toArray, List.getElem?_cons_zero, List.getElem?_cons_succ, List.setIfInBounds_toArray, List.set_cons_zero, List.set_cons_succ, Option.map_some, List.not_mem_nil, ←decide_not, eq_self]
  have B : Blk (w.alloc (.cells #[i64 p, i64 bb, .bool m, i64 tt] 80)) w.heap.size 80 [i64 p, i64 bb, .bool m, i64 tt] := Blk.at rfl
  have X : Ext [] w (w.alloc (.cells #[i64 p, i64 bb, .bool m, i64 tt] 80)) := Ext.alloc _ _ _
  generalize w.alloc (.cells #[i64 p, i64 bb, .bool m, i64 tt] 80) = y at *
  refine loamlaw15_known_call (Gives.to (known15_spec y) fun w1 F1 => ?_)
  have B1 := B.ext F1 (by simp)
  have X1 := X.trans F1
  simp (disch := (first | omega | decide | (simp only [World.size_alloc, World.size_setCell, World.size_drew, size_sets, List.mem_cons, List.not_mem_nil, or_false, not_false_eq_true] <;> omega) | fail)) only [↓rsSpcC_0, rsSpcC_1, Option.isNone_some, Option.isNone_none, tick_eq, tickV_eq, ne_eq, Int.reduceAdd, Int.reduceSub, Int.reduceMul, Int.reduceEq, Int.reduceLT, Int.reduceLE, Int.reduceToNat, Nat.reduceMul, Nat.reduceAdd, Nat.reduceSub, List.nil_append, List.cons_append, List.getElem?_toArray, List.getElem?_cons_zero, List.getElem?_cons_succ, List.setIfInBounds_toArray, List.set_cons_zero, List.set_cons_succ, Option.map_some, List.not_mem_nil, ←decide_not, eq_self]
  have G1 : Blk (w1.alloc (.cells (List.replicate 300 (c64 0)).toArray 29)) w1.heap.size 29 (wrds (List.replicate 300 c0)) := by
    have := Blk.new (e := 29) w1 (List.replicate 300 (c64 0))
    rw [show wrds (List.replicate 300 c0) = List.replicate 300 (c64 0) from List.map_replicate]
    exact this
  have X2 : Ext [] w1 (w1.alloc (.cells (List.replicate 300 (c64 0)).toArray 29)) := Ext.alloc _ _ _
  have B2 := B1.ext X2 (by simp)
  have z1 := B1.lt
  generalize w1.alloc (.cells (List.replicate 300 (c64 0)).toArray 29) = y2 at *
  have X3 := X1.trans X2
  have zz := X1.size
  refine xLoop_n 300 (fun j => [i64 (j : Int)]) (fun j w' => Ext [] w w' ∧ Blk w' w1.heap.size 29 (wrds (List.replicate j f ++ List.replicate (300 - j) c0)) ∧ Blk w' w.heap.size 80 [i64 p, i64 bb, .bool m, i64 tt]) rfl ⟨X3, (by show Blk _ _ _ (wrds (List.replicate 0 f ++ List.replicate (300 - 0) c0)); rw [List.replicate_zero, List.nil_append, Nat.sub_zero]; exact G1), B2⟩ ?_ ?_
  · intro j hj u v1 hu ⟨F, G, H⟩ nxt hnx
    simp only [List.map_cons, List.map_nil, List.cons.injEq, and_true] at hu
    rw [hu]
    have c5 : v1.cell? ⟨w1.heap.size, j, none⟩ = some (u64 (wat (List.replicate j f ++ List.replicate (300 - j) c0) j)) := by
      rw [G.cell]
      unfold wat wrds
      rw [List.getElem?_map, List.getD_eq_getElem?_getD]
      have : j < (List.replicate j f ++ List.replicate (300 - j) c0).length := by simp; omega
      rw [List.getElem?_eq_getElem this]
      rfl
    have f5 : v1.frozen? ⟨w1.heap.size, j, none⟩ = false := G.frozen
    unfold loamlaw15_SpaceClears_l1
    simp (disch := (first | omega | decide | (simp only [World.size_alloc, World.size_setCell, World.size_drew, size_sets, List.mem_cons, List.not_mem_nil, or_false, not_false_eq_true] <;> omega) | fail)) only [↓rsSpcC_0, rsSpcC_1, Option.isNone_some, Option.isNone_none, tick_eq, tickV_eq, ne_eq, Int.reduceAdd, Int.reduceSub, Int.reduceMul, Int.reduceEq, Int.reduceLT, Int.reduceLE, Int.reduceToNat, Nat.reduceMul, Nat.reduceAdd, Nat.reduceSub, List.nil_append, List.cons_append, List.getElem?_toArray, List.getElem?_cons_zero, List.getElem?_cons_succ, List.setIfInBounds_toArray, List.set_cons_zero, List.set_cons_succ, Option.map_some, List.not_mem_nil, ←decide_not, c5, f5]
    have G6 := G.set (i := j) (v := u64 f)
    have e6 : (wrds (List.replicate j f ++ List.replicate (300 - j) c0)).set j (u64 f) = wrds (List.replicate (j + 1) f ++ List.replicate (300 - (j + 1)) c0) := by
      rw [← fill_set hj]
      simp [wrds, List.map_set]
    rw [e6] at G6
    exact hnx _ ⟨F.set' (.inr (by omega)), G6, H.ext (Ext.set (w := v1) (b := w1.heap.size)) (by simp; omega)⟩
  · intro u v1 hu ⟨F, G, H⟩ nxt
    simp only [List.map_cons, List.map_nil, List.cons.injEq, and_true] at hu
    rw [hu]
    unfold loamlaw15_SpaceClears_l1
    simp (disch := (first | omega | decide | (simp only [World.size_alloc, World.size_setCell, World.size_drew, size_sets, List.mem_cons, List.not_mem_nil, or_false, not_false_eq_true] <;> omega) | fail)) only [↓rsSpcC_0, rsSpcC_1, Option.isNone_some, Option.isNone_none, tick_eq, tickV_eq, ne_eq, Int.reduceAdd, Int.reduceSub, Int.reduceMul, Int.reduceEq, Int.reduceLT, Int.reduceLE, Int.reduceToNat, Nat.reduceMul, Nat.reduceAdd, Nat.reduceSub, List.nil_append, List.cons_append, List.getElem?_toArray, List.getElem?_cons_zero, List.getElem?_cons_succ, List.setIfInBounds_toArray, List.set_cons_zero, List.set_cons_succ, Option.map_some, List.not_mem_nil, ←decide_not, eq_self]
    have hof := Of_spec (List.replicate 300 f) (some ⟨w1.heap.size, 0, none⟩) 300 v1 (by rw [List.length_replicate]; decide) (by have := G.row; rw [Nat.sub_self, List.replicate_zero, List.append_nil] at this; exact this) (fun h => by cases h)
    rw [List.length_replicate] at hof
    refine mem_Of_call (Yld.mono hof ?_)
    rintro u w4 ⟨F4, g, a, c, rfl, M⟩
    simp (disch := (first | omega | decide | (simp only [World.size_alloc, World.size_setCell, World.size_drew, size_sets, List.mem_cons, List.not_mem_nil, or_false, not_false_eq_true] <;> omega) | fail)) only [↓rsSpcC_0, rsSpcC_1, Option.isNone_some, Option.isNone_none, tick_eq, tickV_eq, ne_eq, Int.reduceAdd, Int.reduceSub, Int.reduceMul, Int.reduceEq, Int.reduceLT, Int.reduceLE, Int.reduceToNat, Nat.reduceMul, Nat.reduceAdd, Nat.reduceSub, List.nil_append, List.cons_append, List.getElem?_toArray, List.getElem?_cons_zero, List.getElem?_cons_succ, List.setIfInBounds_toArray, List.set_cons_zero, List.set_cons_succ, Option.map_some, List.not_mem_nil, ←decide_not, eq_self]
    refine space_New_call (Yld.mono (SNew_ok (b := 0) (e := 300) M (by decide) (by simp only [List.length_replicate, Nat.le_refl])) ?_)
    rintro u w5 ⟨F5, s, rfl, z5, z5', S5⟩
    have H5 := (H.ext F4 (by simp)).ext F5 (by simp)
    have k5 := fun i => H5.cell (i := i)
    have X5 : Ext [] w w5 := F.trans (F4.trans F5)
    simp (disch := (first | omega | decide | (simp only [World.size_alloc, World.size_setCell, World.size_drew, size_sets, List.mem_cons, List.not_mem_nil, or_false, not_false_eq_true] <;> omega) | fail)) only [↓rsSpcC_0, rsSpcC_1, Option.isNone_some, Option.isNone_none, tick_eq, tickV_eq, ne_eq, Int.reduceAdd, Int.reduceSub, Int.reduceMul, Int.reduceEq, Int.reduceLT, Int.reduceLE, Int.reduceToNat, Nat.reduceMul, Nat.reduceAdd, Nat.reduceSub, List.nil_append, List.cons_append, List.getElem?_toArray, List.getElem?_cons_zero, List.getElem?_cons_succ, List.setIfInBounds_toArray, List.set_cons_zero, List.set_cons_succ, Option.map_some, List.not_mem_nil, ←decide_not, k5]
    have z4 := F4.size
    have hlt := H.lt
    have zv := F.size
    by_cases hr : rightP p bb m tt ∧ m = false
    rotate_left
    · refine space_Space_Alloc_call (Gives.to (SAlloc_arg hr) fun w6 F6 => ?_)
      have H6 := H5.ext F6 (by simp)
      have k6 := fun i => H6.cell (i := i)
      simp (disch := (first | omega | decide | (simp only [World.size_alloc, World.size_setCell, World.size_drew, size_sets, List.mem_cons, List.not_mem_nil, or_false, not_false_eq_true] <;> omega) | fail)) only [↓rsSpcC_0, rsSpcC_1, Option.isNone_some, Option.isNone_none, tick_eq, tickV_eq, ne_eq, Int.reduceAdd, Int.reduceSub, Int.reduceMul, Int.reduceEq, Int.reduceLT, Int.reduceLE, Int.reduceToNat, Nat.reduceMul, Nat.reduceAdd, Nat.reduceSub, List.nil_append, List.cons_append, List.getElem?_toArray, List.getElem?_cons_zero, List.getElem?_cons_succ, List.setIfInBounds_toArray, List.set_cons_zero, List.set_cons_succ, Option.map_some, List.not_mem_nil, ←decide_not, k5, k6]
      refine head_Right_call (Gives.to (Right_spec p bb m tt w6) fun w7 F7 => ?_)
      have H7 := H6.ext F7 (by simp)
      have k7 := fun i => H7.cell (i := i)
      by_cases hr1 : rightP p bb m tt
      · have hm : m = true := by
          cases m
          · exact absurd ⟨hr1, rfl⟩ hr
          · rfl
        subst hm
        have hv : rightV p bb true tt = true := decide_eq_true hr1
        simp (disch := (first | omega | decide | (simp only [World.size_alloc, World.size_setCell, World.size_drew, size_sets, List.mem_cons, List.not_mem_nil, or_false, not_false_eq_true] <;> omega) | fail)) only [↓rsSpcC_0, rsSpcC_1, Option.isNone_some, Option.isNone_none, tick_eq, tickV_eq, ne_eq, Int.reduceAdd, Int.reduceSub, Int.reduceMul, Int.reduceEq, Int.reduceLT, Int.reduceLE, Int.reduceToNat, Nat.reduceMul, Nat.reduceAdd, Nat.reduceSub, List.nil_append, List.cons_append, List.getElem?_toArray, List.getElem?_cons_zero, List.getElem?_cons_succ, List.setIfInBounds_toArray, List.set_cons_zero, List.set_cons_succ, Option.map_some, List.not_mem_nil, ←decide_not, k5, k6, hv, k7]
        refine space_Space_Used_call (Gives.to (Used_spec ((S5.ext0 F6).ext0 F7)) fun w8 F8 => ?_)
        simp (disch := (first | omega | decide | (simp only [World.size_alloc, World.size_setCell, World.size_drew, size_sets, List.mem_cons, List.not_mem_nil, or_false, not_false_eq_true] <;> omega) | fail)) only [↓rsSpcC_0, rsSpcC_1, Option.isNone_some, Option.isNone_none, tick_eq, tickV_eq, ne_eq, Int.reduceAdd, Int.reduceSub, Int.reduceMul, Int.reduceEq, Int.reduceLT, Int.reduceLE, Int.reduceToNat, Nat.reduceMul, Nat.reduceAdd, Nat.reduceSub, List.nil_append, List.cons_append, List.getElem?_toArray, List.getElem?_cons_zero, List.getElem?_cons_succ, List.setIfInBounds_toArray, List.set_cons_zero, List.set_cons_succ, Option.map_some, List.not_mem_nil, ←decide_not, k5, k6, hv, k7]
        exact ⟨by trivial, X5.trans (F6.trans (F7.trans F8))⟩
      · have hv : rightV p bb m tt = false := decide_eq_false hr1
        simp (disch := (first | omega | decide | (simp only [World.size_alloc, World.size_setCell, World.size_drew, size_sets, List.mem_cons, List.not_mem_nil, or_false, not_false_eq_true] <;> omega) | fail)) only [↓rsSpcC_0, rsSpcC_1, Option.isNone_some, Option.isNone_none, tick_eq, tickV_eq, ne_eq, Int.reduceAdd, Int.reduceSub, Int.reduceMul, Int.reduceEq, Int.reduceLT, Int.reduceLE, Int.reduceToNat, Nat.reduceMul, Nat.reduceAdd, Nat.reduceSub, List.nil_append, List.cons_append, List.getElem?_toArray, List.getElem?_cons_zero, List.getElem?_cons_succ, List.setIfInBounds_toArray, List.set_cons_zero, List.set_cons_succ, Option.map_some, List.not_mem_nil, ←decide_not, k5, k6, hv, k7]
        refine space_Space_Used_call (Gives.to (Used_spec ((S5.ext0 F6).ext0 F7)) fun w8 F8 => ?_)
        simp (disch := (first | omega | decide | (simp only [World.size_alloc, World.size_setCell, World.size_drew, size_sets, List.mem_cons, List.not_mem_nil, or_false, not_false_eq_true] <;> omega) | fail)) only [↓rsSpcC_0, rsSpcC_1, Option.isNone_some, Option.isNone_none, tick_eq, tickV_eq, ne_eq, Int.reduceAdd, Int.reduceSub, Int.reduceMul, Int.reduceEq, Int.reduceLT, Int.reduceLE, Int.reduceToNat, Nat.reduceMul, Nat.reduceAdd, Nat.reduceSub, List.nil_append, List.cons_append, List.getElem?_toArray, List.getElem?_cons_zero, List.getElem?_cons_succ, List.setIfInBounds_toArray, List.set_cons_zero, List.set_cons_succ, Option.map_some, List.not_mem_nil, ←decide_not, k5, k6, hv, k7]
        exact ⟨by trivial, X5.trans (F6.trans (F7.trans F8))⟩
    · obtain ⟨hr, rfl⟩ := hr
      have ht0 : tt = 0 := (right_f.1 hr).1
      subst ht0
      have hk := (okW_size (okW_pack hr).1).2.2.2
      refine space_Space_Alloc_call (Yld.mono (SAlloc_ok (n := szW (packW p bb false 0)) S5 hr rfl (by omega)) ?_)
      rintro u w6 ⟨rfl, F6, S6⟩
      have hsa : w.heap.size ∉ s :: blkOf a := by
        intro hm
        rcases List.mem_cons.1 hm with h | h
        · omega
        · have := M.up _ h
          have := H.lt
          omega
      have H6 := H5.ext F6 hsa
      have k6 := fun i => H6.cell (i := i)
      simp (disch := (first | omega | decide | (simp only [World.size_alloc, World.size_setCell, World.size_drew, size_sets, List.mem_cons, List.not_mem_nil, or_false, not_false_eq_true] <;> omega) | fail)) only [↓rsSpcC_0, rsSpcC_1, Option.isNone_some, Option.isNone_none, tick_eq, tickV_eq, ne_eq, Int.reduceAdd, Int.reduceSub, Int.reduceMul, Int.reduceEq, Int.reduceLT, Int.reduceLE, Int.reduceToNat, Nat.reduceMul, Nat.reduceAdd, Nat.reduceSub, List.nil_append, List.cons_append, List.getElem?_toArray, List.getElem?_cons_zero, List.getElem?_cons_succ, List.setIfInBounds_toArray, List.set_cons_zero, List.set_cons_succ, Option.map_some, List.not_mem_nil, ←decide_not, k5, k6]
      refine head_Right_call (Gives.to (Right_spec p bb false 0 w6) fun w7 F7 => ?_)
      have hv : rightV p bb false 0 = true := decide_eq_true hr
      have H7 := H6.ext F7 (by simp)
      have S7 := S6.ext0 F7
      have k7 := fun i => H7.cell (i := i)
      simp (disch := (first | omega | decide | (simp only [World.size_alloc, World.size_setCell, World.size_drew, size_sets, List.mem_cons, List.not_mem_nil, or_false, not_false_eq_true] <;> omega) | fail)) only [↓rsSpcC_0, rsSpcC_1, Option.isNone_some, Option.isNone_none, tick_eq, tickV_eq, ne_eq, Int.reduceAdd, Int.reduceSub, Int.reduceMul, Int.reduceEq, Int.reduceLT, Int.reduceLE, Int.reduceToNat, Nat.reduceMul, Nat.reduceAdd, Nat.reduceSub, List.nil_append, List.cons_append, List.getElem?_toArray, List.getElem?_cons_zero, List.getElem?_cons_succ, List.setIfInBounds_toArray, List.set_cons_zero, List.set_cons_succ, Option.map_some, List.not_mem_nil, ←decide_not, k5, k6, hv, k7]
      have X7 : Ext [] w w7 := (X5.new F6 (fun x hx => by
        rcases List.mem_cons.1 hx with rfl | hx
        · omega
        · have := M.up _ hx
          omega)).trans F7
      have hsz := size_pack hr
      have hwat : ∀ i, 1 ≤ i → i < 300 → (alW (List.replicate 300 f) 0 (packW p bb false 0) (szW (packW p bb false 0))).getD i c0 = if i < szW (packW p bb false 0) then c0 else f := by
        intro i h1 h2
        show wat _ i = _
        rw [wat_alW (by rw [List.length_replicate]; decide), if_neg (by omega)]
        by_cases h3 : i < szW (packW p bb false 0)
        · rw [if_pos (by omega), if_pos h3]
        · rw [if_neg (by omega), if_neg h3]
          unfold wat
          rw [List.getD_eq_getElem?_getD, List.getElem?_replicate, if_pos h2]
          rfl
      have hlen : (alW (List.replicate 300 f) 0 (packW p bb false 0) (szW (packW p bb false 0))).length = 300 := by rw [alW_length, List.length_replicate]
      generalize alW (List.replicate 300 f) 0 (packW p bb false 0) (szW (packW p bb false 0)) = W at *
      generalize szW (packW p bb false 0) = n at *
      refine xLoop_n 299 (fun j => [i64 ((1 + j : Nat) : Int)]) (fun j w' => Ext [] w7 w') rfl (Ext.refl _ _) ?_ ?_
      · intro j hj u v2 hu F8 nxt hnx
        simp only [List.map_cons, List.map_nil, List.cons.injEq, and_true] at hu
        rw [hu]
        have e2 : (((1 + j : Nat) : Int) + 1) = ((1 + (j + 1) : Nat) : Int) := by omega
        have h1 : 1 ≤ 1 + j := by omega
        have h2 : 1 + j < 300 := by omega
        generalize 1 + j = i at *
        have S8 := S7.ext0 F8
        have H8 := H7.ext F8 (by simp)
        have k8 := fun i => S8.blk.cell (i := i)
        unfold loamlaw15_SpaceClears_l2
        simp (disch := (first | omega | decide | (simp only [World.size_alloc, World.size_setCell, World.size_drew, size_sets, List.mem_cons, List.not_mem_nil, or_false, not_false_eq_true] <;> omega) | fail)) only [↓rsSpcC_0, rsSpcC_1, Option.isNone_some, Option.isNone_none, tick_eq, tickV_eq, ne_eq, Int.reduceAdd, Int.reduceSub, Int.reduceMul, Int.reduceEq, Int.reduceLT, Int.reduceLE, Int.reduceToNat, Nat.reduceMul, Nat.reduceAdd, Nat.reduceSub, List.nil_append, List.cons_append, List.getElem?_toArray, List.getElem?_cons_zero, List.getElem?_cons_succ, List.setIfInBounds_toArray, List.set_cons_zero, List.set_cons_succ, Option.map_some, List.not_mem_nil, ←decide_not, k5, k6, hv, k7, k8]
        have hg := Get_ok i S8.mem (by omega)
        rw [hwat i h1 h2] at hg
        refine mem_Mem_Get_call (Gives.to hg fun w9 F9 => ?_)
        have H9 := H8.ext F9 (by simp)
        have k9 := fun i => H9.cell (i := i)
        simp (disch := (first | omega | decide | (simp only [World.size_alloc, World.size_setCell, World.size_drew, size_sets, List.mem_cons, List.not_mem_nil, or_false, not_false_eq_true] <;> omega) | fail)) only [↓rsSpcC_0, rsSpcC_1, Option.isNone_some, Option.isNone_none, tick_eq, tickV_eq, ne_eq, Int.reduceAdd, Int.reduceSub, Int.reduceMul, Int.reduceEq, Int.reduceLT, Int.reduceLE, Int.reduceToNat, Nat.reduceMul, Nat.reduceAdd, Nat.reduceSub, List.nil_append, List.cons_append, List.getElem?_toArray, List.getElem?_cons_zero, List.getElem?_cons_succ, List.setIfInBounds_toArray, List.set_cons_zero, List.set_cons_succ, Option.map_some, List.not_mem_nil, ←decide_not, k5, k6, hv, k7, k8, k9]
        refine head_Size_call (Gives.to (Size_spec p bb false 0 _) fun w10 F10 => ?_)
        rw [hsz]
        unfold loamlaw15_SpaceClears_j1
        by_cases h3 : i < n
        · rw [if_pos h3]
          simp (disch := (first | omega | decide | (simp only [World.size_alloc, World.size_setCell, World.size_drew, size_sets, List.mem_cons, List.not_mem_nil, or_false, not_false_eq_true] <;> omega) | fail)) only [↓rsSpcC_0, rsSpcC_1, Option.isNone_some, Option.isNone_none, tick_eq, tickV_eq, ne_eq, Int.reduceAdd, Int.reduceSub, Int.reduceMul, Int.reduceEq, Int.reduceLT, Int.reduceLE, Int.reduceToNat, Nat.reduceMul, Nat.reduceAdd, Nat.reduceSub, List.nil_append, List.cons_append, List.getElem?_toArray, List.getElem?_cons_zero, List.getElem?_cons_succ, List.setIfInBounds_toArray, List.set_cons_zero, List.set_cons_succ, Option.map_some, List.not_mem_nil, ←decide_not, k5, k6, hv, k7, k8, k9]
          rw [e2]
          exact hnx _ (F8.trans (F9.trans F10))
        · rw [if_neg h3]
          simp (disch := (first | omega | decide | (simp only [World.size_alloc, World.size_setCell, World.size_drew, size_sets, List.mem_cons, List.not_mem_nil, or_false, not_false_eq_true] <;> omega) | fail)) only [↓rsSpcC_0, rsSpcC_1, Option.isNone_some, Option.isNone_none, tick_eq, tickV_eq, ne_eq, Int.reduceAdd, Int.reduceSub, Int.reduceMul, Int.reduceEq, Int.reduceLT, Int.reduceLE, Int.reduceToNat, Nat.reduceMul, Nat.reduceAdd, Nat.reduceSub, List.nil_append, List.cons_append, List.getElem?_toArray, List.getElem?_cons_zero, List.getElem?_cons_succ, List.setIfInBounds_toArray, List.set_cons_zero, List.set_cons_succ, Option.map_some, List.not_mem_nil, ←decide_not, k5, k6, hv, k7, k8, k9]
          rw [e2]
          exact hnx _ (F8.trans (F9.trans F10))
      · intro u v2 hu F8 nxt
        simp only [List.map_cons, List.map_nil, List.cons.injEq, and_true] at hu
        rw [hu]
        unfold loamlaw15_SpaceClears_l2
        simp (disch := (first | omega | decide | (simp only [World.size_alloc, World.size_setCell, World.size_drew, size_sets, List.mem_cons, List.not_mem_nil, or_false, not_false_eq_true] <;> omega) | fail)) only [↓rsSpcC_0, rsSpcC_1, Option.isNone_some, Option.isNone_none, tick_eq, tickV_eq, ne_eq, Int.reduceAdd, Int.reduceSub, Int.reduceMul, Int.reduceEq, Int.reduceLT, Int.reduceLE, Int.reduceToNat, Nat.reduceMul, Nat.reduceAdd, Nat.reduceSub, List.nil_append, List.cons_append, List.getElem?_toArray, List.getElem?_cons_zero, List.getElem?_cons_succ, List.setIfInBounds_toArray, List.set_cons_zero, List.set_cons_succ, Option.map_some, List.not_mem_nil, ←decide_not, k5, k6, hv, k7]
        exact ⟨by trivial, X7.trans F8⟩
end Go.Proofs.Ytlllabaipfmnjaa
