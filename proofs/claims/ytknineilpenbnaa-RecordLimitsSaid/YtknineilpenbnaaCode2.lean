/- What the functions of the codec compute that read. -/
import Derived.Test.YtknineilpenbnaaCode
set_option linter.unusedVariables false
set_option linter.unusedSimpArgs false
set_option maxHeartbeats 4000000
namespace Go.Proofs.Ytknineilpenbnaa
open Go.Sh Go.RowKit

structure DecIs (w : World) (g : Nat) (a : Option Addr) (c : Nat) (l : List (BitVec 8)) (e : Int) : Prop where
  blk : Blk w g 70 [.slice a l.length c, i64 e]
  row : RowAt w a (bys l)
  cap : l.length ≤ c
  nil : a = none → c = 0
  ne : l ≠ [] → ∀ b o, a = some ⟨b, o, none⟩ → b ≠ g
  big : l.length ≤ 1000000
  err : e ≠ 0 → l = []
theorem DecIs.ext0 {w w' : World} {g : Nat} {a : Option Addr} {c : Nat} {l : List (BitVec 8)} {e : Int} (h : DecIs w g a c l e) (hx : Ext [] w w') : DecIs w' g a c l e :=
  ⟨h.blk.ext hx (by simp), h.row.ext0 hx, h.cap, h.nil, h.ne, h.big, h.err⟩
/-- one that reads on -/
def DecTo (w w' : World) (g : Nat) (l : List (BitVec 8)) (e : Int) : Prop := Ext [g] w w' ∧ ∃ a c, DecIs w' g a c l e
abbrev rsCode2_0 := (And.intro @xBox_r (And.intro @loadK_some (And.intro @loadsK_s (And.intro @loadsK_n (And.intro @loadsR_s (And.intro @loadsR_n (And.intro @storesK_s (And.intro @storesK_n (And.intro @xPick_t (And.intro @xPick_f (And.intro @xGuard_tt (And.intro @xGuard_ff (And.intro @xGuard_tf (And.intro @xGuard_ft (And.intro @xGuard_u 
  (And.intro @xNil_r (And.intro @xIf_t (And.intro @xBin_add' (And.intro @xBin_sub' (And.intro @xBin_mul' (And.intro @xBin_quo' (And.intro @xBin_rem' (And.intro @xIf_f (And.intro @xIf_tt (And.intro @xEx0 (And.intro @xEx1 (And.intro @xEx2 (And.intro @xEx3 (And.intro @xBin_eqs (And.intro @xBin_nes (And.intro @xUn_not (And.intro @xMakeFunc_r (And.intro @xSq_r 
  (And.intro @xPur_s (And.intro @xRd_s (And.intro @xRe_s (And.intro @xDet_s (And.intro @xDet_ld (And.intro @xDet_ld2 (And.intro @xDet_ld3 (And.intro @xDet_ld4 (And.intro @xGuard_tt @bd_70_0))))))))))))))))))))))))))))))))))))))))))
abbrev rsCode2_1 := (And.intro @setCells_c (And.intro @setCells_n (And.intro @World.setCell_alloc_at (And.intro @World.setCell_alloc_past (And.intro @World.cell?_alloc_at (And.intro @World.cell?_alloc_past (And.intro @World.frozen?_alloc_at (And.intro @World.frozen?_alloc_past 
  (And.intro @World.size_alloc (And.intro @dlt_t (And.intro @dlt_f (And.intro @dle_t (And.intro @dle_f (And.intro @deq_t (And.intro @deq_f (And.intro @dne_t (And.intro @dne_f (And.intro @not_true_eq_false (And.intro @Bool.false_and (And.intro @Bool.true_and (And.intro @Bool.and_true (And.intro @Bool.and_false (And.intro @wrap_in (And.intro @Int.toNat_natCast 
  (And.intro @Nat.mul_one (And.intro @cells_int (And.intro @cells_bool (And.intro @cells_string (And.intro @cells_slice (And.intro @cells_pointer (And.intro @cells_agg (And.intro @one_int (And.intro @one_bool (And.intro @one_string (And.intro @one_slice (And.intro @one_pointer (And.intro @beq_tt (And.intro @beq_ff (And.intro @beq_tf 
  (And.intro @beq_ft (And.intro @cell_sets_b (And.intro @frozen_sets (And.intro @size_sets (And.intro @World.size_drew (And.intro @Nat.zero_add (And.intro @Nat.add_zero (And.intro @cell_drew (And.intro @frozen_drew (And.intro @cell_set_eq (And.intro @cell_set_o (And.intro @cell_set_b (And.intro @World.frozen?_setCell 
  (And.intro @decide_true (And.intro @decide_false (And.intro @not_false_eq_true (And.intro @Bool.not_true @Bool.not_false))))))))))))))))))))))))))))))))))))))))))))))))))))))))
theorem Dec_Of_spec (l : List (BitVec 8)) (a : Option Addr) (n c : Nat) (w : World) (hn : n = l.length) (hl : l.length ≤ 1000000) (h : RowAt w a (bys l)) (hnil : a = none → c = 0) :
    Yld Try.prog n_codec_Of #[.slice a n c] w fun u w' => Ext [] w w' ∧ ∃ g a c, u = ptr g ∧ w.heap.size ≤ g ∧ DecIs w' g a c l 0 := by
  refine codec_Of_of ?_
  unfold codec_Of
  refine slices_Clone_byte_byte_call (Yld.mono (CloneB_spec l a n c w hn hl h hnil) ?_)
  rintro u w1 ⟨F1, a1, c1, rfl, hc1, hn1, R1, N1⟩
  have hz := F1.size
  simp (disch := (first | omega | decide | (simp only [World.size_alloc, World.size_setCell, World.size_drew, size_sets, List.mem_cons, List.not_mem_nil, or_false, not_false_eq_true] <;> omega) | fail)) only [↓rsCode2_0, rsCode2_1, Option.isNone_some, Option.isNone_none, tick_eq, tickV_eq, ne_eq, Int.reduceAdd, Int.reduceSub, Int.reduceMul, Int.reduceEq, Int.reduceLT, Int.reduceLE, Int.reduceToNat, Nat.reduceMul, Nat.reduceAdd, Nat.reduceSub, List.nil_append, List.cons_append, List.getElem?_toArray, List.getElem?_cons_zero, List.getElem?_cons_succ, List.setIfInBounds_toArray, List.set_cons_zero, List.set_cons_succ, Option.map_some, List.not_mem_nil, ←decide_not, eq_self]
  refine ⟨F1.trans (Ext.alloc _ _ _), w1.heap.size, a1, c1, rfl, hz, Blk.new _ _, R1.ext0 (Ext.alloc _ _ _), hc1, hn1, fun _ b o e => ?_, hl, fun h => absurd rfl h⟩
  have := (N1 _ e).2
  simp only at this
  omega
section
variable {w : World} {g : Nat} {a : Option Addr} {c : Nat} {l : List (BitVec 8)} {e : Int}
abbrev rsCode2_2 := (And.intro @xBox_r (And.intro @loadK_some (And.intro @loadsK_s (And.intro @loadsK_n (And.intro @loadsR_s (And.intro @loadsR_n (And.intro @storesK_s (And.intro @storesK_n (And.intro @xPick_t (And.intro @xPick_f (And.intro @xGuard_tt (And.intro @xGuard_ff (And.intro @xGuard_tf (And.intro @xGuard_ft (And.intro @xGuard_u 
  (And.intro @xNil_r (And.intro @xIf_t (And.intro @xBin_add' (And.intro @xBin_sub' (And.intro @xBin_mul' (And.intro @xBin_quo' (And.intro @xBin_rem' (And.intro @xIf_f (And.intro @xIf_tt (And.intro @xEx0 (And.intro @xEx1 (And.intro @xEx2 (And.intro @xEx3 (And.intro @xBin_eqs (And.intro @xBin_nes (And.intro @xUn_not (And.intro @xMakeFunc_r (And.intro @xSq_r 
  (And.intro @xPur_s (And.intro @xRd_s (And.intro @xRe_s (And.intro @xDet_s (And.intro @xDet_ld (And.intro @xDet_ld2 (And.intro @xDet_ld3 (And.intro @xDet_ld4 (And.intro @xGuard_tt (And.intro @fa_70_0 (And.intro @fa_70_1 (And.intro @st_25 @st_29)))))))))))))))))))))))))))))))))))))))))))))
theorem Dec_fail_spec (e' : Int) (he : e' ≠ 0) (h : DecIs w g a c l e) : Yld Try.prog n_codec_Dec_fail #[ptr g, i64 e'] w fun u w' => u = .tuple #[] ∧ DecTo w w' g [] e' := by
  refine codec_Dec_fail_of ?_
  unfold codec_Dec_fail
  have c0 : w.cell? ⟨g, 0, none⟩ = some (.slice a l.length c) := by rw [h.blk.cell]; rfl
  have c1 : w.cell? ⟨g, 1, none⟩ = some (i64 e) := by rw [h.blk.cell]; rfl
  have f0 : w.frozen? ⟨g, 0, none⟩ = false := h.blk.frozen
  have f1 : w.frozen? ⟨g, 1, none⟩ = false := h.blk.frozen
  simp (disch := (first | omega | decide | (simp only [World.size_alloc, World.size_setCell, World.size_drew, size_sets, List.mem_cons, List.not_mem_nil, or_false, not_false_eq_true] <;> omega) | fail)) only [↓rsCode2_2, rsCode2_1, Option.isNone_some, Option.isNone_none, tick_eq, tickV_eq, ne_eq, Int.reduceAdd, Int.reduceSub, Int.reduceMul, Int.reduceEq, Int.reduceLT, Int.reduceLE, Int.reduceToNat, Nat.reduceMul, Nat.reduceAdd, Nat.reduceSub, List.nil_append, List.cons_append, List.getElem?_toArray, List.getElem?_cons_zero, List.getElem?_cons_succ, List.setIfInBounds_toArray, List.set_cons_zero, List.set_cons_succ, Option.map_some, List.not_mem_nil, ←decide_not, c0, f0, c1, f1]
  have B1 := (h.blk.set (i := 0) (v := .slice none 0 0)).set (i := 1) (v := i64 e')
  exact ⟨by trivial, (Ext.set (b := g)).set' (.inl (by simp)), none, 0, B1, RowAt.nil, Nat.le_refl _, fun _ => rfl, fun _ b o e => (by cases e), by simp, fun _ => rfl⟩
abbrev rsCode2_3 := (And.intro @xBox_r (And.intro @loadK_some (And.intro @loadsK_s (And.intro @loadsK_n (And.intro @loadsR_s (And.intro @loadsR_n (And.intro @storesK_s (And.intro @storesK_n (And.intro @xPick_t (And.intro @xPick_f (And.intro @xGuard_tt (And.intro @xGuard_ff (And.intro @xGuard_tf (And.intro @xGuard_ft (And.intro @xGuard_u 
  (And.intro @xNil_r (And.intro @xIf_t (And.intro @xBin_add' (And.intro @xBin_sub' (And.intro @xBin_mul' (And.intro @xBin_quo' (And.intro @xBin_rem' (And.intro @xIf_f (And.intro @xIf_tt (And.intro @xEx0 (And.intro @xEx1 (And.intro @xEx2 (And.intro @xEx3 (And.intro @xBin_eqs (And.intro @xBin_nes (And.intro @xUn_not (And.intro @xMakeFunc_r (And.intro @xSq_r 
  (And.intro @xPur_s (And.intro @xRd_s (And.intro @xRe_s (And.intro @xDet_s (And.intro @xDet_ld (And.intro @xDet_ld2 (And.intro @xDet_ld3 (And.intro @xDet_ld4 (And.intro @xGuard_tt (And.intro @ld_25 (And.intro @fa_70_0 @ln_25))))))))))))))))))))))))))))))))))))))))))))
theorem Dec_Left_spec (h : DecIs w g a c l e) : Gives Try.prog n_codec_Dec_Left #[ptr g] w (i64 l.length) := by
  refine codec_Dec_Left_of ?_
  unfold codec_Dec_Left
  have c0 : w.cell? ⟨g, 0, none⟩ = some (.slice a l.length c) := by rw [h.blk.cell]; rfl
  simp (disch := (first | omega | decide | (simp only [World.size_alloc, World.size_setCell, World.size_drew, size_sets, List.mem_cons, List.not_mem_nil, or_false, not_false_eq_true] <;> omega) | fail)) only [↓rsCode2_3, rsCode2_1, Option.isNone_some, Option.isNone_none, tick_eq, tickV_eq, ne_eq, Int.reduceAdd, Int.reduceSub, Int.reduceMul, Int.reduceEq, Int.reduceLT, Int.reduceLE, Int.reduceToNat, Nat.reduceMul, Nat.reduceAdd, Nat.reduceSub, List.nil_append, List.cons_append, List.getElem?_toArray, List.getElem?_cons_zero, List.getElem?_cons_succ, List.setIfInBounds_toArray, List.set_cons_zero, List.set_cons_succ, Option.map_some, List.not_mem_nil, ←decide_not, c0]
  exact ⟨by trivial, by (repeat (first | with_reducible exact Ext.refl _ _ | with_reducible assumption | with_reducible refine Ext.alloc' ?_ _ | with_reducible refine Ext.drew' ?_ | with_reducible refine Ext.set' ?_ ?_ | exact .inr (by first | omega | (simp only [World.size_alloc, World.size_drew, World.size_setCell] <;> omega)) | refine Ext.trans ?_ (by with_reducible assumption)))⟩
abbrev rsCode2_4 := (And.intro @xBox_r (And.intro @loadK_some (And.intro @loadsK_s (And.intro @loadsK_n (And.intro @loadsR_s (And.intro @loadsR_n (And.intro @storesK_s (And.intro @storesK_n (And.intro @xPick_t (And.intro @xPick_f (And.intro @xGuard_tt (And.intro @xGuard_ff (And.intro @xGuard_tf (And.intro @xGuard_ft (And.intro @xGuard_u 
  (And.intro @xNil_r (And.intro @xIf_t (And.intro @xBin_add' (And.intro @xBin_sub' (And.intro @xBin_mul' (And.intro @xBin_quo' (And.intro @xBin_rem' (And.intro @xIf_f (And.intro @xIf_tt (And.intro @xEx0 (And.intro @xEx1 (And.intro @xEx2 (And.intro @xEx3 (And.intro @xBin_eqs (And.intro @xBin_nes (And.intro @xUn_not (And.intro @xMakeFunc_r (And.intro @xSq_r 
  (And.intro @xPur_s (And.intro @xRd_s (And.intro @xRe_s (And.intro @xDet_s (And.intro @xDet_ld (And.intro @xDet_ld2 (And.intro @xDet_ld3 (And.intro @xDet_ld4 (And.intro @xGuard_tt (And.intro @ld_29 @fa_70_1)))))))))))))))))))))))))))))))))))))))))))
theorem Dec_Err_spec (h : DecIs w g a c l e) : Gives Try.prog n_codec_Dec_Err #[ptr g] w (i64 e) := by
  refine codec_Dec_Err_of ?_
  unfold codec_Dec_Err
  have c1 : w.cell? ⟨g, 1, none⟩ = some (i64 e) := by rw [h.blk.cell]; rfl
  simp (disch := (first | omega | decide | (simp only [World.size_alloc, World.size_setCell, World.size_drew, size_sets, List.mem_cons, List.not_mem_nil, or_false, not_false_eq_true] <;> omega) | fail)) only [↓rsCode2_4, rsCode2_1, Option.isNone_some, Option.isNone_none, tick_eq, tickV_eq, ne_eq, Int.reduceAdd, Int.reduceSub, Int.reduceMul, Int.reduceEq, Int.reduceLT, Int.reduceLE, Int.reduceToNat, Nat.reduceMul, Nat.reduceAdd, Nat.reduceSub, List.nil_append, List.cons_append, List.getElem?_toArray, List.getElem?_cons_zero, List.getElem?_cons_succ, List.setIfInBounds_toArray, List.set_cons_zero, List.set_cons_succ, Option.map_some, List.not_mem_nil, ←decide_not, c1]
  exact ⟨by trivial, by (repeat (first | with_reducible exact Ext.refl _ _ | with_reducible assumption | with_reducible refine Ext.alloc' ?_ _ | with_reducible refine Ext.drew' ?_ | with_reducible refine Ext.set' ?_ ?_ | exact .inr (by first | omega | (simp only [World.size_alloc, World.size_drew, World.size_setCell] <;> omega)) | refine Ext.trans ?_ (by with_reducible assumption)))⟩
/-- what reading a number hands back -/
def UintR (r : Except Int (BitVec 64 × List (BitVec 8))) (w w' : World) (g : Nat) (u : Value) : Prop := match r with
  | .ok (x, m) => u = u64 x ∧ DecTo w w' g m 0
  | .error e => u = c64 0 ∧ DecTo w w' g [] e
abbrev rsCode2_5 := (And.intro @xBox_r (And.intro @loadK_some (And.intro @loadsK_s (And.intro @loadsK_n (And.intro @loadsR_s (And.intro @loadsR_n (And.intro @storesK_s (And.intro @storesK_n (And.intro @xPick_t (And.intro @xPick_f (And.intro @xGuard_tt (And.intro @xGuard_ff (And.intro @xGuard_tf (And.intro @xGuard_ft (And.intro @xGuard_u 
  (And.intro @xNil_r (And.intro @xIf_t (And.intro @xBin_add' (And.intro @xBin_sub' (And.intro @xBin_mul' (And.intro @xBin_quo' (And.intro @xBin_rem' (And.intro @xIf_f (And.intro @xIf_tt (And.intro @xEx0 (And.intro @xEx1 (And.intro @xEx2 (And.intro @xEx3 (And.intro @xBin_eqs (And.intro @xBin_nes (And.intro @xUn_not (And.intro @xu8_add (And.intro @xu8_mul 
  (And.intro @xu8_and (And.intro @xu8_or (And.intro @xu8_shl (And.intro @xu8_eql (And.intro @xu8_lss (And.intro @xu8_gtr (And.intro @xu8_geq (And.intro @xu16_add (And.intro @xu16_mul (And.intro @xu16_and (And.intro @xu16_or (And.intro @xu16_shl (And.intro @xu16_eql (And.intro @xu16_lss (And.intro @xu16_gtr (And.intro @xu16_geq (And.intro @xu32_add 
  (And.intro @xu32_mul (And.intro @xu32_and (And.intro @xu32_or (And.intro @xu32_shl (And.intro @xu32_eql (And.intro @xu32_lss (And.intro @xu32_gtr (And.intro @xu32_geq (And.intro @xu64_add (And.intro @xu64_mul (And.intro @xu64_and (And.intro @xu64_or (And.intro @xu64_shl (And.intro @xu64_eql (And.intro @xu64_lss (And.intro @xu64_gtr (And.intro @xu64_geq 
  (And.intro @xi64_lss (And.intro @xi64_gtr (And.intro @xi64_geq (And.intro @xi64_eql (And.intro @xi64_and (And.intro @xi64_or (And.intro @xi64_shl (And.intro @xMakeFunc_r (And.intro @xSq_r (And.intro @xPur_s (And.intro @xRd_s (And.intro @xRe_s (And.intro @xDet_s (And.intro @xDet_ld (And.intro @xDet_ld2 (And.intro @xDet_ld3 (And.intro @xDet_ld4 (And.intro @xGuard_tt 
  (And.intro @ld_5 (And.intro @ld_25 (And.intro @ld_29 (And.intro @fa_70_0 (And.intro @fa_70_1 (And.intro @st_25 (And.intro @cv_5_22 (And.intro @ia_25 (And.intro @ln_25 (And.intro @sh_25 (And.intro @sl_25 @sm_25))))))))))))))))))))))))))))))))))))))))))))))))))))))))))))))))))))))))))))))))))))))))))))))))
theorem Dec_Uint_spec (h : DecIs w g a c l 0) : Yld Try.prog n_codec_Dec_Uint #[ptr g] w fun u w' => UintR (decU l) w w' g u := by
  refine codec_Dec_Uint_of ?_
  unfold codec_Dec_Uint
  refine xLoop_r 10 (fun k vs w' => ∃ acc, vs = [u64 acc, i64 k] ∧ Ext [] w w' ∧ decF (10 - k) k acc (l.drop k) = decU l ∧ k ≤ l.length) ⟨z64, rfl, Ext.refl _ _, rfl, Nat.zero_le _⟩ ?_ ?_
  · rintro k hk u w1 ⟨acc, hu, F1, hd, hkl⟩ nxt hnx
    simp only [List.map_cons, List.map_nil, List.cons.injEq, and_true] at hu
    rw [hu.1, hu.2]
    have h1 := h.ext0 F1
    have hb := h.big
    have c0 : w1.cell? ⟨g, 0, none⟩ = some (.slice a l.length c) := by rw [h1.blk.cell]; rfl
    have c1 : w1.cell? ⟨g, 1, none⟩ = some (i64 0) := by rw [h1.blk.cell]; rfl
    have e10 : 10 - k = (9 - k) + 1 := by omega
    rw [e10] at hd
    unfold codec_Dec_Uint_l1
    by_cases g1 : l.length ≤ k
    · have hd2 : l.drop k = [] := List.drop_eq_nil_of_le g1
      rw [hd2] at hd
      simp (disch := (first | omega | decide | (simp only [World.size_alloc, World.size_setCell, World.size_drew, size_sets, List.mem_cons, List.not_mem_nil, or_false, not_false_eq_true] <;> omega) | fail)) only [↓rsCode2_5, rsCode2_1, Option.isNone_some, Option.isNone_none, tick_eq, tickV_eq, ne_eq, Int.reduceAdd, Int.reduceSub, Int.reduceMul, Int.reduceEq, Int.reduceLT, Int.reduceLE, Int.reduceToNat, Nat.reduceMul, Nat.reduceAdd, Nat.reduceSub, List.nil_append, List.cons_append, List.getElem?_toArray, List.getElem?_cons_zero, List.getElem?_cons_succ, List.setIfInBounds_toArray, List.set_cons_zero, List.set_cons_succ, Option.map_some, List.not_mem_nil, ←decide_not, c0, c1]
      refine codec_Dec_fail_call (Yld.mono (Dec_fail_spec 3 (by decide) h1) ?_)
      rintro u w2 ⟨rfl, F2, D2⟩
      rw [← hd]
      exact ⟨by trivial, (F1.more (by simp)).trans F2, D2⟩
    · obtain ⟨b, o, rfl, hbl, hc⟩ := h1.row.at (i := k) (by simp; omega)
      simp only [List.getElem_map] at hc
      rw [List.drop_eq_getElem_cons (by omega)] at hd
      generalize hx : l[k]'(by omega) = x at *
      have hd' : (if k = 9 ∧ 1 < x.toNat then Except.error 2 else if x.toNat < 128 then (if x.toNat = 0 ∧ 0 < k then Except.error 2 else .ok (acc ||| highW x k, l.drop (k + 1))) else decF (9 - k) (k + 1) (acc ||| highW x k) (l.drop (k + 1))) = decU l := hd
      clear hd
      have t7 : (7 * (k : Int)).toNat = 7 * k := by omega
      have f0 : w1.frozen? ⟨g, 0, none⟩ = false := h1.blk.frozen
      have tk : ((k : Int) + 1).toNat = k + 1 := by omega
      have hl0 : l ≠ [] := by intro e; rw [e, List.length_nil] at g1; omega
      have fin : ∀ y, u64 y = u64 y ∧ DecTo w (w1.setCell ⟨g, 0, none⟩ (.slice (if c = k + 1 then some (⟨b, o, none⟩ : Addr) else (some (⟨b, o, none⟩ : Addr)).map (·.add (k + 1))) (l.length - (k + 1)) (c - (k + 1)))) g (l.drop (k + 1)) 0 := fun y => by
        have hr := h1.row.drop (k + 1) c (by simpa using h1.cap)
        rw [← List.map_drop] at hr
        have hlen : l.length - (k + 1) = (l.drop (k + 1)).length := by simp
        rw [hlen]
        refine ⟨rfl, (F1.more (by simp)).set' (.inl (by simp)), _, _, h1.blk.set (i := 0), hr.ext (Ext.set (b := g)) (fun b' o' e' hm => ?_), by have := h1.cap; simp; omega, fun hn => ?_, fun _ b' o' e' => ?_, by simp; omega, fun hh => absurd rfl hh⟩
        · simp at hm
          subst hm
          split at e'
          · exact h1.ne hl0 _ _ e' rfl
          · simp [Addr.add] at e'
            exact h1.ne hl0 b o rfl e'.1
        · split at hn <;> simp at hn
        · split at e'
          · exact h1.ne hl0 _ _ e'
          · simp [Addr.add] at e'
            rw [← e'.1]
            exact h1.ne hl0 b o rfl
      by_cases gA : k = 9 ∧ 1 < x.toNat
      · rw [if_pos gA] at hd'
        have k9 := gA.1
        have d1 : decide ((BitVec.ofNat 8 1).toNat < x.toNat) = true := decide_eq_true gA.2
        unfold codec_Dec_Uint_j1
        simp (disch := (first | omega | decide | (simp only [World.size_alloc, World.size_setCell, World.size_drew, size_sets, List.mem_cons, List.not_mem_nil, or_false, not_false_eq_true] <;> omega) | fail)) only [↓rsCode2_5, rsCode2_1, Option.isNone_some, Option.isNone_none, tick_eq, tickV_eq, ne_eq, Int.reduceAdd, Int.reduceSub, Int.reduceMul, Int.reduceEq, Int.reduceLT, Int.reduceLE, Int.reduceToNat, Nat.reduceMul, Nat.reduceAdd, Nat.reduceSub, List.nil_append, List.cons_append, List.getElem?_toArray, List.getElem?_cons_zero, List.getElem?_cons_succ, List.setIfInBounds_toArray, List.set_cons_zero, List.set_cons_succ, Option.map_some, List.not_mem_nil, ←decide_not, c0, hc, d1]
        refine codec_Dec_fail_call (Yld.mono (Dec_fail_spec 2 (by decide) h1) ?_)
        rintro u w2 ⟨rfl, F2, D2⟩
        rw [← hd']
        exact ⟨by trivial, (F1.more (by simp)).trans F2, D2⟩
      · rw [if_neg gA] at hd'
        by_cases k9 : k = 9
        · have d1 : decide ((BitVec.ofNat 8 1).toNat < x.toNat) = false := decide_eq_false fun hh => gA ⟨k9, hh⟩
          by_cases g3 : x.toNat < 128
          · rw [if_pos g3] at hd'
            have d3 : decide (x.toNat < (BitVec.ofNat 8 128).toNat) = true := decide_eq_true g3
            by_cases gz : x.toNat = 0
            · have dz : decide (x = BitVec.ofNat 8 0) = true := decide_eq_true (BitVec.eq_of_toNat_eq (by rw [gz]; rfl))
              by_cases gk : 0 < k
              · rw [if_pos ⟨gz, gk⟩] at hd'
                unfold codec_Dec_Uint_j1
                simp (disch := (first | omega | decide | (simp only [World.size_alloc, World.size_setCell, World.size_drew, size_sets, List.mem_cons, List.not_mem_nil, or_false, not_false_eq_true] <;> omega) | fail)) only [↓rsCode2_5, rsCode2_1, Option.isNone_some, Option.isNone_none, tick_eq, tickV_eq, ne_eq, Int.reduceAdd, Int.reduceSub, Int.reduceMul, Int.reduceEq, Int.reduceLT, Int.reduceLE, Int.reduceToNat, Nat.reduceMul, Nat.reduceAdd, Nat.reduceSub, List.nil_append, List.cons_append, List.getElem?_toArray, List.getElem?_cons_zero, List.getElem?_cons_succ, List.setIfInBounds_toArray, List.set_cons_zero, List.set_cons_succ, Option.map_some, List.not_mem_nil, ←decide_not, c0, hc, t7, d3, dz, d1]
                refine codec_Dec_fail_call (Yld.mono (Dec_fail_spec 2 (by decide) h1) ?_)
                rintro u w2 ⟨rfl, F2, D2⟩
                rw [← hd']
                exact ⟨by trivial, (F1.more (by simp)).trans F2, D2⟩
              · exfalso
                omega
            · have dz : decide (x = BitVec.ofNat 8 0) = false := decide_eq_false (fun hh => gz (by rw [hh]; rfl))
              rw [if_neg (fun hh => gz hh.1)] at hd'
              simp (disch := (first | omega | decide | (simp only [World.size_alloc, World.size_setCell, World.size_drew, size_sets, List.mem_cons, List.not_mem_nil, or_false, not_false_eq_true] <;> omega) | fail)) only [↓rsCode2_5, rsCode2_1, Option.isNone_some, Option.isNone_none, tick_eq, tickV_eq, ne_eq, Int.reduceAdd, Int.reduceSub, Int.reduceMul, Int.reduceEq, Int.reduceLT, Int.reduceLE, Int.reduceToNat, Nat.reduceMul, Nat.reduceAdd, Nat.reduceSub, List.nil_append, List.cons_append, List.getElem?_toArray, List.getElem?_cons_zero, List.getElem?_cons_succ, List.setIfInBounds_toArray, List.set_cons_zero, List.set_cons_succ, Option.map_some, List.not_mem_nil, ←decide_not, c0, f0, hc, t7, tk, d3, dz, d1]
              rw [← hd']
              exact fin _
          · exfalso
            exact gA ⟨k9, by omega⟩
        · skip
          by_cases g3 : x.toNat < 128
          · rw [if_pos g3] at hd'
            have d3 : decide (x.toNat < (BitVec.ofNat 8 128).toNat) = true := decide_eq_true g3
            by_cases gz : x.toNat = 0
            · have dz : decide (x = BitVec.ofNat 8 0) = true := decide_eq_true (BitVec.eq_of_toNat_eq (by rw [gz]; rfl))
              by_cases gk : 0 < k
              · rw [if_pos ⟨gz, gk⟩] at hd'
                unfold codec_Dec_Uint_j1
                simp (disch := (first | omega | decide | (simp only [World.size_alloc, World.size_setCell, World.size_drew, size_sets, List.mem_cons, List.not_mem_nil, or_false, not_false_eq_true] <;> omega) | fail)) only [↓rsCode2_5, rsCode2_1, Option.isNone_some, Option.isNone_none, tick_eq, tickV_eq, ne_eq, Int.reduceAdd, Int.reduceSub, Int.reduceMul, Int.reduceEq, Int.reduceLT, Int.reduceLE, Int.reduceToNat, Nat.reduceMul, Nat.reduceAdd, Nat.reduceSub, List.nil_append, List.cons_append, List.getElem?_toArray, List.getElem?_cons_zero, List.getElem?_cons_succ, List.setIfInBounds_toArray, List.set_cons_zero, List.set_cons_succ, Option.map_some, List.not_mem_nil, ←decide_not, c0, hc, t7, d3, dz]
                refine codec_Dec_fail_call (Yld.mono (Dec_fail_spec 2 (by decide) h1) ?_)
                rintro u w2 ⟨rfl, F2, D2⟩
                rw [← hd']
                exact ⟨by trivial, (F1.more (by simp)).trans F2, D2⟩
              · rw [if_neg (fun hh => gk hh.2)] at hd'
                simp (disch := (first | omega | decide | (simp only [World.size_alloc, World.size_setCell, World.size_drew, size_sets, List.mem_cons, List.not_mem_nil, or_false, not_false_eq_true] <;> omega) | fail)) only [↓rsCode2_5, rsCode2_1, Option.isNone_some, Option.isNone_none, tick_eq, tickV_eq, ne_eq, Int.reduceAdd, Int.reduceSub, Int.reduceMul, Int.reduceEq, Int.reduceLT, Int.reduceLE, Int.reduceToNat, Nat.reduceMul, Nat.reduceAdd, Nat.reduceSub, List.nil_append, List.cons_append, List.getElem?_toArray, List.getElem?_cons_zero, List.getElem?_cons_succ, List.setIfInBounds_toArray, List.set_cons_zero, List.set_cons_succ, Option.map_some, List.not_mem_nil, ←decide_not, c0, f0, hc, t7, tk, d3, dz]
                rw [← hd']
                exact fin _
            · have dz : decide (x = BitVec.ofNat 8 0) = false := decide_eq_false (fun hh => gz (by rw [hh]; rfl))
              rw [if_neg (fun hh => gz hh.1)] at hd'
              simp (disch := (first | omega | decide | (simp only [World.size_alloc, World.size_setCell, World.size_drew, size_sets, List.mem_cons, List.not_mem_nil, or_false, not_false_eq_true] <;> omega) | fail)) only [↓rsCode2_5, rsCode2_1, Option.isNone_some, Option.isNone_none, tick_eq, tickV_eq, ne_eq, Int.reduceAdd, Int.reduceSub, Int.reduceMul, Int.reduceEq, Int.reduceLT, Int.reduceLE, Int.reduceToNat, Nat.reduceMul, Nat.reduceAdd, Nat.reduceSub, List.nil_append, List.cons_append, List.getElem?_toArray, List.getElem?_cons_zero, List.getElem?_cons_succ, List.setIfInBounds_toArray, List.set_cons_zero, List.set_cons_succ, Option.map_some, List.not_mem_nil, ←decide_not, c0, f0, hc, t7, tk, d3, dz]
              rw [← hd']
              exact fin _
          · rw [if_neg g3] at hd'
            have d3 : decide (x.toNat < (BitVec.ofNat 8 128).toNat) = false := decide_eq_false g3
            simp (disch := (first | omega | decide | (simp only [World.size_alloc, World.size_setCell, World.size_drew, size_sets, List.mem_cons, List.not_mem_nil, or_false, not_false_eq_true] <;> omega) | fail)) only [↓rsCode2_5, rsCode2_1, Option.isNone_some, Option.isNone_none, tick_eq, tickV_eq, ne_eq, Int.reduceAdd, Int.reduceSub, Int.reduceMul, Int.reduceEq, Int.reduceLT, Int.reduceLE, Int.reduceToNat, Nat.reduceMul, Nat.reduceAdd, Nat.reduceSub, List.nil_append, List.cons_append, List.getElem?_toArray, List.getElem?_cons_zero, List.getElem?_cons_succ, List.setIfInBounds_toArray, List.set_cons_zero, List.set_cons_succ, Option.map_some, List.not_mem_nil, ←decide_not, c0, hc, t7, d3]
            exact hnx _ _ ⟨_, rfl, F1, by rw [show 10 - (k + 1) = 9 - k by omega]; exact hd', by omega⟩
  · rintro u w1 ⟨acc, hu, F1, hd, hkl⟩ nxt
    simp only [List.map_cons, List.map_nil, List.cons.injEq, and_true] at hu
    rw [hu.1, hu.2]
    unfold codec_Dec_Uint_l1 codec_Dec_Uint_j1
    simp (disch := (first | omega | decide | (simp only [World.size_alloc, World.size_setCell, World.size_drew, size_sets, List.mem_cons, List.not_mem_nil, or_false, not_false_eq_true] <;> omega) | fail)) only [↓rsCode2_5, rsCode2_1, Option.isNone_some, Option.isNone_none, tick_eq, tickV_eq, ne_eq, Int.reduceAdd, Int.reduceSub, Int.reduceMul, Int.reduceEq, Int.reduceLT, Int.reduceLE, Int.reduceToNat, Nat.reduceMul, Nat.reduceAdd, Nat.reduceSub, List.nil_append, List.cons_append, List.getElem?_toArray, List.getElem?_cons_zero, List.getElem?_cons_succ, List.setIfInBounds_toArray, List.set_cons_zero, List.set_cons_succ, Option.map_some, List.not_mem_nil, ←decide_not, eq_self]
    refine codec_Dec_fail_call (Yld.mono (Dec_fail_spec 2 (by decide) (h.ext0 F1)) ?_)
    rintro u w2 ⟨rfl, F2, D2⟩
    rw [← hd]
    exact ⟨by trivial, (F1.more (by simp)).trans F2, D2⟩
end
end Go.Proofs.Ytknineilpenbnaa
