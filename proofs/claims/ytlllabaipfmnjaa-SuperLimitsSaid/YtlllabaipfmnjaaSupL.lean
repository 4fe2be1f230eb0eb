/- The statements on superblocks, walked (sq). -/
import Derived.Test.YtlllabaipfmnjaaSup
set_option linter.unusedVariables false
set_option linter.unusedSimpArgs false
set_option maxHeartbeats 4000000
namespace Go.Proofs.Ytlllabaipfmnjaa
open Go.Sh Go.RowKit Go.ChangeShapes Go.WideShapes Go.ChangeAt

theorem list7 {α : Type} {l : List α} (h : l.length = 7) : ∃ a b c d e f g, l = [a, b, c, d, e, f, g] := by
  match l, h with
  | [a, b, c, d, e, f, g], _ => exact ⟨a, b, c, d, e, f, g, rfl⟩
set_option maxRecDepth 100000 in
theorem sb_open {H : Type} {enc : TypeId × Value → H} {W : World} {base : Nat} {v : Value} {d : DataW H} {p : List MemPlace} (hv : Value.okWide Try.prog W .any base 58 v) (h : DataW.Trod enc Try.prog W 0 (fun _ => true) true 58 v d p) : ∃ b : SB, v = sbV b := by
  obtain ⟨cs, rfl, hl, hc⟩ := open_flat (l := [.int .u64, .int .i64, .int .i64, .int .i64, .int .i64, .int .i64, .int .u64]) Try.underlying58 (by kernel_rfl) hv h
  obtain ⟨c0, c1, c2, c3, c4, c5, c6, rfl⟩ := list7 hl
  obtain ⟨z0, rfl, k0⟩ := hc 0 _ _ rfl rfl
  obtain ⟨z1, rfl, _⟩ := hc 1 _ _ rfl rfl
  obtain ⟨z2, rfl, _⟩ := hc 2 _ _ rfl rfl
  obtain ⟨z3, rfl, _⟩ := hc 3 _ _ rfl rfl
  obtain ⟨z4, rfl, _⟩ := hc 4 _ _ rfl rfl
  obtain ⟨z5, rfl, _⟩ := hc 5 _ _ rfl rfl
  obtain ⟨z6, rfl, k6⟩ := hc 6 _ _ rfl rfl
  refine ⟨⟨BitVec.ofInt 64 z0, z1, z2, z3, z4, z5, BitVec.ofInt 64 z6⟩, ?_⟩
  rw [u64_of (wf_u64 k0).1 (wf_u64 k0).2, u64_of (wf_u64 k6).1 (wf_u64 k6).2]
open Classical in
theorem sbDec_enc {b : SB} (h : SbOk b) : sbDec (sbEnc b) = b ∧ sbDecE (sbEnc b) = 0 := by
  rw [sbDec, sbDecE, if_pos (sbIs_enc h), if_pos (sbIs_enc h), fields_back h]
  exact ⟨rfl, rfl⟩
open Classical in
theorem sbErr_0 {b : SB} (h : SbOk b) : sbErr b = 0 := if_pos h
open Classical in
theorem sbErr_1 {b : SB} (h : ¬ SbOk b) : sbErr b = 1 := if_neg h
open Classical in
theorem sbEnc_nil {b : SB} (h : ¬ SbOk b) : sbEnc b = [] := if_neg h
open Classical in
theorem sbDec_nil : sbDec [] = sbZero ∧ sbDecE [] = 2 := by
  have h : ¬ SbIs [] := fun h => by have := h.1; simp at this
  rw [sbDec, sbDecE, if_neg h, if_neg h]
  exact ⟨rfl, rfl⟩
theorem take_magic {b : SB} (h : SbOk b) : (sbEnc b).take 4 = magicB := by
  rw [sbEnc, if_pos h, sealV, bodyB, partB]
  rfl
abbrev sb0 : SB := ⟨BitVec.ofNat 64 3, 64, 8, 64, 1, 9, BitVec.ofNat 64 4⟩
theorem sb0_ok : SbOk sb0 := by
  unfold SbOk badGeom one
  decide
theorem sbz_bad : ¬ SbOk sbZero := by
  unfold SbOk badGeom
  intro h
  exact h.1 (.inl (by decide))
abbrev rsSupL_0 := (And.intro @xBox_r (And.intro @loadK_some (And.intro @loadsK_s (And.intro @loadsK_n (And.intro @loadsR_s (And.intro @loadsR_n (And.intro @storesK_s (And.intro @storesK_n (And.intro @xPick_t (And.intro @xPick_f (And.intro @xGuard_tt (And.intro @xGuard_ff (And.intro @xGuard_tf (And.intro @xGuard_ft (And.intro @xGuard_u 
  (And.intro @xNil_r (And.intro @xIf_t (And.intro @xBin_add' (And.intro @xBin_sub' (And.intro @xBin_mul' (And.intro @xBin_quo' (And.intro @xBin_rem' (And.intro @xIf_f (And.intro @xIf_tt (And.intro @xEx0 (And.intro @xEx1 (And.intro @xEx2 (And.intro @xEx3 (And.intro @xBin_eqs (And.intro @xBin_nes (And.intro @xUn_not (And.intro @xu8_add (And.intro @xu8_eql 
  (And.intro @xu16_add (And.intro @xu16_eql (And.intro @xu32_add (And.intro @xu32_eql (And.intro @xu64_add (And.intro @xu64_eql (And.intro @xi64_eql (And.intro @xMakeFunc_r (And.intro @xSq_r (And.intro @xPur_s (And.intro @xRd_s (And.intro @xRe_s (And.intro @xDet_s (And.intro @xDet_ld (And.intro @xDet_ld2 (And.intro @xDet_ld3 (And.intro @xDet_ld4 
  (And.intro @xGuard_tt (And.intro @ld_58 (And.intro @al_58 (And.intro @st_58 (And.intro @bd_56_0_1_2 (And.intro @bd_58_0 (And.intro @bd_58_0_1_2_3_4 (And.intro @bd_58_1_3_2 (And.intro @bd_58 (And.intro @es_58 (And.intro @ln_26 (And.intro @sh_26 (And.intro @sl_26 @sm_26)))))))))))))))))))))))))))))))))))))))))))))))))))))))))))))))
abbrev rsSupL_1 := (And.intro @setCells_c (And.intro @setCells_n (And.intro @World.setCell_alloc_at (And.intro @World.setCell_alloc_past (And.intro @World.cell?_alloc_at (And.intro @World.cell?_alloc_past (And.intro @World.frozen?_alloc_at (And.intro @World.frozen?_alloc_past 
  (And.intro @World.size_alloc (And.intro @dlt_t (And.intro @dlt_f (And.intro @dle_t (And.intro @dle_f (And.intro @deq_t (And.intro @deq_f (And.intro @dne_t (And.intro @dne_f (And.intro @not_true_eq_false (And.intro @Bool.false_and (And.intro @Bool.true_and (And.intro @Bool.and_true (And.intro @Bool.and_false (And.intro @wrap_in (And.intro @Int.toNat_natCast 
  (And.intro @Nat.mul_one (And.intro @cells_int (And.intro @cells_bool (And.intro @cells_string (And.intro @cells_slice (And.intro @cells_pointer (And.intro @cells_agg (And.intro @one_int (And.intro @one_bool (And.intro @one_string (And.intro @one_slice (And.intro @one_pointer (And.intro @beq_tt (And.intro @beq_ff (And.intro @beq_tf 
  (And.intro @beq_ft (And.intro @cell_sets_b (And.intro @frozen_sets (And.intro @size_sets (And.intro @World.size_drew (And.intro @Nat.zero_add (And.intro @Nat.add_zero (And.intro @cell_drew (And.intro @frozen_drew (And.intro @cell_set_eq (And.intro @cell_set_o (And.intro @cell_set_b (And.intro @World.frozen?_setCell 
  (And.intro @decide_true (And.intro @decide_false (And.intro @not_false_eq_true (And.intro @Bool.not_true @Bool.not_false))))))))))))))))))))))))))))))))))))))))))))))))))))))))
theorem known6_spec (w : World) : Gives Try.prog n_loamlaw6_known #[] w (.bool true) := by
  refine loamlaw6_known_of ?_
  unfold loamlaw6_known
  simp (disch := (first | omega | decide | (simp only [World.size_alloc, World.size_setCell, World.size_drew, size_sets, List.mem_cons, List.not_mem_nil, or_false, not_false_eq_true] <;> omega) | fail)) only [↓rsSupL_0, rsSupL_1, Option.isNone_some, Option.isNone_none, tick_eq, tickV_eq, ne_eq, Int.reduceAdd, Int.reduceSub, Int.reduceMul, Int.reduceEq, Int.reduceLT, Int.reduceLE, Int.reduceToNat, Nat.reduceMul, Nat.reduceAdd, Nat.reduceSub, List.nil_append, List.cons_append, List.getElem?_toArray, List.getElem?_cons_zero, List.getElem?_cons_succ, List.setIfInBounds_toArray, List.set_cons_zero, List.set_cons_succ, Option.map_some, List.not_mem_nil, ←decide_not, eq_self]
  refine sup_Encode_call (Yld.mono (sup_Encode_spec sb0 _) ?_)
  rintro u1 w1 ⟨F1, a1, c1, rfl, q1, q2, q3⟩
  have l1 : (sbEnc sb0).length = 64 := sbEnc_len sb0_ok
  have hz1 := F1.size
  rw [World.size_alloc] at hz1
  have b1 : Blk w1 w.heap.size 58 (sbC sb0) := (Blk.at rfl).ext F1 (by simp)
  have X1 : Ext [] w w1 := (Ext.alloc [] w _).trans F1
  have D1 := sup_Decode_spec (sbEnc sb0) a1 c1 w1 (by omega) q3
  rw [(sbDec_enc sb0_ok).1, (sbDec_enc sb0_ok).2] at D1
  have e1 := sbErr_0 sb0_ok
  simp (disch := (first | omega | decide | (simp only [World.size_alloc, World.size_setCell, World.size_drew, size_sets, List.mem_cons, List.not_mem_nil, or_false, not_false_eq_true] <;> omega) | fail)) only [↓rsSupL_0, rsSupL_1, Option.isNone_some, Option.isNone_none, tick_eq, tickV_eq, ne_eq, Int.reduceAdd, Int.reduceSub, Int.reduceMul, Int.reduceEq, Int.reduceLT, Int.reduceLE, Int.reduceToNat, Nat.reduceMul, Nat.reduceAdd, Nat.reduceSub, List.nil_append, List.cons_append, List.getElem?_toArray, List.getElem?_cons_zero, List.getElem?_cons_succ, List.setIfInBounds_toArray, List.set_cons_zero, List.set_cons_succ, Option.map_some, List.not_mem_nil, ←decide_not, e1]
  refine sup_Decode_call (Gives.to D1 fun w2 F2 => ?_)
  have b2 := b1.ext F2 (by simp)
  have X2 := X1.trans F2
  simp (disch := (first | omega | decide | (simp only [World.size_alloc, World.size_setCell, World.size_drew, size_sets, List.mem_cons, List.not_mem_nil, or_false, not_false_eq_true] <;> omega) | fail)) only [↓rsSupL_0, rsSupL_1, Option.isNone_some, Option.isNone_none, tick_eq, tickV_eq, ne_eq, Int.reduceAdd, Int.reduceSub, Int.reduceMul, Int.reduceEq, Int.reduceLT, Int.reduceLE, Int.reduceToNat, Nat.reduceMul, Nat.reduceAdd, Nat.reduceSub, List.nil_append, List.cons_append, List.getElem?_toArray, List.getElem?_cons_zero, List.getElem?_cons_succ, List.setIfInBounds_toArray, List.set_cons_zero, List.set_cons_succ, Option.map_some, List.not_mem_nil, ←decide_not, e1]
  refine sup_Encode_call (Yld.mono (sup_Encode_spec sbZero _) ?_)
  rintro u3 w3 ⟨F3, a3, c3, rfl, _, _, _⟩
  have hz2 := F2.size
  have hz3 := F3.size
  rw [World.size_alloc] at hz3
  have b3 := (b2.ext (Ext.alloc [] w2 _) (by simp)).ext F3 (by simp)
  have t3 : Blk w3 w2.heap.size 58 (sbC sb0) := Blk.ext (Blk.at rfl) F3 (by simp)
  have X3 := (X2.alloc' _).trans F3
  have e3 := sbErr_1 sbz_bad
  simp (disch := (first | omega | decide | (simp only [World.size_alloc, World.size_setCell, World.size_drew, size_sets, List.mem_cons, List.not_mem_nil, or_false, not_false_eq_true] <;> omega) | fail)) only [↓rsSupL_0, rsSupL_1, Option.isNone_some, Option.isNone_none, tick_eq, tickV_eq, ne_eq, Int.reduceAdd, Int.reduceSub, Int.reduceMul, Int.reduceEq, Int.reduceLT, Int.reduceLE, Int.reduceToNat, Nat.reduceMul, Nat.reduceAdd, Nat.reduceSub, List.nil_append, List.cons_append, List.getElem?_toArray, List.getElem?_cons_zero, List.getElem?_cons_succ, List.setIfInBounds_toArray, List.set_cons_zero, List.set_cons_succ, Option.map_some, List.not_mem_nil, ←decide_not, e1, e3]
  have D4 := sup_Decode_spec [] none 0 w3 (by simp) RowAt.nil
  rw [sbDec_nil.1, sbDec_nil.2] at D4
  refine sup_Decode_call (Gives.to D4 fun w4 F4 => ?_)
  have hz4 := F4.size
  have b4 := fun i => ((b3.ext F4 (by simp)).ext (Ext.alloc [] w4 (.cells (sbC sbZero).toArray 58)) (by simp)).cell (i := i)
  have t4 := fun i => ((t3.ext F4 (by simp)).ext (Ext.alloc [] w4 (.cells (sbC sbZero).toArray 58)) (by simp)).cell (i := i)
  have hm := take_magic sb0_ok
  have R4 := (((q3.ext0 F2).ext0 (((Ext.alloc [] w2 (.cells (sbC sb0).toArray 58)).trans F3).trans F4)).ext0 (Ext.alloc [] w4 (.cells (sbC sbZero).toArray 58))).take 4
  rw [show (bys (sbEnc sb0)).take 4 = bys magicB by rw [← hm]; simp [bys, List.map_take]] at R4
  have s4 := strB (c := c1) (n := 4) rfl R4
  have es : decide (strOf magicB = ⟨#[76, 79, 65, 77]⟩) = true := decide_eq_true rfl
  have X4 := (X3.trans F4).alloc' (.cells (sbC sbZero).toArray 58)
  simp (disch := (first | omega | decide | (simp only [World.size_alloc, World.size_setCell, World.size_drew, size_sets, List.mem_cons, List.not_mem_nil, or_false, not_false_eq_true] <;> omega) | fail)) only [↓rsSupL_0, rsSupL_1, Option.isNone_some, Option.isNone_none, tick_eq, tickV_eq, ne_eq, Int.reduceAdd, Int.reduceSub, Int.reduceMul, Int.reduceEq, Int.reduceLT, Int.reduceLE, Int.reduceToNat, Nat.reduceMul, Nat.reduceAdd, Nat.reduceSub, List.nil_append, List.cons_append, List.getElem?_toArray, List.getElem?_cons_zero, List.getElem?_cons_succ, List.setIfInBounds_toArray, List.set_cons_zero, List.set_cons_succ, Option.map_some, List.not_mem_nil, ←decide_not, e1, e3, l1, b4, t4, s4, es]
  refine sup_Newer_call (Gives.to (sup_Newer_spec sb0 ⟨BitVec.ofNat 64 2, 0, 0, 0, 0, 0, BitVec.ofNat 64 0⟩ _) fun w5 F5 => ?_)
  have hn : decide ((BitVec.ofNat 64 2).toNat < (BitVec.ofNat 64 3).toNat) = true := rfl
  simp (disch := (first | omega | decide | (simp only [World.size_alloc, World.size_setCell, World.size_drew, size_sets, List.mem_cons, List.not_mem_nil, or_false, not_false_eq_true] <;> omega) | fail)) only [↓rsSupL_0, rsSupL_1, Option.isNone_some, Option.isNone_none, tick_eq, tickV_eq, ne_eq, Int.reduceAdd, Int.reduceSub, Int.reduceMul, Int.reduceEq, Int.reduceLT, Int.reduceLE, Int.reduceToNat, Nat.reduceMul, Nat.reduceAdd, Nat.reduceSub, List.nil_append, List.cons_append, List.getElem?_toArray, List.getElem?_cons_zero, List.getElem?_cons_succ, List.setIfInBounds_toArray, List.set_cons_zero, List.set_cons_succ, Option.map_some, List.not_mem_nil, ←decide_not, e1, e3, l1, b4, t4, s4, es, hn]
  refine sup_Slot_call (Gives.to (sup_Slot_spec (BitVec.ofNat 64 3) _) fun w6 F6 => ?_)
  have hs : (BitVec.ofNat 64 3 &&& BitVec.ofNat 64 1).toInt = 1 := by decide
  simp (disch := (first | omega | decide | (simp only [World.size_alloc, World.size_setCell, World.size_drew, size_sets, List.mem_cons, List.not_mem_nil, or_false, not_false_eq_true] <;> omega) | fail)) only [↓rsSupL_0, rsSupL_1, Option.isNone_some, Option.isNone_none, tick_eq, tickV_eq, ne_eq, Int.reduceAdd, Int.reduceSub, Int.reduceMul, Int.reduceEq, Int.reduceLT, Int.reduceLE, Int.reduceToNat, Nat.reduceMul, Nat.reduceAdd, Nat.reduceSub, List.nil_append, List.cons_append, List.getElem?_toArray, List.getElem?_cons_zero, List.getElem?_cons_succ, List.setIfInBounds_toArray, List.set_cons_zero, List.set_cons_succ, Option.map_some, List.not_mem_nil, ←decide_not, e1, e3, l1, b4, t4, s4, es, hn, hs]
  exact ⟨by trivial, (X4.trans F5).trans F6⟩
theorem sb_ext (a b : SB) (h : ((a.ep.toNat : Int) = b.ep.toNat) ∧ (a.sec = b.sec ∧ a.log = b.log ∧ a.wds = b.wds) ∧ a.sp = b.sp ∧ a.n = b.n ∧ (a.lg.toNat : Int) = b.lg.toNat) : a = b := by
  obtain ⟨a1, a2, a3, a4, a5, a6, a7⟩ := a
  obtain ⟨b1, b2, b3, b4, b5, b6, b7⟩ := b
  obtain ⟨h1, ⟨h2, h3, h4⟩, h5, h6, h7⟩ := h
  simp only at h1 h2 h3 h4 h5 h6 h7
  have e1 : a1 = b1 := BitVec.eq_of_toNat_eq (by omega)
  have e7 : a7 = b7 := BitVec.eq_of_toNat_eq (by omega)
  subst e1 h2 h3 h4 h5 h6 e7
  rfl
abbrev rsSupL_2 := (And.intro @xBox_r (And.intro @loadK_some (And.intro @loadsK_s (And.intro @loadsK_n (And.intro @loadsR_s (And.intro @loadsR_n (And.intro @storesK_s (And.intro @storesK_n (And.intro @xPick_t (And.intro @xPick_f (And.intro @xGuard_tt (And.intro @xGuard_ff (And.intro @xGuard_tf (And.intro @xGuard_ft (And.intro @xGuard_u 
  (And.intro @xNil_r (And.intro @xIf_t (And.intro @xBin_add' (And.intro @xBin_sub' (And.intro @xBin_mul' (And.intro @xBin_quo' (And.intro @xBin_rem' (And.intro @xIf_f (And.intro @xIf_tt (And.intro @xEx0 (And.intro @xEx1 (And.intro @xEx2 (And.intro @xEx3 (And.intro @xBin_eqs (And.intro @xBin_nes (And.intro @xUn_not (And.intro @xu8_add (And.intro @xu8_com 
  (And.intro @xu8_eql (And.intro @xu8_neq (And.intro @xu16_add (And.intro @xu16_com (And.intro @xu16_eql (And.intro @xu16_neq (And.intro @xu32_add (And.intro @xu32_com (And.intro @xu32_eql (And.intro @xu32_neq (And.intro @xu64_add (And.intro @xu64_com (And.intro @xu64_eql (And.intro @xu64_neq (And.intro @xi64_eql (And.intro @xi64_neq (And.intro @xi64_neg 
  (And.intro @xMakeFunc_r (And.intro @xSq_r (And.intro @xPur_s (And.intro @xRd_s (And.intro @xRe_s (And.intro @xDet_s (And.intro @xDet_ld (And.intro @xDet_ld2 (And.intro @xDet_ld3 (And.intro @xDet_ld4 (And.intro @xGuard_tt (And.intro @ld_56 (And.intro @ld_58 (And.intro @fa_58_1 (And.intro @eb_4 (And.intro @es_58 @nb_4))))))))))))))))))))))))))))))))))))))))))))))))))))))))))))))))))
theorem SuperUnlike_spec (a b : SB) (w : World) : Gives Try.prog n_loamlaw6_SuperUnlike #[sbV a, sbV b] w (.bool true) := by
  refine loamlaw6_SuperUnlike_of ?_
  unfold loamlaw6_SuperUnlike
  simp (disch := (first | omega | decide | (simp only [World.size_alloc, World.size_setCell, World.size_drew, size_sets, List.mem_cons, List.not_mem_nil, or_false, not_false_eq_true] <;> omega) | fail)) only [↓rsSupL_2, rsSupL_1, Option.isNone_some, Option.isNone_none, tick_eq, tickV_eq, ne_eq, Int.reduceAdd, Int.reduceSub, Int.reduceMul, Int.reduceEq, Int.reduceLT, Int.reduceLE, Int.reduceToNat, Nat.reduceMul, Nat.reduceAdd, Nat.reduceSub, List.nil_append, List.cons_append, List.getElem?_toArray, List.getElem?_cons_zero, List.getElem?_cons_succ, List.setIfInBounds_toArray, List.set_cons_zero, List.set_cons_succ, Option.map_some, List.not_mem_nil, ←decide_not, eq_self]
  refine loamlaw6_known_call (Gives.to (known6_spec _) fun w1 E1 => ?_)
  have z1 := E1.size
  try simp only [World.size_alloc, World.size_setCell, World.size_drew] at z1
  have e1_0 : ∀ o, w1.cell? ⟨w.heap.size, o, none⟩ = _ := fun o => E1.cell_o (by first | omega | (simp only [World.size_alloc, World.size_setCell, World.size_drew, size_sets] <;> omega))
  have e1_1 : ∀ o, w1.cell? ⟨w.heap.size + 1, o, none⟩ = _ := fun o => E1.cell_o (by first | omega | (simp only [World.size_alloc, World.size_setCell, World.size_drew, size_sets] <;> omega))
  simp (disch := (first | omega | decide | (simp only [World.size_alloc, World.size_setCell, World.size_drew, size_sets, List.mem_cons, List.not_mem_nil, or_false, not_false_eq_true] <;> omega) | fail)) only [↓rsSupL_2, rsSupL_1, Option.isNone_some, Option.isNone_none, tick_eq, tickV_eq, ne_eq, Int.reduceAdd, Int.reduceSub, Int.reduceMul, Int.reduceEq, Int.reduceLT, Int.reduceLE, Int.reduceToNat, Nat.reduceMul, Nat.reduceAdd, Nat.reduceSub, List.nil_append, List.cons_append, List.getElem?_toArray, List.getElem?_cons_zero, List.getElem?_cons_succ, List.setIfInBounds_toArray, List.set_cons_zero, List.set_cons_succ, Option.map_some, List.not_mem_nil, ←decide_not, e1_0, e1_1]
  refine loamlaw6_Few_call (Gives.to (Few6_spec a.sec a.log a.wds _) fun w2 E2 => ?_)
  have z2 := E2.size
  try simp only [World.size_alloc, World.size_setCell, World.size_drew] at z2
  have e2_0 : ∀ o, w2.cell? ⟨w.heap.size, o, none⟩ = _ := fun o => E2.cell_o (by first | omega | (simp only [World.size_alloc, World.size_setCell, World.size_drew, size_sets] <;> omega))
  have e2_1 : ∀ o, w2.cell? ⟨w.heap.size + 1, o, none⟩ = _ := fun o => E2.cell_o (by first | omega | (simp only [World.size_alloc, World.size_setCell, World.size_drew, size_sets] <;> omega))
  have X2 : Ext [] w w2 := (((Ext.alloc [] w _).alloc' _).trans E1).trans E2
  by_cases g1 : few6 a.sec a.log a.wds
  · have hv := decide_eq_true g1
    simp (disch := (first | omega | decide | (simp only [World.size_alloc, World.size_setCell, World.size_drew, size_sets, List.mem_cons, List.not_mem_nil, or_false, not_false_eq_true] <;> omega) | fail)) only [↓rsSupL_2, rsSupL_1, Option.isNone_some, Option.isNone_none, tick_eq, tickV_eq, ne_eq, Int.reduceAdd, Int.reduceSub, Int.reduceMul, Int.reduceEq, Int.reduceLT, Int.reduceLE, Int.reduceToNat, Nat.reduceMul, Nat.reduceAdd, Nat.reduceSub, List.nil_append, List.cons_append, List.getElem?_toArray, List.getElem?_cons_zero, List.getElem?_cons_succ, List.setIfInBounds_toArray, List.set_cons_zero, List.set_cons_succ, Option.map_some, List.not_mem_nil, ←decide_not, e1_0, e1_1, e2_0, e2_1, hv]
    refine loamlaw6_Few_call (Gives.to (Few6_spec b.sec b.log b.wds _) fun w3 E3 => ?_)
    have z3 := E3.size
    try simp only [World.size_alloc, World.size_setCell, World.size_drew] at z3
    have e3_0 : ∀ o, w3.cell? ⟨w.heap.size, o, none⟩ = _ := fun o => E3.cell_o (by first | omega | (simp only [World.size_alloc, World.size_setCell, World.size_drew, size_sets] <;> omega))
    have e3_1 : ∀ o, w3.cell? ⟨w.heap.size + 1, o, none⟩ = _ := fun o => E3.cell_o (by first | omega | (simp only [World.size_alloc, World.size_setCell, World.size_drew, size_sets] <;> omega))
    have X3 := X2.trans E3
    by_cases g2 : few6 b.sec b.log b.wds
    · have hv2 := decide_eq_true g2
      simp (disch := (first | omega | decide | (simp only [World.size_alloc, World.size_setCell, World.size_drew, size_sets, List.mem_cons, List.not_mem_nil, or_false, not_false_eq_true] <;> omega) | fail)) only [↓rsSupL_2, rsSupL_1, Option.isNone_some, Option.isNone_none, tick_eq, tickV_eq, ne_eq, Int.reduceAdd, Int.reduceSub, Int.reduceMul, Int.reduceEq, Int.reduceLT, Int.reduceLE, Int.reduceToNat, Nat.reduceMul, Nat.reduceAdd, Nat.reduceSub, List.nil_append, List.cons_append, List.getElem?_toArray, List.getElem?_cons_zero, List.getElem?_cons_succ, List.setIfInBounds_toArray, List.set_cons_zero, List.set_cons_succ, Option.map_some, List.not_mem_nil, ←decide_not, e1_0, e1_1, e2_0, e2_1, hv, e3_0, e3_1, hv2]
      refine sup_Encode_call (Yld.mono (sup_Encode_spec a _) ?_)
      rintro u4 w4 ⟨F4, a4, c4, rfl, q1, q2, q3⟩
      have hz4 := F4.size
      have r0 : ∀ o, w4.cell? ⟨w.heap.size, o, none⟩ = _ := fun o => F4.cell_o (by omega)
      have r1 : ∀ o, w4.cell? ⟨w.heap.size + 1, o, none⟩ = _ := fun o => F4.cell_o (by omega)
      simp (disch := (first | omega | decide | (simp only [World.size_alloc, World.size_setCell, World.size_drew, size_sets, List.mem_cons, List.not_mem_nil, or_false, not_false_eq_true] <;> omega) | fail)) only [↓rsSupL_2, rsSupL_1, Option.isNone_some, Option.isNone_none, tick_eq, tickV_eq, ne_eq, Int.reduceAdd, Int.reduceSub, Int.reduceMul, Int.reduceEq, Int.reduceLT, Int.reduceLE, Int.reduceToNat, Nat.reduceMul, Nat.reduceAdd, Nat.reduceSub, List.nil_append, List.cons_append, List.getElem?_toArray, List.getElem?_cons_zero, List.getElem?_cons_succ, List.setIfInBounds_toArray, List.set_cons_zero, List.set_cons_succ, Option.map_some, List.not_mem_nil, ←decide_not, e1_0, e1_1, e2_0, e2_1, hv, e3_0, e3_1, hv2, r0, r1]
      refine sup_Encode_call (Yld.mono (sup_Encode_spec b _) ?_)
      rintro u5 w5 ⟨F5, a5, c5, rfl, p1, p2, p3⟩
      have t0 : ∀ o, w5.cell? ⟨w.heap.size, o, none⟩ = _ := fun o => F5.cell_o (by omega)
      have t1 : ∀ o, w5.cell? ⟨w.heap.size + 1, o, none⟩ = _ := fun o => F5.cell_o (by omega)
      have X5 := (X3.trans F4).trans F5
      by_cases ha : SbOk a
      · have ea := sbErr_0 ha
        by_cases hb : SbOk b
        · have eb := sbErr_0 hb
          have s1 := strB (c := c4) rfl ((q3.ext0 F5).ext0 (Ext.drew [] _))
          have s2 := strB (c := c5) rfl (p3.ext0 (Ext.drew [] _))
          simp (disch := (first | omega | decide | (simp only [World.size_alloc, World.size_setCell, World.size_drew, size_sets, List.mem_cons, List.not_mem_nil, or_false, not_false_eq_true] <;> omega) | fail)) only [↓rsSupL_2, rsSupL_1, Option.isNone_some, Option.isNone_none, tick_eq, tickV_eq, ne_eq, Int.reduceAdd, Int.reduceSub, Int.reduceMul, Int.reduceEq, Int.reduceLT, Int.reduceLE, Int.reduceToNat, Nat.reduceMul, Nat.reduceAdd, Nat.reduceSub, List.nil_append, List.cons_append, List.getElem?_toArray, List.getElem?_cons_zero, List.getElem?_cons_succ, List.setIfInBounds_toArray, List.set_cons_zero, List.set_cons_succ, Option.map_some, List.not_mem_nil, ←decide_not, e1_0, e1_1, e2_0, e2_1, hv, e3_0, e3_1, hv2, r0, r1, ea, eb, s1, s2, t0, t1]
          refine ⟨?_, by (repeat (first | with_reducible exact Ext.refl _ _ | with_reducible assumption | with_reducible refine Ext.alloc' ?_ _ | with_reducible refine Ext.drew' ?_ | with_reducible refine Ext.set' ?_ ?_ | exact .inr (by first | omega | (simp only [World.size_alloc, World.size_drew, World.size_setCell] <;> omega)) | refine Ext.trans ?_ (by with_reducible assumption)))⟩
          congr 1
          rw [beq_iff_eq, Bool.eq_iff_iff]
          simp only [decide_eq_true_eq, Bool.and_eq_true, strOf_inj]
          refine ⟨fun h => ?_, fun h => ?_⟩
          · have := sbEnc_inj ha hb h
            subst this
            simp
          · rw [sb_ext a b h]
        · have eb := sbErr_1 hb
          simp (disch := (first | omega | decide | (simp only [World.size_alloc, World.size_setCell, World.size_drew, size_sets, List.mem_cons, List.not_mem_nil, or_false, not_false_eq_true] <;> omega) | fail)) only [↓rsSupL_2, rsSupL_1, Option.isNone_some, Option.isNone_none, tick_eq, tickV_eq, ne_eq, Int.reduceAdd, Int.reduceSub, Int.reduceMul, Int.reduceEq, Int.reduceLT, Int.reduceLE, Int.reduceToNat, Nat.reduceMul, Nat.reduceAdd, Nat.reduceSub, List.nil_append, List.cons_append, List.getElem?_toArray, List.getElem?_cons_zero, List.getElem?_cons_succ, List.setIfInBounds_toArray, List.set_cons_zero, List.set_cons_succ, Option.map_some, List.not_mem_nil, ←decide_not, e1_0, e1_1, e2_0, e2_1, hv, e3_0, e3_1, hv2, r0, r1, ea, eb]
          exact ⟨by trivial, by (repeat (first | with_reducible exact Ext.refl _ _ | with_reducible assumption | with_reducible refine Ext.alloc' ?_ _ | with_reducible refine Ext.drew' ?_ | with_reducible refine Ext.set' ?_ ?_ | exact .inr (by first | omega | (simp only [World.size_alloc, World.size_drew, World.size_setCell] <;> omega)) | refine Ext.trans ?_ (by with_reducible assumption)))⟩
      · have ea := sbErr_1 ha
        by_cases hb : SbOk b
        · have eb := sbErr_0 hb
          simp (disch := (first | omega | decide | (simp only [World.size_alloc, World.size_setCell, World.size_drew, size_sets, List.mem_cons, List.not_mem_nil, or_false, not_false_eq_true] <;> omega) | fail)) only [↓rsSupL_2, rsSupL_1, Option.isNone_some, Option.isNone_none, tick_eq, tickV_eq, ne_eq, Int.reduceAdd, Int.reduceSub, Int.reduceMul, Int.reduceEq, Int.reduceLT, Int.reduceLE, Int.reduceToNat, Nat.reduceMul, Nat.reduceAdd, Nat.reduceSub, List.nil_append, List.cons_append, List.getElem?_toArray, List.getElem?_cons_zero, List.getElem?_cons_succ, List.setIfInBounds_toArray, List.set_cons_zero, List.set_cons_succ, Option.map_some, List.not_mem_nil, ←decide_not, e1_0, e1_1, e2_0, e2_1, hv, e3_0, e3_1, hv2, r0, r1, ea, eb]
          exact ⟨by trivial, by (repeat (first | with_reducible exact Ext.refl _ _ | with_reducible assumption | with_reducible refine Ext.alloc' ?_ _ | with_reducible refine Ext.drew' ?_ | with_reducible refine Ext.set' ?_ ?_ | exact .inr (by first | omega | (simp only [World.size_alloc, World.size_drew, World.size_setCell] <;> omega)) | refine Ext.trans ?_ (by with_reducible assumption)))⟩
        · have eb := sbErr_1 hb
          simp (disch := (first | omega | decide | (simp only [World.size_alloc, World.size_setCell, World.size_drew, size_sets, List.mem_cons, List.not_mem_nil, or_false, not_false_eq_true] <;> omega) | fail)) only [↓rsSupL_2, rsSupL_1, Option.isNone_some, Option.isNone_none, tick_eq, tickV_eq, ne_eq, Int.reduceAdd, Int.reduceSub, Int.reduceMul, Int.reduceEq, Int.reduceLT, Int.reduceLE, Int.reduceToNat, Nat.reduceMul, Nat.reduceAdd, Nat.reduceSub, List.nil_append, List.cons_append, List.getElem?_toArray, List.getElem?_cons_zero, List.getElem?_cons_succ, List.setIfInBounds_toArray, List.set_cons_zero, List.set_cons_succ, Option.map_some, List.not_mem_nil, ←decide_not, e1_0, e1_1, e2_0, e2_1, hv, e3_0, e3_1, hv2, r0, r1, ea, eb]
          exact ⟨by trivial, by (repeat (first | with_reducible exact Ext.refl _ _ | with_reducible assumption | with_reducible refine Ext.alloc' ?_ _ | with_reducible refine Ext.drew' ?_ | with_reducible refine Ext.set' ?_ ?_ | exact .inr (by first | omega | (simp only [World.size_alloc, World.size_drew, World.size_setCell] <;> omega)) | refine Ext.trans ?_ (by with_reducible assumption)))⟩
    · have hv2 := decide_eq_false g2
      simp (disch := (first | omega | decide | (simp only [World.size_alloc, World.size_setCell, World.size_drew, size_sets, List.mem_cons, List.not_mem_nil, or_false, not_false_eq_true] <;> omega) | fail)) only [↓rsSupL_2, rsSupL_1, Option.isNone_some, Option.isNone_none, tick_eq, tickV_eq, ne_eq, Int.reduceAdd, Int.reduceSub, Int.reduceMul, Int.reduceEq, Int.reduceLT, Int.reduceLE, Int.reduceToNat, Nat.reduceMul, Nat.reduceAdd, Nat.reduceSub, List.nil_append, List.cons_append, List.getElem?_toArray, List.getElem?_cons_zero, List.getElem?_cons_succ, List.setIfInBounds_toArray, List.set_cons_zero, List.set_cons_succ, Option.map_some, List.not_mem_nil, ←decide_not, e1_0, e1_1, e2_0, e2_1, hv, e3_0, e3_1, hv2]
      exact ⟨by trivial, by (repeat (first | with_reducible exact Ext.refl _ _ | with_reducible assumption | with_reducible refine Ext.alloc' ?_ _ | with_reducible refine Ext.drew' ?_ | with_reducible refine Ext.set' ?_ ?_ | exact .inr (by first | omega | (simp only [World.size_alloc, World.size_drew, World.size_setCell] <;> omega)) | refine Ext.trans ?_ (by with_reducible assumption)))⟩
  · have hv := decide_eq_false g1
    simp (disch := (first | omega | decide | (simp only [World.size_alloc, World.size_setCell, World.size_drew, size_sets, List.mem_cons, List.not_mem_nil, or_false, not_false_eq_true] <;> omega) | fail)) only [↓rsSupL_2, rsSupL_1, Option.isNone_some, Option.isNone_none, tick_eq, tickV_eq, ne_eq, Int.reduceAdd, Int.reduceSub, Int.reduceMul, Int.reduceEq, Int.reduceLT, Int.reduceLE, Int.reduceToNat, Nat.reduceMul, Nat.reduceAdd, Nat.reduceSub, List.nil_append, List.cons_append, List.getElem?_toArray, List.getElem?_cons_zero, List.getElem?_cons_succ, List.setIfInBounds_toArray, List.set_cons_zero, List.set_cons_succ, Option.map_some, List.not_mem_nil, ←decide_not, e1_0, e1_1, e2_0, e2_1, hv]
    exact ⟨by trivial, by (repeat (first | with_reducible exact Ext.refl _ _ | with_reducible assumption | with_reducible refine Ext.alloc' ?_ _ | with_reducible refine Ext.drew' ?_ | with_reducible refine Ext.set' ?_ ?_ | exact .inr (by first | omega | (simp only [World.size_alloc, World.size_drew, World.size_setCell] <;> omega)) | refine Ext.trans ?_ (by with_reducible assumption)))⟩
abbrev rsSupL_3 := (And.intro @xBox_r (And.intro @loadK_some (And.intro @loadsK_s (And.intro @loadsK_n (And.intro @loadsR_s (And.intro @loadsR_n (And.intro @storesK_s (And.intro @storesK_n (And.intro @xPick_t (And.intro @xPick_f (And.intro @xGuard_tt (And.intro @xGuard_ff (And.intro @xGuard_tf (And.intro @xGuard_ft (And.intro @xGuard_u 
  (And.intro @xNil_r (And.intro @xIf_t (And.intro @xBin_add' (And.intro @xBin_sub' (And.intro @xBin_mul' (And.intro @xBin_quo' (And.intro @xBin_rem' (And.intro @xIf_f (And.intro @xIf_tt (And.intro @xEx0 (And.intro @xEx1 (And.intro @xEx2 (And.intro @xEx3 (And.intro @xBin_eqs (And.intro @xBin_nes (And.intro @xUn_not (And.intro @xu8_com (And.intro @xu8_eql 
  (And.intro @xu8_gtr (And.intro @xu16_com (And.intro @xu16_eql (And.intro @xu16_gtr (And.intro @xu32_com (And.intro @xu32_eql (And.intro @xu32_gtr (And.intro @xu64_com (And.intro @xu64_eql (And.intro @xu64_gtr (And.intro @xi64_gtr (And.intro @xi64_eql (And.intro @xMakeFunc_r (And.intro @xSq_r (And.intro @xPur_s (And.intro @xRd_s (And.intro @xRe_s 
  (And.intro @xDet_s (And.intro @xDet_ld (And.intro @xDet_ld2 (And.intro @xDet_ld3 (And.intro @xDet_ld4 (And.intro @xGuard_tt (And.intro @ld_58 (And.intro @ld_66 (And.intro @al_58 (And.intro @al_66 (And.intro @st_58 (And.intro @st_66 (And.intro @es_66 @ln_26)))))))))))))))))))))))))))))))))))))))))))))))))))))))))))))))
theorem SuperBytes_spec (s : List (BitVec 8)) (a : Option Addr) (n c : Nat) (w : World) (hA : BytesArg w s a n c) : Gives Try.prog n_loamlaw6_SuperBytes #[.slice a n c] w (.bool true) := by
  have hn := hA.len
  subst hn
  have hcap := hA.cap
  refine loamlaw6_SuperBytes_of ?_
  unfold loamlaw6_SuperBytes
  refine loamlaw6_known_call (Gives.to (known6_spec _) fun w1 E1 => ?_)
  have z1 := E1.size
  try simp only [World.size_alloc, World.size_setCell, World.size_drew] at z1
  simp (disch := (first | omega | decide | (simp only [World.size_alloc, World.size_setCell, World.size_drew, size_sets, List.mem_cons, List.not_mem_nil, or_false, not_false_eq_true] <;> omega) | fail)) only [↓rsSupL_3, rsSupL_1, Option.isNone_some, Option.isNone_none, tick_eq, tickV_eq, ne_eq, Int.reduceAdd, Int.reduceSub, Int.reduceMul, Int.reduceEq, Int.reduceLT, Int.reduceLE, Int.reduceToNat, Nat.reduceMul, Nat.reduceAdd, Nat.reduceSub, List.nil_append, List.cons_append, List.getElem?_toArray, List.getElem?_cons_zero, List.getElem?_cons_succ, List.setIfInBounds_toArray, List.set_cons_zero, List.set_cons_succ, Option.map_some, List.not_mem_nil, ←decide_not, eq_self]
  by_cases g : 1100 < s.length
  · simp (disch := (first | omega | decide | (simp only [World.size_alloc, World.size_setCell, World.size_drew, size_sets, List.mem_cons, List.not_mem_nil, or_false, not_false_eq_true] <;> omega) | fail)) only [↓rsSupL_3, rsSupL_1, Option.isNone_some, Option.isNone_none, tick_eq, tickV_eq, ne_eq, Int.reduceAdd, Int.reduceSub, Int.reduceMul, Int.reduceEq, Int.reduceLT, Int.reduceLE, Int.reduceToNat, Nat.reduceMul, Nat.reduceAdd, Nat.reduceSub, List.nil_append, List.cons_append, List.getElem?_toArray, List.getElem?_cons_zero, List.getElem?_cons_succ, List.setIfInBounds_toArray, List.set_cons_zero, List.set_cons_succ, Option.map_some, List.not_mem_nil, ←decide_not, eq_self]
    exact ⟨by trivial, by (repeat (first | with_reducible exact Ext.refl _ _ | with_reducible assumption | with_reducible refine Ext.alloc' ?_ _ | with_reducible refine Ext.drew' ?_ | with_reducible refine Ext.set' ?_ ?_ | exact .inr (by first | omega | (simp only [World.size_alloc, World.size_drew, World.size_setCell] <;> omega)) | refine Ext.trans ?_ (by with_reducible assumption)))⟩
  simp (disch := (first | omega | decide | (simp only [World.size_alloc, World.size_setCell, World.size_drew, size_sets, List.mem_cons, List.not_mem_nil, or_false, not_false_eq_true] <;> omega) | fail)) only [↓rsSupL_3, rsSupL_1, Option.isNone_some, Option.isNone_none, tick_eq, tickV_eq, ne_eq, Int.reduceAdd, Int.reduceSub, Int.reduceMul, Int.reduceEq, Int.reduceLT, Int.reduceLE, Int.reduceToNat, Nat.reduceMul, Nat.reduceAdd, Nat.reduceSub, List.nil_append, List.cons_append, List.getElem?_toArray, List.getElem?_cons_zero, List.getElem?_cons_succ, List.setIfInBounds_toArray, List.set_cons_zero, List.set_cons_succ, Option.map_some, List.not_mem_nil, ←decide_not, eq_self]
  refine sup_Decode_call (Gives.to (sup_Decode_spec s a c _ (by omega) (hA.row.ext0 E1)) fun w2 F2 => ?_)
  have X2 := E1.trans F2
  simp (disch := (first | omega | decide | (simp only [World.size_alloc, World.size_setCell, World.size_drew, size_sets, List.mem_cons, List.not_mem_nil, or_false, not_false_eq_true] <;> omega) | fail)) only [↓rsSupL_3, rsSupL_1, Option.isNone_some, Option.isNone_none, tick_eq, tickV_eq, ne_eq, Int.reduceAdd, Int.reduceSub, Int.reduceMul, Int.reduceEq, Int.reduceLT, Int.reduceLE, Int.reduceToNat, Nat.reduceMul, Nat.reduceAdd, Nat.reduceSub, List.nil_append, List.cons_append, List.getElem?_toArray, List.getElem?_cons_zero, List.getElem?_cons_succ, List.setIfInBounds_toArray, List.set_cons_zero, List.set_cons_succ, Option.map_some, List.not_mem_nil, ←decide_not, eq_self]
  refine loamref6_Decode_call (Gives.to (rDecode_spec s a c _ (by omega) hcap (hA.row.ext0 (X2.alloc' _))) fun w3 F3 => ?_)
  have hz3 := F3.size
  rw [World.size_alloc] at hz3
  have r0 : ∀ o, w3.cell? ⟨w2.heap.size, o, none⟩ = _ := fun o => F3.cell_o (by simp)
  have e1 : decide (sbDecE s = sbDecE s) = true := decide_eq_true rfl
  simp (disch := (first | omega | decide | (simp only [World.size_alloc, World.size_setCell, World.size_drew, size_sets, List.mem_cons, List.not_mem_nil, or_false, not_false_eq_true] <;> omega) | fail)) only [↓rsSupL_3, rsSupL_1, Option.isNone_some, Option.isNone_none, tick_eq, tickV_eq, ne_eq, Int.reduceAdd, Int.reduceSub, Int.reduceMul, Int.reduceEq, Int.reduceLT, Int.reduceLE, Int.reduceToNat, Nat.reduceMul, Nat.reduceAdd, Nat.reduceSub, List.nil_append, List.cons_append, List.getElem?_toArray, List.getElem?_cons_zero, List.getElem?_cons_succ, List.setIfInBounds_toArray, List.set_cons_zero, List.set_cons_succ, Option.map_some, List.not_mem_nil, ←decide_not, r0, e1]
  refine loamlaw6_Of_call (Gives.to (Of6_spec (sbDec s) _) fun w4 F4 => ?_)
  have hz4 := F4.size
  rw [World.size_drew, World.size_alloc] at hz4
  have r1 : ∀ o, w4.cell? ⟨w3.heap.size, o, none⟩ = _ := fun o => F4.cell_o (by simp)
  simp (disch := (first | omega | decide | (simp only [World.size_alloc, World.size_setCell, World.size_drew, size_sets, List.mem_cons, List.not_mem_nil, or_false, not_false_eq_true] <;> omega) | fail)) only [↓rsSupL_3, rsSupL_1, Option.isNone_some, Option.isNone_none, tick_eq, tickV_eq, ne_eq, Int.reduceAdd, Int.reduceSub, Int.reduceMul, Int.reduceEq, Int.reduceLT, Int.reduceLE, Int.reduceToNat, Nat.reduceMul, Nat.reduceAdd, Nat.reduceSub, List.nil_append, List.cons_append, List.getElem?_toArray, List.getElem?_cons_zero, List.getElem?_cons_succ, List.setIfInBounds_toArray, List.set_cons_zero, List.set_cons_succ, Option.map_some, List.not_mem_nil, ←decide_not, r0, e1, r1]
  refine ⟨?_, ((((X2.alloc' _).trans F3).alloc' _).drew').trans F4⟩
  simp
abbrev rsSupL_4 := (And.intro @xBox_r (And.intro @loadK_some (And.intro @loadsK_s (And.intro @loadsK_n (And.intro @loadsR_s (And.intro @loadsR_n (And.intro @storesK_s (And.intro @storesK_n (And.intro @xPick_t (And.intro @xPick_f (And.intro @xGuard_tt (And.intro @xGuard_ff (And.intro @xGuard_tf (And.intro @xGuard_ft (And.intro @xGuard_u 
  (And.intro @xNil_r (And.intro @xIf_t (And.intro @xBin_add' (And.intro @xBin_sub' (And.intro @xBin_mul' (And.intro @xBin_quo' (And.intro @xBin_rem' (And.intro @xIf_f (And.intro @xIf_tt (And.intro @xEx0 (And.intro @xEx1 (And.intro @xEx2 (And.intro @xEx3 (And.intro @xBin_eqs (And.intro @xBin_nes (And.intro @xUn_not (And.intro @xu8_rem (And.intro @xu8_com 
  (And.intro @xu8_eql (And.intro @xu8_neq (And.intro @xu8_gtr (And.intro @xu16_rem (And.intro @xu16_com (And.intro @xu16_eql (And.intro @xu16_neq (And.intro @xu16_gtr (And.intro @xu32_rem (And.intro @xu32_com (And.intro @xu32_eql (And.intro @xu32_neq (And.intro @xu32_gtr (And.intro @xu64_rem (And.intro @xu64_com (And.intro @xu64_eql (And.intro @xu64_neq 
  (And.intro @xu64_gtr (And.intro @xi64_gtr (And.intro @xi64_eql (And.intro @xi64_neq (And.intro @xi64_neg (And.intro @xMakeFunc_r (And.intro @xSq_r (And.intro @xPur_s (And.intro @xRd_s (And.intro @xRe_s (And.intro @xDet_s (And.intro @xDet_ld (And.intro @xDet_ld2 (And.intro @xDet_ld3 (And.intro @xDet_ld4 (And.intro @xGuard_tt (And.intro @ld_29 (And.intro @ld_56 
  (And.intro @ld_58 (And.intro @fa_58_0 (And.intro @fa_58_1 (And.intro @al_58 (And.intro @st_58 (And.intro @bd_58_0 (And.intro @bd_58_0_1_2_3_4 (And.intro @bd_58_1_3_2 (And.intro @bd_58 (And.intro @eb_4 (And.intro @es_58 (And.intro @nb_4 @cv_29_3))))))))))))))))))))))))))))))))))))))))))))))))))))))))))))))))))))))))))))))))
theorem SuperBack_spec (b : SB) (e0 : Int) (he : 0 ≤ e0 ∧ e0 ≤ 18446744073709551615) (w : World) : Gives Try.prog n_loamlaw6_SuperBack #[sbV b, .int .u64 e0] w (.bool true) := by
  rw [u64_of he.1 he.2]
  generalize BitVec.ofInt 64 e0 = x
  refine loamlaw6_SuperBack_of ?_
  unfold loamlaw6_SuperBack
  simp (disch := (first | omega | decide | (simp only [World.size_alloc, World.size_setCell, World.size_drew, size_sets, List.mem_cons, List.not_mem_nil, or_false, not_false_eq_true] <;> omega) | fail)) only [↓rsSupL_4, rsSupL_1, Option.isNone_some, Option.isNone_none, tick_eq, tickV_eq, ne_eq, Int.reduceAdd, Int.reduceSub, Int.reduceMul, Int.reduceEq, Int.reduceLT, Int.reduceLE, Int.reduceToNat, Nat.reduceMul, Nat.reduceAdd, Nat.reduceSub, List.nil_append, List.cons_append, List.getElem?_toArray, List.getElem?_cons_zero, List.getElem?_cons_succ, List.setIfInBounds_toArray, List.set_cons_zero, List.set_cons_succ, Option.map_some, List.not_mem_nil, ←decide_not, eq_self]
  refine loamlaw6_known_call (Gives.to (known6_spec _) fun w1 E1 => ?_)
  have z1 := E1.size
  try simp only [World.size_alloc, World.size_setCell, World.size_drew] at z1
  have e1_0 : ∀ o, w1.cell? ⟨w.heap.size, o, none⟩ = _ := fun o => E1.cell_o (by first | omega | (simp only [World.size_alloc, World.size_setCell, World.size_drew, size_sets] <;> omega))
  simp (disch := (first | omega | decide | (simp only [World.size_alloc, World.size_setCell, World.size_drew, size_sets, List.mem_cons, List.not_mem_nil, or_false, not_false_eq_true] <;> omega) | fail)) only [↓rsSupL_4, rsSupL_1, Option.isNone_some, Option.isNone_none, tick_eq, tickV_eq, ne_eq, Int.reduceAdd, Int.reduceSub, Int.reduceMul, Int.reduceEq, Int.reduceLT, Int.reduceLE, Int.reduceToNat, Nat.reduceMul, Nat.reduceAdd, Nat.reduceSub, List.nil_append, List.cons_append, List.getElem?_toArray, List.getElem?_cons_zero, List.getElem?_cons_succ, List.setIfInBounds_toArray, List.set_cons_zero, List.set_cons_succ, Option.map_some, List.not_mem_nil, ←decide_not, e1_0]
  refine loamlaw6_Few_call (Gives.to (Few6_spec b.sec b.log b.wds _) fun w2 E2 => ?_)
  have z2 := E2.size
  try simp only [World.size_alloc, World.size_setCell, World.size_drew] at z2
  have e2_0 : ∀ o, w2.cell? ⟨w.heap.size, o, none⟩ = _ := fun o => E2.cell_o (by first | omega | (simp only [World.size_alloc, World.size_setCell, World.size_drew, size_sets] <;> omega))
  have X2 : Ext [] w w2 := ((Ext.alloc [] w _).trans E1).trans E2
  by_cases g1 : few6 b.sec b.log b.wds
  · have hv := decide_eq_true g1
    simp (disch := (first | omega | decide | (simp only [World.size_alloc, World.size_setCell, World.size_drew, size_sets, List.mem_cons, List.not_mem_nil, or_false, not_false_eq_true] <;> omega) | fail)) only [↓rsSupL_4, rsSupL_1, Option.isNone_some, Option.isNone_none, tick_eq, tickV_eq, ne_eq, Int.reduceAdd, Int.reduceSub, Int.reduceMul, Int.reduceEq, Int.reduceLT, Int.reduceLE, Int.reduceToNat, Nat.reduceMul, Nat.reduceAdd, Nat.reduceSub, List.nil_append, List.cons_append, List.getElem?_toArray, List.getElem?_cons_zero, List.getElem?_cons_succ, List.setIfInBounds_toArray, List.set_cons_zero, List.set_cons_succ, Option.map_some, List.not_mem_nil, ←decide_not, e1_0, e2_0, hv]
    refine sup_Encode_call (Yld.mono (sup_Encode_spec b _) ?_)
    rintro u3 w3 ⟨F3, a3, c3, rfl, q1, q2, q3⟩
    have hz3 := F3.size
    have X3 := X2.trans F3
    have r3 : ∀ o, w3.cell? ⟨w.heap.size, o, none⟩ = _ := fun o => F3.cell_o (by omega)
    simp (disch := (first | omega | decide | (simp only [World.size_alloc, World.size_setCell, World.size_drew, size_sets, List.mem_cons, List.not_mem_nil, or_false, not_false_eq_true] <;> omega) | fail)) only [↓rsSupL_4, rsSupL_1, Option.isNone_some, Option.isNone_none, tick_eq, tickV_eq, ne_eq, Int.reduceAdd, Int.reduceSub, Int.reduceMul, Int.reduceEq, Int.reduceLT, Int.reduceLE, Int.reduceToNat, Nat.reduceMul, Nat.reduceAdd, Nat.reduceSub, List.nil_append, List.cons_append, List.getElem?_toArray, List.getElem?_cons_zero, List.getElem?_cons_succ, List.setIfInBounds_toArray, List.set_cons_zero, List.set_cons_succ, Option.map_some, List.not_mem_nil, ←decide_not, e1_0, e2_0, hv, r3]
    refine loamlaw6_Of_call (Gives.to (Of6_spec b _) fun w3 E3 => ?_)
    have z3 := E3.size
    try simp only [World.size_alloc, World.size_setCell, World.size_drew] at z3
    have e3_0 : ∀ o, w3.cell? ⟨w.heap.size, o, none⟩ = _ := fun o => E3.cell_o (by first | omega | (simp only [World.size_alloc, World.size_setCell, World.size_drew, size_sets] <;> omega))
    refine loamref6_Encode_call (Yld.mono (rEncode_spec b _) ?_)
    rintro u5 w5 ⟨F5, a5, c5, rfl, p1, p2, p3⟩
    have hz5 := F5.size
    have X5 := (X3.trans E3).trans F5
    have r5 : ∀ o, w5.cell? ⟨w.heap.size, o, none⟩ = _ := fun o => F5.cell_o (by omega)
    have s1 := strB (c := c3) rfl ((q3.ext0 E3).ext0 F5)
    have s2 := strB (c := c5) rfl p3
    have d1 : decide (¬ sbErr b = sbErr b) = false := decide_eq_false (fun h => h rfl)
    have d2 : decide (strOf (sbEnc b) ≠ strOf (sbEnc b)) = false := decide_eq_false (fun h => h rfl)
    simp (disch := (first | omega | decide | (simp only [World.size_alloc, World.size_setCell, World.size_drew, size_sets, List.mem_cons, List.not_mem_nil, or_false, not_false_eq_true] <;> omega) | fail)) only [↓rsSupL_4, rsSupL_1, Option.isNone_some, Option.isNone_none, tick_eq, tickV_eq, ne_eq, Int.reduceAdd, Int.reduceSub, Int.reduceMul, Int.reduceEq, Int.reduceLT, Int.reduceLE, Int.reduceToNat, Nat.reduceMul, Nat.reduceAdd, Nat.reduceSub, List.nil_append, List.cons_append, List.getElem?_toArray, List.getElem?_cons_zero, List.getElem?_cons_succ, List.setIfInBounds_toArray, List.set_cons_zero, List.set_cons_succ, Option.map_some, List.not_mem_nil, ←decide_not, e1_0, e2_0, hv, r3, e3_0, r5, s1, s2, d1, d2]
    refine sup_Newer_call (Gives.to (sup_Newer_spec b ⟨x, 0, 0, 0, 0, 0, BitVec.ofNat 64 0⟩ _) fun w6 F6 => ?_)
    have hz6 := F6.size
    rw [World.size_drew, World.size_alloc] at hz6
    have r6 : ∀ o, w6.cell? ⟨w.heap.size, o, none⟩ = _ := fun o => F6.cell_o (by simp; omega)
    have dd : (decide (x.toNat < b.ep.toNat) == decide (x.toNat < b.ep.toNat)) = true := by simp
    simp (disch := (first | omega | decide | (simp only [World.size_alloc, World.size_setCell, World.size_drew, size_sets, List.mem_cons, List.not_mem_nil, or_false, not_false_eq_true] <;> omega) | fail)) only [↓rsSupL_4, rsSupL_1, Option.isNone_some, Option.isNone_none, tick_eq, tickV_eq, ne_eq, Int.reduceAdd, Int.reduceSub, Int.reduceMul, Int.reduceEq, Int.reduceLT, Int.reduceLE, Int.reduceToNat, Nat.reduceMul, Nat.reduceAdd, Nat.reduceSub, List.nil_append, List.cons_append, List.getElem?_toArray, List.getElem?_cons_zero, List.getElem?_cons_succ, List.setIfInBounds_toArray, List.set_cons_zero, List.set_cons_succ, Option.map_some, List.not_mem_nil, ←decide_not, e1_0, e2_0, hv, r3, e3_0, r5, s1, s2, d1, d2, r6, dd]
    refine sup_Slot_call (Gives.to (sup_Slot_spec b.ep _) fun w7 F7 => ?_)
    have hz7 := F7.size
    have X7 := (((X5.alloc' _).drew').trans F6).trans F7
    have r7 : ∀ o, w7.cell? ⟨w.heap.size, o, none⟩ = _ := fun o => F7.cell_o (by omega)
    have em : (b.ep &&& BitVec.ofNat 64 1) = b.ep % BitVec.ofNat 64 2 := by
      apply BitVec.eq_of_toNat_eq
      rw [BitVec.toNat_and, BitVec.toNat_umod]
      exact Nat.and_one_is_mod _
    have de : decide (¬ (b.ep % BitVec.ofNat 64 2).toInt = (b.ep % BitVec.ofNat 64 2).toInt) = false := decide_eq_false (fun h => h rfl)
    rw [em]
    simp (disch := (first | omega | decide | (simp only [World.size_alloc, World.size_setCell, World.size_drew, size_sets, List.mem_cons, List.not_mem_nil, or_false, not_false_eq_true] <;> omega) | fail)) only [↓rsSupL_4, rsSupL_1, Option.isNone_some, Option.isNone_none, tick_eq, tickV_eq, ne_eq, Int.reduceAdd, Int.reduceSub, Int.reduceMul, Int.reduceEq, Int.reduceLT, Int.reduceLE, Int.reduceToNat, Nat.reduceMul, Nat.reduceAdd, Nat.reduceSub, List.nil_append, List.cons_append, List.getElem?_toArray, List.getElem?_cons_zero, List.getElem?_cons_succ, List.setIfInBounds_toArray, List.set_cons_zero, List.set_cons_succ, Option.map_some, List.not_mem_nil, ←decide_not, e1_0, e2_0, hv, r3, e3_0, r5, s1, s2, d1, d2, r6, dd, r7, de]
    by_cases hb : SbOk b
    · have eb := sbErr_0 hb
      have hle : (sbEnc b).length ≤ 1000000 := by
        have := sec_of hb
        rw [sbEnc_len hb]; omega
      have D := sup_Decode_spec (sbEnc b) a3 c3 w7 hle ((((q3.ext0 E3).ext0 F5).ext0 (((Ext.alloc [] w5 (.cells #[u64 x, i64 0, i64 0, i64 0, i64 0, i64 0, c64 0] 58)).drew').trans F6)).ext0 F7)
      rw [(sbDec_enc hb).1, (sbDec_enc hb).2] at D
      simp (disch := (first | omega | decide | (simp only [World.size_alloc, World.size_setCell, World.size_drew, size_sets, List.mem_cons, List.not_mem_nil, or_false, not_false_eq_true] <;> omega) | fail)) only [↓rsSupL_4, rsSupL_1, Option.isNone_some, Option.isNone_none, tick_eq, tickV_eq, ne_eq, Int.reduceAdd, Int.reduceSub, Int.reduceMul, Int.reduceEq, Int.reduceLT, Int.reduceLE, Int.reduceToNat, Nat.reduceMul, Nat.reduceAdd, Nat.reduceSub, List.nil_append, List.cons_append, List.getElem?_toArray, List.getElem?_cons_zero, List.getElem?_cons_succ, List.setIfInBounds_toArray, List.set_cons_zero, List.set_cons_succ, Option.map_some, List.not_mem_nil, ←decide_not, e1_0, e2_0, hv, r3, e3_0, r5, s1, s2, d1, d2, r6, dd, r7, de, eb]
      refine sup_Decode_call (Gives.to D fun w8 F8 => ?_)
      have hz8 := F8.size
      have r8 : ∀ o, w8.cell? ⟨w.heap.size, o, none⟩ = _ := fun o => F8.cell_o (by omega)
      simp (disch := (first | omega | decide | (simp only [World.size_alloc, World.size_setCell, World.size_drew, size_sets, List.mem_cons, List.not_mem_nil, or_false, not_false_eq_true] <;> omega) | fail)) only [↓rsSupL_4, rsSupL_1, Option.isNone_some, Option.isNone_none, tick_eq, tickV_eq, ne_eq, Int.reduceAdd, Int.reduceSub, Int.reduceMul, Int.reduceEq, Int.reduceLT, Int.reduceLE, Int.reduceToNat, Nat.reduceMul, Nat.reduceAdd, Nat.reduceSub, List.nil_append, List.cons_append, List.getElem?_toArray, List.getElem?_cons_zero, List.getElem?_cons_succ, List.setIfInBounds_toArray, List.set_cons_zero, List.set_cons_succ, Option.map_some, List.not_mem_nil, ←decide_not, e1_0, e2_0, hv, r3, e3_0, r5, s1, s2, d1, d2, r6, dd, r7, de, eb, r8]
      exact ⟨by trivial, (X7.trans F8).alloc' _⟩
    · have eb := sbErr_1 hb
      simp (disch := (first | omega | decide | (simp only [World.size_alloc, World.size_setCell, World.size_drew, size_sets, List.mem_cons, List.not_mem_nil, or_false, not_false_eq_true] <;> omega) | fail)) only [↓rsSupL_4, rsSupL_1, Option.isNone_some, Option.isNone_none, tick_eq, tickV_eq, ne_eq, Int.reduceAdd, Int.reduceSub, Int.reduceMul, Int.reduceEq, Int.reduceLT, Int.reduceLE, Int.reduceToNat, Nat.reduceMul, Nat.reduceAdd, Nat.reduceSub, List.nil_append, List.cons_append, List.getElem?_toArray, List.getElem?_cons_zero, List.getElem?_cons_succ, List.setIfInBounds_toArray, List.set_cons_zero, List.set_cons_succ, Option.map_some, List.not_mem_nil, ←decide_not, e1_0, e2_0, hv, r3, e3_0, r5, s1, s2, d1, d2, r6, dd, r7, de, eb]
      exact ⟨by trivial, X7⟩
  · have hv := decide_eq_false g1
    simp (disch := (first | omega | decide | (simp only [World.size_alloc, World.size_setCell, World.size_drew, size_sets, List.mem_cons, List.not_mem_nil, or_false, not_false_eq_true] <;> omega) | fail)) only [↓rsSupL_4, rsSupL_1, Option.isNone_some, Option.isNone_none, tick_eq, tickV_eq, ne_eq, Int.reduceAdd, Int.reduceSub, Int.reduceMul, Int.reduceEq, Int.reduceLT, Int.reduceLE, Int.reduceToNat, Nat.reduceMul, Nat.reduceAdd, Nat.reduceSub, List.nil_append, List.cons_append, List.getElem?_toArray, List.getElem?_cons_zero, List.getElem?_cons_succ, List.setIfInBounds_toArray, List.set_cons_zero, List.set_cons_succ, Option.map_some, List.not_mem_nil, ←decide_not, e1_0, e2_0, hv]
    exact ⟨by trivial, by (repeat (first | with_reducible exact Ext.refl _ _ | with_reducible assumption | with_reducible refine Ext.alloc' ?_ _ | with_reducible refine Ext.drew' ?_ | with_reducible refine Ext.set' ?_ ?_ | exact .inr (by first | omega | (simp only [World.size_alloc, World.size_drew, World.size_setCell] <;> omega)) | refine Ext.trans ?_ (by with_reducible assumption)))⟩
abbrev rsSupL_5 := (And.intro @xBox_r (And.intro @loadK_some (And.intro @loadsK_s (And.intro @loadsK_n (And.intro @loadsR_s (And.intro @loadsR_n (And.intro @storesK_s (And.intro @storesK_n (And.intro @xPick_t (And.intro @xPick_f (And.intro @xGuard_tt (And.intro @xGuard_ff (And.intro @xGuard_tf (And.intro @xGuard_ft (And.intro @xGuard_u 
  (And.intro @xNil_r (And.intro @xIf_t (And.intro @xBin_add' (And.intro @xBin_sub' (And.intro @xBin_mul' (And.intro @xBin_quo' (And.intro @xBin_rem' (And.intro @xIf_f (And.intro @xIf_tt (And.intro @xEx0 (And.intro @xEx1 (And.intro @xEx2 (And.intro @xEx3 (And.intro @xBin_eqs (And.intro @xBin_nes (And.intro @xUn_not (And.intro @xu8_com (And.intro @xu8_eql 
  (And.intro @xu8_leq (And.intro @xu8_geq (And.intro @xu16_com (And.intro @xu16_eql (And.intro @xu16_leq (And.intro @xu16_geq (And.intro @xu32_com (And.intro @xu32_eql (And.intro @xu32_leq (And.intro @xu32_geq (And.intro @xu64_com (And.intro @xu64_eql (And.intro @xu64_leq (And.intro @xu64_geq (And.intro @xi64_leq (And.intro @xi64_geq (And.intro @xi64_eql 
  (And.intro @xMakeFunc_r (And.intro @xSq_r (And.intro @xPur_s (And.intro @xRd_s (And.intro @xRe_s (And.intro @xDet_s (And.intro @xDet_ld (And.intro @xDet_ld2 (And.intro @xDet_ld3 (And.intro @xDet_ld4 (And.intro @xGuard_tt (And.intro @ld_3 (And.intro @ld_56 (And.intro @fa_56_0 (And.intro @fa_56_2 (And.intro @bd_58_0 (And.intro @bd_58_0_1_2_3_4 (And.intro @bd_58_1_3_2 
  (And.intro @bd_58 (And.intro @eb_4 (And.intro @nb_4 @ln_26)))))))))))))))))))))))))))))))))))))))))))))))))))))))))))))))))))))))
theorem SuperLimits_spec (s l n words space : Int) (w : World) : Gives Try.prog n_loamlaw6_SuperLimits #[gm s l n, i64 words, i64 space] w (.bool true) := by
  refine loamlaw6_SuperLimits_of ?_
  unfold loamlaw6_SuperLimits
  simp (disch := (first | omega | decide | (simp only [World.size_alloc, World.size_setCell, World.size_drew, size_sets, List.mem_cons, List.not_mem_nil, or_false, not_false_eq_true] <;> omega) | fail)) only [↓rsSupL_5, rsSupL_1, Option.isNone_some, Option.isNone_none, tick_eq, tickV_eq, ne_eq, Int.reduceAdd, Int.reduceSub, Int.reduceMul, Int.reduceEq, Int.reduceLT, Int.reduceLE, Int.reduceToNat, Nat.reduceMul, Nat.reduceAdd, Nat.reduceSub, List.nil_append, List.cons_append, List.getElem?_toArray, List.getElem?_cons_zero, List.getElem?_cons_succ, List.setIfInBounds_toArray, List.set_cons_zero, List.set_cons_succ, Option.map_some, List.not_mem_nil, ←decide_not, eq_self]
  refine loamlaw6_known_call (Gives.to (known6_spec _) fun w1 E1 => ?_)
  have z1 := E1.size
  try simp only [World.size_alloc, World.size_setCell, World.size_drew] at z1
  have e1_0 : ∀ o, w1.cell? ⟨w.heap.size, o, none⟩ = _ := fun o => E1.cell_o (by first | omega | (simp only [World.size_alloc, World.size_setCell, World.size_drew, size_sets] <;> omega))
  simp (disch := (first | omega | decide | (simp only [World.size_alloc, World.size_setCell, World.size_drew, size_sets, List.mem_cons, List.not_mem_nil, or_false, not_false_eq_true] <;> omega) | fail)) only [↓rsSupL_5, rsSupL_1, Option.isNone_some, Option.isNone_none, tick_eq, tickV_eq, ne_eq, Int.reduceAdd, Int.reduceSub, Int.reduceMul, Int.reduceEq, Int.reduceLT, Int.reduceLE, Int.reduceToNat, Nat.reduceMul, Nat.reduceAdd, Nat.reduceSub, List.nil_append, List.cons_append, List.getElem?_toArray, List.getElem?_cons_zero, List.getElem?_cons_succ, List.setIfInBounds_toArray, List.set_cons_zero, List.set_cons_succ, Option.map_some, List.not_mem_nil, ←decide_not, e1_0]
  refine loamlaw6_Few_call (Gives.to (Few6_spec s l n _) fun w2 E2 => ?_)
  have z2 := E2.size
  try simp only [World.size_alloc, World.size_setCell, World.size_drew] at z2
  have e2_0 : ∀ o, w2.cell? ⟨w.heap.size, o, none⟩ = _ := fun o => E2.cell_o (by first | omega | (simp only [World.size_alloc, World.size_setCell, World.size_drew, size_sets] <;> omega))
  have X2 : Ext [] w w2 := ((Ext.alloc [] w _).trans E1).trans E2
  by_cases g1 : few6 s l n
  · have hv := decide_eq_true g1
    simp (disch := (first | omega | decide | (simp only [World.size_alloc, World.size_setCell, World.size_drew, size_sets, List.mem_cons, List.not_mem_nil, or_false, not_false_eq_true] <;> omega) | fail)) only [↓rsSupL_5, rsSupL_1, Option.isNone_some, Option.isNone_none, tick_eq, tickV_eq, ne_eq, Int.reduceAdd, Int.reduceSub, Int.reduceMul, Int.reduceEq, Int.reduceLT, Int.reduceLE, Int.reduceToNat, Nat.reduceMul, Nat.reduceAdd, Nat.reduceSub, List.nil_append, List.cons_append, List.getElem?_toArray, List.getElem?_cons_zero, List.getElem?_cons_succ, List.setIfInBounds_toArray, List.set_cons_zero, List.set_cons_succ, Option.map_some, List.not_mem_nil, ←decide_not, e1_0, e2_0, hv]
    refine sup_Encode_call (Yld.mono (sup_Encode_spec ⟨BitVec.ofNat 64 0, s, l, n, space, words, BitVec.ofNat 64 0⟩ _) ?_)
    rintro u3 w3 ⟨F3, a3, c3, rfl, q1, q2, q3⟩
    have hz3 := F3.size
    have X3 := X2.trans F3
    have r3 : ∀ o, w3.cell? ⟨w.heap.size, o, none⟩ = _ := fun o => F3.cell_o (by omega)
    simp (disch := (first | omega | decide | (simp only [World.size_alloc, World.size_setCell, World.size_drew, size_sets, List.mem_cons, List.not_mem_nil, or_false, not_false_eq_true] <;> omega) | fail)) only [↓rsSupL_5, rsSupL_1, Option.isNone_some, Option.isNone_none, tick_eq, tickV_eq, ne_eq, Int.reduceAdd, Int.reduceSub, Int.reduceMul, Int.reduceEq, Int.reduceLT, Int.reduceLE, Int.reduceToNat, Nat.reduceMul, Nat.reduceAdd, Nat.reduceSub, List.nil_append, List.cons_append, List.getElem?_toArray, List.getElem?_cons_zero, List.getElem?_cons_succ, List.setIfInBounds_toArray, List.set_cons_zero, List.set_cons_succ, Option.map_some, List.not_mem_nil, ←decide_not, e1_0, e2_0, hv, r3]
    refine loamlaw4_Of_call (Gives.to (Of4_spec s l n _) fun w3 E3 => ?_)
    have z3 := E3.size
    try simp only [World.size_alloc, World.size_setCell, World.size_drew] at z3
    have e3_0 : ∀ o, w3.cell? ⟨w.heap.size, o, none⟩ = _ := fun o => E3.cell_o (by first | omega | (simp only [World.size_alloc, World.size_setCell, World.size_drew, size_sets] <;> omega))
    refine loamref4_Check_call (Gives.to (rCheck_spec s l n _) fun w4 E4 => ?_)
    have z4 := E4.size
    try simp only [World.size_alloc, World.size_setCell, World.size_drew] at z4
    have e4_0 : ∀ o, w4.cell? ⟨w.heap.size, o, none⟩ = _ := fun o => E4.cell_o (by first | omega | (simp only [World.size_alloc, World.size_setCell, World.size_drew, size_sets] <;> omega))
    have X5 := (X3.trans E3).trans E4
    generalize hB : (⟨BitVec.ofNat 64 0, s, l, n, space, words, BitVec.ofNat 64 0⟩ : SB) = B at *
    have hB1 : B.sec = s ∧ B.log = l ∧ B.wds = n ∧ B.sp = space ∧ B.n = words := by subst hB; exact ⟨rfl, rfl, rfl, rfl, rfl⟩
    have hiff : SbOk B ↔ ¬ badGeom s l n ∧ 0 ≤ space ∧ space ≤ 1 ∧ 0 ≤ words ∧ words ≤ n := by
      unfold SbOk; rw [hB1.1, hB1.2.1, hB1.2.2.1, hB1.2.2.2.1, hB1.2.2.2.2]
    by_cases hok : SbOk B
    · have h2 := hiff.1 hok
      have e1 := checkV_0 h2.1
      have e2 := sbErr_0 hok
      have e3 : ((sbEnc B).length : Int) = s := by
        rw [sbEnc_len hok, hB1.1]
        have := sec_of hok
        rw [hB1.1] at this
        omega
      have e4 : (decide (space = 0) = true) ∨ (decide (space = 0) = false ∧ decide (space = 1) = true) := by
        rcases (show space = 0 ∨ space = 1 by omega) with h | h <;> simp [h]
      rcases e4 with e4 | ⟨e4, e5⟩
      · simp (disch := (first | omega | decide | (simp only [World.size_alloc, World.size_setCell, World.size_drew, size_sets, List.mem_cons, List.not_mem_nil, or_false, not_false_eq_true] <;> omega) | fail)) only [↓rsSupL_5, rsSupL_1, Option.isNone_some, Option.isNone_none, tick_eq, tickV_eq, ne_eq, Int.reduceAdd, Int.reduceSub, Int.reduceMul, Int.reduceEq, Int.reduceLT, Int.reduceLE, Int.reduceToNat, Nat.reduceMul, Nat.reduceAdd, Nat.reduceSub, List.nil_append, List.cons_append, List.getElem?_toArray, List.getElem?_cons_zero, List.getElem?_cons_succ, List.setIfInBounds_toArray, List.set_cons_zero, List.set_cons_succ, Option.map_some, List.not_mem_nil, ←decide_not, e1_0, e2_0, hv, r3, e3_0, e4_0, e1, e2, e3, e4]
        exact ⟨by trivial, X5⟩
      · simp (disch := (first | omega | decide | (simp only [World.size_alloc, World.size_setCell, World.size_drew, size_sets, List.mem_cons, List.not_mem_nil, or_false, not_false_eq_true] <;> omega) | fail)) only [↓rsSupL_5, rsSupL_1, Option.isNone_some, Option.isNone_none, tick_eq, tickV_eq, ne_eq, Int.reduceAdd, Int.reduceSub, Int.reduceMul, Int.reduceEq, Int.reduceLT, Int.reduceLE, Int.reduceToNat, Nat.reduceMul, Nat.reduceAdd, Nat.reduceSub, List.nil_append, List.cons_append, List.getElem?_toArray, List.getElem?_cons_zero, List.getElem?_cons_succ, List.setIfInBounds_toArray, List.set_cons_zero, List.set_cons_succ, Option.map_some, List.not_mem_nil, ←decide_not, e1_0, e2_0, hv, r3, e3_0, e4_0, e1, e2, e3, e4, e5]
        exact ⟨by trivial, X5⟩
    · have e2 := sbErr_1 hok
      have e3 : sbEnc B = [] := sbEnc_nil hok
      have e4 : ((sbEnc B).length : Int) = 0 := by rw [e3]; rfl
      by_cases k1 : badGeom s l n
      · have e1 := checkV_1 k1
        simp (disch := (first | omega | decide | (simp only [World.size_alloc, World.size_setCell, World.size_drew, size_sets, List.mem_cons, List.not_mem_nil, or_false, not_false_eq_true] <;> omega) | fail)) only [↓rsSupL_5, rsSupL_1, Option.isNone_some, Option.isNone_none, tick_eq, tickV_eq, ne_eq, Int.reduceAdd, Int.reduceSub, Int.reduceMul, Int.reduceEq, Int.reduceLT, Int.reduceLE, Int.reduceToNat, Nat.reduceMul, Nat.reduceAdd, Nat.reduceSub, List.nil_append, List.cons_append, List.getElem?_toArray, List.getElem?_cons_zero, List.getElem?_cons_succ, List.setIfInBounds_toArray, List.set_cons_zero, List.set_cons_succ, Option.map_some, List.not_mem_nil, ←decide_not, e1_0, e2_0, hv, r3, e3_0, e4_0, e1, e2, e4]
        exact ⟨by trivial, X5⟩
      have e1 := checkV_0 k1
      by_cases k2 : 0 ≤ words
      · by_cases k3 : words ≤ n
        · have k4 : ¬ (0 ≤ space ∧ space ≤ 1) := fun h => hok (hiff.2 ⟨k1, h.1, h.2, k2, k3⟩)
          have e5 : decide (space = 0) = false := decide_eq_false (by omega)
          have e6 : decide (space = 1) = false := decide_eq_false (by omega)
          simp (disch := (first | omega | decide | (simp only [World.size_alloc, World.size_setCell, World.size_drew, size_sets, List.mem_cons, List.not_mem_nil, or_false, not_false_eq_true] <;> omega) | fail)) only [↓rsSupL_5, rsSupL_1, Option.isNone_some, Option.isNone_none, tick_eq, tickV_eq, ne_eq, Int.reduceAdd, Int.reduceSub, Int.reduceMul, Int.reduceEq, Int.reduceLT, Int.reduceLE, Int.reduceToNat, Nat.reduceMul, Nat.reduceAdd, Nat.reduceSub, List.nil_append, List.cons_append, List.getElem?_toArray, List.getElem?_cons_zero, List.getElem?_cons_succ, List.setIfInBounds_toArray, List.set_cons_zero, List.set_cons_succ, Option.map_some, List.not_mem_nil, ←decide_not, e1_0, e2_0, hv, r3, e3_0, e4_0, e1, e2, e4, e5, e6]
          exact ⟨by trivial, X5⟩
        · simp (disch := (first | omega | decide | (simp only [World.size_alloc, World.size_setCell, World.size_drew, size_sets, List.mem_cons, List.not_mem_nil, or_false, not_false_eq_true] <;> omega) | fail)) only [↓rsSupL_5, rsSupL_1, Option.isNone_some, Option.isNone_none, tick_eq, tickV_eq, ne_eq, Int.reduceAdd, Int.reduceSub, Int.reduceMul, Int.reduceEq, Int.reduceLT, Int.reduceLE, Int.reduceToNat, Nat.reduceMul, Nat.reduceAdd, Nat.reduceSub, List.nil_append, List.cons_append, List.getElem?_toArray, List.getElem?_cons_zero, List.getElem?_cons_succ, List.setIfInBounds_toArray, List.set_cons_zero, List.set_cons_succ, Option.map_some, List.not_mem_nil, ←decide_not, e1_0, e2_0, hv, r3, e3_0, e4_0, e1, e2, e4]
          exact ⟨by trivial, X5⟩
      · simp (disch := (first | omega | decide | (simp only [World.size_alloc, World.size_setCell, World.size_drew, size_sets, List.mem_cons, List.not_mem_nil, or_false, not_false_eq_true] <;> omega) | fail)) only [↓rsSupL_5, rsSupL_1, Option.isNone_some, Option.isNone_none, tick_eq, tickV_eq, ne_eq, Int.reduceAdd, Int.reduceSub, Int.reduceMul, Int.reduceEq, Int.reduceLT, Int.reduceLE, Int.reduceToNat, Nat.reduceMul, Nat.reduceAdd, Nat.reduceSub, List.nil_append, List.cons_append, List.getElem?_toArray, List.getElem?_cons_zero, List.getElem?_cons_succ, List.setIfInBounds_toArray, List.set_cons_zero, List.set_cons_succ, Option.map_some, List.not_mem_nil, ←decide_not, e1_0, e2_0, hv, r3, e3_0, e4_0, e1, e2, e4]
        exact ⟨by trivial, X5⟩
  · have hv := decide_eq_false g1
    simp (disch := (first | omega | decide | (simp only [World.size_alloc, World.size_setCell, World.size_drew, size_sets, List.mem_cons, List.not_mem_nil, or_false, not_false_eq_true] <;> omega) | fail)) only [↓rsSupL_5, rsSupL_1, Option.isNone_some, Option.isNone_none, tick_eq, tickV_eq, ne_eq, Int.reduceAdd, Int.reduceSub, Int.reduceMul, Int.reduceEq, Int.reduceLT, Int.reduceLE, Int.reduceToNat, Nat.reduceMul, Nat.reduceAdd, Nat.reduceSub, List.nil_append, List.cons_append, List.getElem?_toArray, List.getElem?_cons_zero, List.getElem?_cons_succ, List.setIfInBounds_toArray, List.set_cons_zero, List.set_cons_succ, Option.map_some, List.not_mem_nil, ←decide_not, e1_0, e2_0, hv]
    exact ⟨by trivial, by (repeat (first | with_reducible exact Ext.refl _ _ | with_reducible assumption | with_reducible refine Ext.alloc' ?_ _ | with_reducible refine Ext.drew' ?_ | with_reducible refine Ext.set' ?_ ?_ | exact .inr (by first | omega | (simp only [World.size_alloc, World.size_drew, World.size_setCell] <;> omega)) | refine Ext.trans ?_ (by with_reducible assumption)))⟩
end Go.Proofs.Ytlllabaipfmnjaa
