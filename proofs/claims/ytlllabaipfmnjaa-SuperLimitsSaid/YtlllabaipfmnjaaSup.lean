/- What the functions on superblocks compute (sq). -/
import Derived.Test.YtlllabaipfmnjaaSupV
import Derived.Test.YtlllabaipfmnjaaSumS
import Derived.Test.YtlllabaipfmnjaaGeomR
import Derived.Test.YtlllabaipfmnjaaBitsQ
set_option linter.unusedVariables false
set_option linter.unusedSimpArgs false
set_option maxHeartbeats 4000000
namespace Go.Proofs.Ytlllabaipfmnjaa
open Go.Sh Go.RowKit

def cellsF (f : Nat × Nat × BitVec 64) : List Value := [i64 f.1, i64 f.2.1, u64 f.2.2]
abbrev rsSup_0 := (And.intro @xBox_r (And.intro @loadK_some (And.intro @loadsK_s (And.intro @loadsK_n (And.intro @loadsR_s (And.intro @loadsR_n (And.intro @storesK_s (And.intro @storesK_n (And.intro @xPick_t (And.intro @xPick_f (And.intro @xGuard_tt (And.intro @xGuard_ff (And.intro @xGuard_tf (And.intro @xGuard_ft (And.intro @xGuard_u 
  (And.intro @xNil_r (And.intro @xIf_t (And.intro @xBin_add' (And.intro @xBin_sub' (And.intro @xBin_mul' (And.intro @xBin_quo' (And.intro @xBin_rem' (And.intro @xIf_f (And.intro @xIf_tt (And.intro @xEx0 (And.intro @xEx1 (And.intro @xEx2 (And.intro @xEx3 (And.intro @xBin_eqs (And.intro @xBin_nes (And.intro @xUn_not (And.intro @xMakeFunc_r (And.intro @xSq_r 
  (And.intro @xPur_s (And.intro @xRd_s (And.intro @xRe_s (And.intro @xDet_s (And.intro @xDet_ld (And.intro @xDet_ld2 (And.intro @xDet_ld3 (And.intro @xDet_ld4 (And.intro @xGuard_tt (And.intro @ld_3 (And.intro @ld_29 (And.intro @fa_56_0 (And.intro @fa_56_1 (And.intro @fa_56_2 (And.intro @fa_58_0 (And.intro @fa_58_1 (And.intro @fa_58_2 (And.intro @fa_58_3 
  (And.intro @fa_58_4 (And.intro @bd_132_0_1_2 (And.intro @cv_3_29 @bs_129_8))))))))))))))))))))))))))))))))))))))))))))))))))))))
abbrev rsSup_1 := (And.intro @setCells_c (And.intro @setCells_n (And.intro @World.setCell_alloc_at (And.intro @World.setCell_alloc_past (And.intro @World.cell?_alloc_at (And.intro @World.cell?_alloc_past (And.intro @World.frozen?_alloc_at (And.intro @World.frozen?_alloc_past 
  (And.intro @World.size_alloc (And.intro @dlt_t (And.intro @dlt_f (And.intro @dle_t (And.intro @dle_f (And.intro @deq_t (And.intro @deq_f (And.intro @dne_t (And.intro @dne_f (And.intro @not_true_eq_false (And.intro @Bool.false_and (And.intro @Bool.true_and (And.intro @Bool.and_true (And.intro @Bool.and_false (And.intro @wrap_in (And.intro @Int.toNat_natCast 
  (And.intro @Nat.mul_one (And.intro @cells_int (And.intro @cells_bool (And.intro @cells_string (And.intro @cells_slice (And.intro @cells_pointer (And.intro @cells_agg (And.intro @one_int (And.intro @one_bool (And.intro @one_string (And.intro @one_slice (And.intro @one_pointer (And.intro @beq_tt (And.intro @beq_ff (And.intro @beq_tf 
  (And.intro @beq_ft (And.intro @cell_sets_b (And.intro @frozen_sets (And.intro @size_sets (And.intro @World.size_drew (And.intro @Nat.zero_add (And.intro @Nat.add_zero (And.intro @cell_drew (And.intro @frozen_drew (And.intro @cell_set_eq (And.intro @cell_set_o (And.intro @cell_set_b (And.intro @World.frozen?_setCell 
  (And.intro @decide_true (And.intro @decide_false (And.intro @not_false_eq_true (And.intro @Bool.not_true @Bool.not_false))))))))))))))))))))))))))))))))))))))))))))))))))))))))
theorem fields_spec (b : SB) (w : World) : Yld Try.prog n_sup_Block_fields #[sbV b] w fun u w' => Ext [] w w' ∧ ∃ g, u = .slice (some ⟨g, 0, none⟩) 8 8 ∧ w.heap.size ≤ g ∧ Blk w' g 132 ((fsOf b).flatMap cellsF) := by
  refine sup_Block_fields_of ?_
  unfold sup_Block_fields
  simp (disch := (first | omega | decide | (simp only [World.size_alloc, World.size_setCell, World.size_drew, size_sets, List.mem_cons, List.not_mem_nil, or_false, not_false_eq_true] <;> omega) | fail)) only [↓rsSup_0, rsSup_1, Option.isNone_some, Option.isNone_none, tick_eq, tickV_eq, ne_eq, Int.reduceAdd, Int.reduceSub, Int.reduceMul, Int.reduceEq, Int.reduceLT, Int.reduceLE, Int.reduceToNat, Nat.reduceMul, Nat.reduceAdd, Nat.reduceSub, List.nil_append, List.cons_append, List.getElem?_toArray, List.getElem?_cons_zero, List.getElem?_cons_succ, List.setIfInBounds_toArray, List.set_cons_zero, List.set_cons_succ, Option.map_some, List.not_mem_nil, ←decide_not, eq_self]
  exact ⟨by (repeat (first | with_reducible exact Ext.refl _ _ | with_reducible assumption | with_reducible refine Ext.alloc' ?_ _ | with_reducible refine Ext.drew' ?_ | with_reducible refine Ext.set' ?_ ?_ | exact .inr (by first | omega | (simp only [World.size_alloc, World.size_drew, World.size_setCell] <;> omega)) | refine Ext.trans ?_ (by with_reducible assumption))), _, rfl, by simp, Blk.at (by simp)⟩
/-- bytes and a number -/
def EncR (w w' : World) (u : Value) (l : List (BitVec 8)) (e : Int) : Prop := Ext [] w w' ∧ ∃ a c, u = .tuple #[.slice a l.length c, i64 e] ∧ l.length ≤ c ∧ (a = none → c = 0) ∧ RowAt w' a (bys l)
abbrev rsSup_2 := (And.intro @xBox_r (And.intro @loadK_some (And.intro @loadsK_s (And.intro @loadsK_n (And.intro @loadsR_s (And.intro @loadsR_n (And.intro @storesK_s (And.intro @storesK_n (And.intro @xPick_t (And.intro @xPick_f (And.intro @xGuard_tt (And.intro @xGuard_ff (And.intro @xGuard_tf (And.intro @xGuard_ft (And.intro @xGuard_u 
  (And.intro @xNil_r (And.intro @xIf_t (And.intro @xBin_add' (And.intro @xBin_sub' (And.intro @xBin_mul' (And.intro @xBin_quo' (And.intro @xBin_rem' (And.intro @xIf_f (And.intro @xIf_tt (And.intro @xEx0 (And.intro @xEx1 (And.intro @xEx2 (And.intro @xEx3 (And.intro @xBin_eqs (And.intro @xBin_nes (And.intro @xUn_not (And.intro @xu8_add (And.intro @xu8_lss 
  (And.intro @xu16_add (And.intro @xu16_lss (And.intro @xu32_add (And.intro @xu32_lss (And.intro @xu64_add (And.intro @xu64_lss (And.intro @xi64_lss (And.intro @xMakeFunc_r (And.intro @xSq_r (And.intro @xPur_s (And.intro @xRd_s (And.intro @xRe_s (And.intro @xDet_s (And.intro @xDet_ld (And.intro @xDet_ld2 (And.intro @xDet_ld3 (And.intro @xDet_ld4 
  (And.intro @xGuard_tt (And.intro @ld_3 (And.intro @ld_29 (And.intro @ld_132 (And.intro @fa_132_0 (And.intro @fa_132_1 (And.intro @fa_132_2 (And.intro @al_132 (And.intro @st_132 @ia_129)))))))))))))))))))))))))))))))))))))))))))))))))))))))))))
theorem sup_body (b : SB) (K : K1) (w : World) (g : Nat) (hok : SbOk b) (hK : ∀ u w', EncR w w' u (sbEnc b) 0 → K u w') (hB : Blk w g 5 (bys (magicB ++ zs8 ((b.sec - 4).toNat - 4)))) (v2 : World) (h2 : Ext [] w v2) (g2 : Nat) (hF : Blk v2 g2 132 ((fsOf b).flatMap cellsF)) :
    xLoop [.slice (some ⟨g, 0, none⟩) (b.sec - 4).toNat (b.sec - 4).toNat, i64 0] v2 [5, 45] fun u w nxt0 => sup_Encode_l1 K nxt0 (u 5) (.slice (some ⟨g2, 0, none⟩) 8 8) (i64 8) (u 45) w := by
  have hs := sec_of hok
  have hrowF : RowAt v2 (some ⟨g2, 0, none⟩) ((fsOf b).flatMap cellsF) := hF.row
  refine xLoop_r 8 (fun k vs w' => ∃ a c, vs = [.slice a (b.sec - 4).toNat c, i64 k] ∧ Ext [] w w' ∧ Ext [] v2 w' ∧ RowAt w' a (bys (partB b k ++ zs8 ((b.sec - 4).toNat - (partB b k).length)))) ⟨_, _, rfl, h2, Ext.refl _ _, ?_⟩ ?_ ?_
  · have := hB.row.ext0 h2
    simpa [partB] using this
  · rintro k hk u v3 ⟨a, c, hu, X1, X2, hR⟩ nxt hnx
    simp only [List.map_cons, List.map_nil, List.cons.injEq, and_true] at hu
    rw [hu.1, hu.2]
    obtain ⟨b', o', e', hb', hc⟩ := row_elem (F := 3) (by decide) (hrowF.ext0 X2) (fun x _ => rfl) (k := k) hk
    simp only [Option.some.injEq, Addr.mk.injEq] at e'
    obtain ⟨rfl, rfl, _⟩ := e'
    have c0 := hc 0 _ rfl
    have c1 := hc 1 _ rfl
    have c2 := hc 2 _ rfl
    have hp := partB_len b k hk
    have hg : (fsOf b).getD k (0, 0, 0) = (fsOf b)[k]'hk := by rw [List.getD_eq_getElem?_getD, List.getElem?_eq_getElem (show k < (fsOf b).length from hk)]; rfl
    rw [hg] at hp
    have hsz : ((fsOf b)[k]'hk).2.1 = 4 ∨ ((fsOf b)[k]'hk).2.1 = 8 := by
      match k, hk with
      | 0, _ => exact .inl rfl
      | 1, _ => exact .inr rfl
      | 2, _ => exact .inl rfl
      | 3, _ => exact .inl rfl
      | 4, _ => exact .inl rfl
      | 5, _ => exact .inl rfl
      | 6, _ => exact .inl rfl
      | 7, _ => exact .inr rfl
    have hend : ((fsOf b)[k]'hk).1 + ((fsOf b)[k]'hk).2.1 ≤ 44 := by
      match k, hk with
      | 0, _ => exact Nat.le_of_ble_eq_true rfl
      | 1, _ => exact Nat.le_of_ble_eq_true rfl
      | 2, _ => exact Nat.le_of_ble_eq_true rfl
      | 3, _ => exact Nat.le_of_ble_eq_true rfl
      | 4, _ => exact Nat.le_of_ble_eq_true rfl
      | 5, _ => exact Nat.le_of_ble_eq_true rfl
      | 6, _ => exact Nat.le_of_ble_eq_true rfl
      | 7, _ => exact Nat.le_of_ble_eq_true rfl
    have hsuc := partB_succ b k hk
    generalize (fsOf b)[k]'hk = f at *
    obtain ⟨f1, f2, f3⟩ := f
    simp only [Nat.zero_add, Nat.add_zero] at c0 c1 c2
    simp only at hp hsz hend hsuc
    have hlen : (partB b k ++ zs8 ((b.sec - 4).toNat - (partB b k).length)).length = (b.sec - 4).toNat := by rw [List.length_append, List.length_replicate]; omega
    unfold sup_Encode_l1
    simp (disch := (first | omega | decide | (simp only [World.size_alloc, World.size_setCell, World.size_drew, size_sets, List.mem_cons, List.not_mem_nil, or_false, not_false_eq_true] <;> omega) | fail)) only [↓rsSup_2, rsSup_1, Option.isNone_some, Option.isNone_none, tick_eq, tickV_eq, ne_eq, Int.reduceAdd, Int.reduceSub, Int.reduceMul, Int.reduceEq, Int.reduceLT, Int.reduceLE, Int.reduceToNat, Nat.reduceMul, Nat.reduceAdd, Nat.reduceSub, List.nil_append, List.cons_append, List.getElem?_toArray, List.getElem?_cons_zero, List.getElem?_cons_succ, List.setIfInBounds_toArray, List.set_cons_zero, List.set_cons_succ, Option.map_some, List.not_mem_nil, ←decide_not, c0, c1, c2]
    subst hp
    have XA := Ext.alloc [] v3 (.cells #[i64 (partB b k).length, i64 f2, u64 f3] 132)
    have hP := PutN_spec _ a c (partB b k).length f2 f3 _ (by omega) (hR.ext0 XA) (by unfold inside; rw [hlen]; omega)
    rw [hlen, put_next (by omega), ← hsuc] at hP
    refine bits_Put_call (Yld.mono hP ?_)
    rintro u4 v4 ⟨F4, b4, rfl, hb4, B4⟩
    have hlen4 : (partB b (k + 1) ++ zs8 ((b.sec - 4).toNat - (partB b (k + 1)).length)).length = (b.sec - 4).toNat := by
      have : (partB b (k + 1)).length ≤ 44 := by rw [hsuc, List.length_append, List.length_map, List.length_range]; omega
      rw [List.length_append, List.length_replicate]; omega
    rw [hlen4]
    simp (disch := (first | omega | decide | (simp only [World.size_alloc, World.size_setCell, World.size_drew, size_sets, List.mem_cons, List.not_mem_nil, or_false, not_false_eq_true] <;> omega) | fail)) only [↓rsSup_2, rsSup_1, Option.isNone_some, Option.isNone_none, tick_eq, tickV_eq, ne_eq, Int.reduceAdd, Int.reduceSub, Int.reduceMul, Int.reduceEq, Int.reduceLT, Int.reduceLE, Int.reduceToNat, Nat.reduceMul, Nat.reduceAdd, Nat.reduceSub, List.nil_append, List.cons_append, List.getElem?_toArray, List.getElem?_cons_zero, List.getElem?_cons_succ, List.setIfInBounds_toArray, List.set_cons_zero, List.set_cons_succ, Option.map_some, List.not_mem_nil, ←decide_not, c0, c1, c2]
    exact hnx _ _ ⟨_, _, rfl, (X1.trans XA).trans F4, (X2.trans XA).trans F4, B4.row⟩
  · rintro u v3 ⟨a, c, hu, X1, X2, hR⟩ nxt
    simp only [List.map_cons, List.map_nil, List.cons.injEq, and_true] at hu
    rw [hu.1, hu.2]
    unfold sup_Encode_l1
    simp (disch := (first | omega | decide | (simp only [World.size_alloc, World.size_setCell, World.size_drew, size_sets, List.mem_cons, List.not_mem_nil, or_false, not_false_eq_true] <;> omega) | fail)) only [↓rsSup_2, rsSup_1, Option.isNone_some, Option.isNone_none, tick_eq, tickV_eq, ne_eq, Int.reduceAdd, Int.reduceSub, Int.reduceMul, Int.reduceEq, Int.reduceLT, Int.reduceLE, Int.reduceToNat, Nat.reduceMul, Nat.reduceAdd, Nat.reduceSub, List.nil_append, List.cons_append, List.getElem?_toArray, List.getElem?_cons_zero, List.getElem?_cons_succ, List.setIfInBounds_toArray, List.set_cons_zero, List.set_cons_succ, Option.map_some, List.not_mem_nil, ←decide_not, eq_self]
    have hlen := bodyB_len hok
    have hR' : RowAt v3 a (bys (bodyB b)) := hR
    refine crc_Seal_call (Yld.mono (Seal_spec (bodyB b) a _ c v3 hlen.symm (by omega) hR') ?_)
    rintro u4 v4 ⟨F4, b4, c4, rfl, hc4, hb4, R4⟩
    have e : sbEnc b = sealV (bodyB b) := if_pos hok
    refine hK _ _ ⟨X1.trans F4, _, _, by rw [e], by rw [e]; exact hc4, fun h => (by cases h), by rw [e]; exact R4⟩
open Classical in
abbrev rsSup_3 := (And.intro @xBox_r (And.intro @loadK_some (And.intro @loadsK_s (And.intro @loadsK_n (And.intro @loadsR_s (And.intro @loadsR_n (And.intro @storesK_s (And.intro @storesK_n (And.intro @xPick_t (And.intro @xPick_f (And.intro @xGuard_tt (And.intro @xGuard_ff (And.intro @xGuard_tf (And.intro @xGuard_ft (And.intro @xGuard_u 
  (And.intro @xNil_r (And.intro @xIf_t (And.intro @xBin_add' (And.intro @xBin_sub' (And.intro @xBin_mul' (And.intro @xBin_quo' (And.intro @xBin_rem' (And.intro @xIf_f (And.intro @xIf_tt (And.intro @xEx0 (And.intro @xEx1 (And.intro @xEx2 (And.intro @xEx3 (And.intro @xBin_eqs (And.intro @xBin_nes (And.intro @xUn_not (And.intro @xu8_sub (And.intro @xu8_neq 
  (And.intro @xu8_lss (And.intro @xu8_gtr (And.intro @xu16_sub (And.intro @xu16_neq (And.intro @xu16_lss (And.intro @xu16_gtr (And.intro @xu32_sub (And.intro @xu32_neq (And.intro @xu32_lss (And.intro @xu32_gtr (And.intro @xu64_sub (And.intro @xu64_neq (And.intro @xu64_lss (And.intro @xu64_gtr (And.intro @xi64_lss (And.intro @xi64_gtr (And.intro @xi64_neq 
  (And.intro @xi64_neg (And.intro @xMakeFunc_r (And.intro @xSq_r (And.intro @xPur_s (And.intro @xRd_s (And.intro @xRe_s (And.intro @xDet_s (And.intro @xDet_ld (And.intro @xDet_ld2 (And.intro @xDet_ld3 (And.intro @xDet_ld4 (And.intro @xGuard_tt (And.intro @ld_3 (And.intro @ld_56 (And.intro @ld_58 (And.intro @fa_56_0 (And.intro @fa_56_2 (And.intro @fa_58_1 
  (And.intro @fa_58_2 (And.intro @fa_58_3 (And.intro @ln_129 @mk_26)))))))))))))))))))))))))))))))))))))))))))))))))))))))))))))))))))))))
theorem sup_Encode_spec (b : SB) (w : World) : Yld Try.prog n_sup_Encode #[sbV b] w fun u w' => EncR w w' u (sbEnc b) (sbErr b) := by
  refine sup_Encode_of ?_
  unfold sup_Encode
  simp (disch := (first | omega | decide | (simp only [World.size_alloc, World.size_setCell, World.size_drew, size_sets, List.mem_cons, List.not_mem_nil, or_false, not_false_eq_true] <;> omega) | fail)) only [↓rsSup_3, rsSup_1, Option.isNone_some, Option.isNone_none, tick_eq, tickV_eq, ne_eq, Int.reduceAdd, Int.reduceSub, Int.reduceMul, Int.reduceEq, Int.reduceLT, Int.reduceLE, Int.reduceToNat, Nat.reduceMul, Nat.reduceAdd, Nat.reduceSub, List.nil_append, List.cons_append, List.getElem?_toArray, List.getElem?_cons_zero, List.getElem?_cons_succ, List.setIfInBounds_toArray, List.set_cons_zero, List.set_cons_succ, Option.map_some, List.not_mem_nil, ←decide_not, eq_self]
  refine geom_Check_call (Gives.to (Check_spec b.sec b.log b.wds _) fun w1 E1 => ?_)
  have z1 := E1.size
  try simp only [World.size_alloc, World.size_setCell, World.size_drew] at z1
  have e1_0 : ∀ o, w1.cell? ⟨w.heap.size, o, none⟩ = _ := fun o => E1.cell_o (by first | omega | (simp only [World.size_alloc, World.size_setCell, World.size_drew, size_sets] <;> omega))
  have hgm : w1.heap.size = w1.heap.size := rfl
  have bad : ∀ w2, Ext [] w1 w2 → ¬ SbOk b → EncR w w2 (.tuple #[.slice none 0 0, i64 1]) (sbEnc b) (sbErr b) := fun w2 hx h => by
    rw [sbEnc, sbErr, if_neg h, if_neg h]
    exact ⟨((Ext.alloc [] w _).trans E1).trans hx, none, 0, rfl, Nat.le_refl _, fun _ => rfl, RowAt.nil⟩
  by_cases h1 : badGeom b.sec b.log b.wds
  · have hv := checkV_1 h1
    simp (disch := (first | omega | decide | (simp only [World.size_alloc, World.size_setCell, World.size_drew, size_sets, List.mem_cons, List.not_mem_nil, or_false, not_false_eq_true] <;> omega) | fail)) only [↓rsSup_3, rsSup_1, Option.isNone_some, Option.isNone_none, tick_eq, tickV_eq, ne_eq, Int.reduceAdd, Int.reduceSub, Int.reduceMul, Int.reduceEq, Int.reduceLT, Int.reduceLE, Int.reduceToNat, Nat.reduceMul, Nat.reduceAdd, Nat.reduceSub, List.nil_append, List.cons_append, List.getElem?_toArray, List.getElem?_cons_zero, List.getElem?_cons_succ, List.setIfInBounds_toArray, List.set_cons_zero, List.set_cons_succ, Option.map_some, List.not_mem_nil, ←decide_not, e1_0, hv]
    exact bad _ (Ext.refl _ _) fun h => h.1 h1
  have hv := checkV_0 h1
  by_cases h2 : b.sp < 0
  · simp (disch := (first | omega | decide | (simp only [World.size_alloc, World.size_setCell, World.size_drew, size_sets, List.mem_cons, List.not_mem_nil, or_false, not_false_eq_true] <;> omega) | fail)) only [↓rsSup_3, rsSup_1, Option.isNone_some, Option.isNone_none, tick_eq, tickV_eq, ne_eq, Int.reduceAdd, Int.reduceSub, Int.reduceMul, Int.reduceEq, Int.reduceLT, Int.reduceLE, Int.reduceToNat, Nat.reduceMul, Nat.reduceAdd, Nat.reduceSub, List.nil_append, List.cons_append, List.getElem?_toArray, List.getElem?_cons_zero, List.getElem?_cons_succ, List.setIfInBounds_toArray, List.set_cons_zero, List.set_cons_succ, Option.map_some, List.not_mem_nil, ←decide_not, e1_0, hv]
    exact bad _ (by (repeat (first | with_reducible exact Ext.refl _ _ | with_reducible assumption | with_reducible refine Ext.alloc' ?_ _ | with_reducible refine Ext.drew' ?_ | with_reducible refine Ext.set' ?_ ?_ | exact .inr (by first | omega | (simp only [World.size_alloc, World.size_drew, World.size_setCell] <;> omega)) | refine Ext.trans ?_ (by with_reducible assumption)))) fun h => by have := h.2; omega
  by_cases h3 : 1 < b.sp
  · simp (disch := (first | omega | decide | (simp only [World.size_alloc, World.size_setCell, World.size_drew, size_sets, List.mem_cons, List.not_mem_nil, or_false, not_false_eq_true] <;> omega) | fail)) only [↓rsSup_3, rsSup_1, Option.isNone_some, Option.isNone_none, tick_eq, tickV_eq, ne_eq, Int.reduceAdd, Int.reduceSub, Int.reduceMul, Int.reduceEq, Int.reduceLT, Int.reduceLE, Int.reduceToNat, Nat.reduceMul, Nat.reduceAdd, Nat.reduceSub, List.nil_append, List.cons_append, List.getElem?_toArray, List.getElem?_cons_zero, List.getElem?_cons_succ, List.setIfInBounds_toArray, List.set_cons_zero, List.set_cons_succ, Option.map_some, List.not_mem_nil, ←decide_not, e1_0, hv]
    exact bad _ (by (repeat (first | with_reducible exact Ext.refl _ _ | with_reducible assumption | with_reducible refine Ext.alloc' ?_ _ | with_reducible refine Ext.drew' ?_ | with_reducible refine Ext.set' ?_ ?_ | exact .inr (by first | omega | (simp only [World.size_alloc, World.size_drew, World.size_setCell] <;> omega)) | refine Ext.trans ?_ (by with_reducible assumption)))) fun h => by have := h.2; omega
  by_cases h4 : b.n < 0
  · simp (disch := (first | omega | decide | (simp only [World.size_alloc, World.size_setCell, World.size_drew, size_sets, List.mem_cons, List.not_mem_nil, or_false, not_false_eq_true] <;> omega) | fail)) only [↓rsSup_3, rsSup_1, Option.isNone_some, Option.isNone_none, tick_eq, tickV_eq, ne_eq, Int.reduceAdd, Int.reduceSub, Int.reduceMul, Int.reduceEq, Int.reduceLT, Int.reduceLE, Int.reduceToNat, Nat.reduceMul, Nat.reduceAdd, Nat.reduceSub, List.nil_append, List.cons_append, List.getElem?_toArray, List.getElem?_cons_zero, List.getElem?_cons_succ, List.setIfInBounds_toArray, List.set_cons_zero, List.set_cons_succ, Option.map_some, List.not_mem_nil, ←decide_not, e1_0, hv]
    exact bad _ (by (repeat (first | with_reducible exact Ext.refl _ _ | with_reducible assumption | with_reducible refine Ext.alloc' ?_ _ | with_reducible refine Ext.drew' ?_ | with_reducible refine Ext.set' ?_ ?_ | exact .inr (by first | omega | (simp only [World.size_alloc, World.size_drew, World.size_setCell] <;> omega)) | refine Ext.trans ?_ (by with_reducible assumption)))) fun h => by have := h.2; omega
  by_cases h5 : b.wds < b.n
  · simp (disch := (first | omega | decide | (simp only [World.size_alloc, World.size_setCell, World.size_drew, size_sets, List.mem_cons, List.not_mem_nil, or_false, not_false_eq_true] <;> omega) | fail)) only [↓rsSup_3, rsSup_1, Option.isNone_some, Option.isNone_none, tick_eq, tickV_eq, ne_eq, Int.reduceAdd, Int.reduceSub, Int.reduceMul, Int.reduceEq, Int.reduceLT, Int.reduceLE, Int.reduceToNat, Nat.reduceMul, Nat.reduceAdd, Nat.reduceSub, List.nil_append, List.cons_append, List.getElem?_toArray, List.getElem?_cons_zero, List.getElem?_cons_succ, List.setIfInBounds_toArray, List.set_cons_zero, List.set_cons_succ, Option.map_some, List.not_mem_nil, ←decide_not, e1_0, hv]
    exact bad _ (by (repeat (first | with_reducible exact Ext.refl _ _ | with_reducible assumption | with_reducible refine Ext.alloc' ?_ _ | with_reducible refine Ext.drew' ?_ | with_reducible refine Ext.set' ?_ ?_ | exact .inr (by first | omega | (simp only [World.size_alloc, World.size_drew, World.size_setCell] <;> omega)) | refine Ext.trans ?_ (by with_reducible assumption)))) fun h => by have := h.2; omega
  have hok : SbOk b := ⟨h1, by omega, by omega, by omega, by omega⟩
  have hs := sec_of hok
  simp (disch := (first | omega | decide | (simp only [World.size_alloc, World.size_setCell, World.size_drew, size_sets, List.mem_cons, List.not_mem_nil, or_false, not_false_eq_true] <;> omega) | fail)) only [↓rsSup_3, rsSup_1, Option.isNone_some, Option.isNone_none, tick_eq, tickV_eq, ne_eq, Int.reduceAdd, Int.reduceSub, Int.reduceMul, Int.reduceEq, Int.reduceLT, Int.reduceLE, Int.reduceToNat, Nat.reduceMul, Nat.reduceAdd, Nat.reduceSub, List.nil_append, List.cons_append, List.getElem?_toArray, List.getElem?_cons_zero, List.getElem?_cons_succ, List.setIfInBounds_toArray, List.set_cons_zero, List.set_cons_succ, Option.map_some, List.not_mem_nil, ←decide_not, e1_0, hv]
  rw [show (Value.string ⟨#[76, 79, 65, 77]⟩) = .string (strOf magicB) from rfl, xCopy_str (e := 5) (by kernel_rfl) (by kernel_rfl) (by simp; omega) (Blk.roomy (Blk.at rfl) (by simp; omega) (bys_one _))]
  simp (disch := (first | omega | decide | (simp only [World.size_alloc, World.size_setCell, World.size_drew, size_sets, List.mem_cons, List.not_mem_nil, or_false, not_false_eq_true] <;> omega) | fail)) only [↓rsSup_3, rsSup_1, Option.isNone_some, Option.isNone_none, tick_eq, tickV_eq, ne_eq, Int.reduceAdd, Int.reduceSub, Int.reduceMul, Int.reduceEq, Int.reduceLT, Int.reduceLE, Int.reduceToNat, Nat.reduceMul, Nat.reduceAdd, Nat.reduceSub, List.nil_append, List.cons_append, List.getElem?_toArray, List.getElem?_cons_zero, List.getElem?_cons_succ, List.setIfInBounds_toArray, List.set_cons_zero, List.set_cons_succ, Option.map_some, List.not_mem_nil, ←decide_not, e1_0, hv]
  have hBn : Blk (w1.alloc (.cells (List.replicate (b.sec - 4).toNat (c8 0)).toArray 5)) w1.heap.size 5 (List.replicate (b.sec - 4).toNat (c8 0)) := Blk.new w1 _
  have hBc := hBn.sets (o := 0) (l := bys magicB) (by simp; omega)
  have ec : (List.replicate (b.sec - 4).toNat (c8 0)).take 0 ++ bys magicB ++ (List.replicate (b.sec - 4).toNat (c8 0)).drop (0 + (bys magicB).length) = bys (magicB ++ zs8 ((b.sec - 4).toNat - 4)) := by
    simp [bys]
  rw [ec] at hBc
  have Xc : Ext [] w ((w1.alloc (.cells (List.replicate (b.sec - 4).toNat (c8 0)).toArray 5)).setCells w1.heap.size 0 (bys magicB)) :=
    ((((Ext.alloc [] w _).trans E1).alloc' _).sets (.inr (by omega)))
  generalize ((w1.alloc (.cells (List.replicate (b.sec - 4).toNat (c8 0)).toArray 5)).setCells w1.heap.size 0 (bys magicB)) = wc at *
  refine sup_Block_fields_call (Yld.mono (fields_spec b wc) ?_)
  rintro u2 v2 ⟨F2, g2, rfl, hg2, B2⟩
  simp (disch := (first | omega | decide | (simp only [World.size_alloc, World.size_setCell, World.size_drew, size_sets, List.mem_cons, List.not_mem_nil, or_false, not_false_eq_true] <;> omega) | fail)) only [↓rsSup_3, rsSup_1, Option.isNone_some, Option.isNone_none, tick_eq, tickV_eq, ne_eq, Int.reduceAdd, Int.reduceSub, Int.reduceMul, Int.reduceEq, Int.reduceLT, Int.reduceLE, Int.reduceToNat, Nat.reduceMul, Nat.reduceAdd, Nat.reduceSub, List.nil_append, List.cons_append, List.getElem?_toArray, List.getElem?_cons_zero, List.getElem?_cons_succ, List.setIfInBounds_toArray, List.set_cons_zero, List.set_cons_succ, Option.map_some, List.not_mem_nil, ←decide_not, e1_0, hv]
  refine sup_body b _ wc w1.heap.size hok (fun u w' h => ?_) hBc v2 F2 g2 B2
  obtain ⟨hx, a, c, rfl, r1, r2, r3⟩ := h
  have e0 : sbErr b = 0 := if_pos hok
  exact ⟨Xc.trans hx, a, c, by rw [e0], r1, r2, r3⟩
abbrev sbV6 (b : SB) : Value := sbV b
/-- a row of bytes, and more behind it -/
theorem low_app {w w1 w2 : World} {K : K1} {v u : Value} {l : List (BitVec 8)} {x : BitVec 64} {n : Nat} (hN : NewB w w1 v l) (hF : Ext [] w1 w2 ∧ w2.ownsRow w1.heap.size 5 1 u n (bys (lowN n x))) (hl : l.length + n ≤ 4000000)
    (hK : ∀ v' w', NewB w w' v' (l ++ lowN n x) → K v' w') : xBuiltin Try.prog .append #[26, 26] 26 [false, false] [v, u] w2 K := by
  have hO : OwnB w2 u (lowN n x) := by
    have := Own.of hF.2
    show Own w2 5 1 u (lowN n x).length (bys (lowN n x))
    rw [List.length_map, List.length_range]
    exact this
  exact appBo (hN.2.1.ext0 hF.1) hO (by simp; omega) fun v' w' O S => hK v' w' ((hN.ext hF.1).app O S)
open Classical in
abbrev rsSup_4 := (And.intro @xBox_r (And.intro @loadK_some (And.intro @loadsK_s (And.intro @loadsK_n (And.intro @loadsR_s (And.intro @loadsR_n (And.intro @storesK_s (And.intro @storesK_n (And.intro @xPick_t (And.intro @xPick_f (And.intro @xGuard_tt (And.intro @xGuard_ff (And.intro @xGuard_tf (And.intro @xGuard_ft (And.intro @xGuard_u 
  (And.intro @xNil_r (And.intro @xIf_t (And.intro @xBin_add' (And.intro @xBin_sub' (And.intro @xBin_mul' (And.intro @xBin_quo' (And.intro @xBin_rem' (And.intro @xIf_f (And.intro @xIf_tt (And.intro @xEx0 (And.intro @xEx1 (And.intro @xEx2 (And.intro @xEx3 (And.intro @xBin_eqs (And.intro @xBin_nes (And.intro @xUn_not (And.intro @xu8_sub (And.intro @xu8_neq 
  (And.intro @xu8_lss (And.intro @xu8_gtr (And.intro @xu16_sub (And.intro @xu16_neq (And.intro @xu16_lss (And.intro @xu16_gtr (And.intro @xu32_sub (And.intro @xu32_neq (And.intro @xu32_lss (And.intro @xu32_gtr (And.intro @xu64_sub (And.intro @xu64_neq (And.intro @xu64_lss (And.intro @xu64_gtr (And.intro @xi64_lss (And.intro @xi64_gtr (And.intro @xi64_neq 
  (And.intro @xi64_neg (And.intro @xMakeFunc_r (And.intro @xSq_r (And.intro @xPur_s (And.intro @xRd_s (And.intro @xRe_s (And.intro @xDet_s (And.intro @xDet_ld (And.intro @xDet_ld2 (And.intro @xDet_ld3 (And.intro @xDet_ld4 (And.intro @xGuard_tt (And.intro @ld_3 (And.intro @ld_29 (And.intro @ld_64 (And.intro @fa_64_0 (And.intro @fa_64_1 (And.intro @fa_64_2 
  (And.intro @fa_66_0 (And.intro @fa_66_1 (And.intro @fa_66_2 (And.intro @fa_66_3 (And.intro @fa_66_4 (And.intro @cv_3_29 (And.intro @ln_26 (And.intro @bs_26_0 (And.intro @bs_26_1 (And.intro @bs_26_2 @bs_26_4))))))))))))))))))))))))))))))))))))))))))))))))))))))))))))))))))))))))))))))
theorem rEncode_spec (b : SB) (w : World) : Yld Try.prog n_loamref6_Encode #[sbV b] w fun u w' => EncR w w' u (sbEnc b) (sbErr b) := by
  refine loamref6_Encode_of ?_
  unfold loamref6_Encode
  simp (disch := (first | omega | decide | (simp only [World.size_alloc, World.size_setCell, World.size_drew, size_sets, List.mem_cons, List.not_mem_nil, or_false, not_false_eq_true] <;> omega) | fail)) only [↓rsSup_4, rsSup_1, Option.isNone_some, Option.isNone_none, tick_eq, tickV_eq, ne_eq, Int.reduceAdd, Int.reduceSub, Int.reduceMul, Int.reduceEq, Int.reduceLT, Int.reduceLE, Int.reduceToNat, Nat.reduceMul, Nat.reduceAdd, Nat.reduceSub, List.nil_append, List.cons_append, List.getElem?_toArray, List.getElem?_cons_zero, List.getElem?_cons_succ, List.setIfInBounds_toArray, List.set_cons_zero, List.set_cons_succ, Option.map_some, List.not_mem_nil, ←decide_not, eq_self]
  refine loamref4_Check_call (Gives.to (rCheck_spec b.sec b.log b.wds _) fun w1 E1 => ?_)
  have z1 := E1.size
  try simp only [World.size_alloc, World.size_setCell, World.size_drew] at z1
  have e1_0 : ∀ o, w1.cell? ⟨w.heap.size, o, none⟩ = _ := fun o => E1.cell_o (by first | omega | (simp only [World.size_alloc, World.size_setCell, World.size_drew, size_sets] <;> omega))
  have bad : ∀ w2, Ext [] w1 w2 → ¬ SbOk b → EncR w w2 (.tuple #[.slice none 0 0, i64 1]) (sbEnc b) (sbErr b) := fun w2 hx h => by
    rw [sbEnc, sbErr, if_neg h, if_neg h]
    exact ⟨((Ext.alloc [] w _).trans E1).trans hx, none, 0, rfl, Nat.le_refl _, fun _ => rfl, RowAt.nil⟩
  by_cases h1 : badGeom b.sec b.log b.wds
  · have hv := checkV_1 h1
    simp (disch := (first | omega | decide | (simp only [World.size_alloc, World.size_setCell, World.size_drew, size_sets, List.mem_cons, List.not_mem_nil, or_false, not_false_eq_true] <;> omega) | fail)) only [↓rsSup_4, rsSup_1, Option.isNone_some, Option.isNone_none, tick_eq, tickV_eq, ne_eq, Int.reduceAdd, Int.reduceSub, Int.reduceMul, Int.reduceEq, Int.reduceLT, Int.reduceLE, Int.reduceToNat, Nat.reduceMul, Nat.reduceAdd, Nat.reduceSub, List.nil_append, List.cons_append, List.getElem?_toArray, List.getElem?_cons_zero, List.getElem?_cons_succ, List.setIfInBounds_toArray, List.set_cons_zero, List.set_cons_succ, Option.map_some, List.not_mem_nil, ←decide_not, e1_0, hv]
    exact bad _ (Ext.refl _ _) fun h => h.1 h1
  have hv := checkV_0 h1
  by_cases h2 : b.sp < 0 ∨ 1 < b.sp
  · have n0 : decide (¬ b.sp = 0) = true := decide_eq_true (by omega)
    have n1 : decide (¬ b.sp = 1) = true := decide_eq_true (by omega)
    simp (disch := (first | omega | decide | (simp only [World.size_alloc, World.size_setCell, World.size_drew, size_sets, List.mem_cons, List.not_mem_nil, or_false, not_false_eq_true] <;> omega) | fail)) only [↓rsSup_4, rsSup_1, Option.isNone_some, Option.isNone_none, tick_eq, tickV_eq, ne_eq, Int.reduceAdd, Int.reduceSub, Int.reduceMul, Int.reduceEq, Int.reduceLT, Int.reduceLE, Int.reduceToNat, Nat.reduceMul, Nat.reduceAdd, Nat.reduceSub, List.nil_append, List.cons_append, List.getElem?_toArray, List.getElem?_cons_zero, List.getElem?_cons_succ, List.setIfInBounds_toArray, List.set_cons_zero, List.set_cons_succ, Option.map_some, List.not_mem_nil, ←decide_not, e1_0, hv, n0, n1]
    exact bad _ (by (repeat (first | with_reducible exact Ext.refl _ _ | with_reducible assumption | with_reducible refine Ext.alloc' ?_ _ | with_reducible refine Ext.drew' ?_ | with_reducible refine Ext.set' ?_ ?_ | exact .inr (by first | omega | (simp only [World.size_alloc, World.size_drew, World.size_setCell] <;> omega)) | refine Ext.trans ?_ (by with_reducible assumption)))) fun h => by have := h.2; omega
  by_cases h4 : b.n < 0
  · have hn : (decide (¬ b.sp = 0) = false ∧ decide (¬ b.sp = 1) = true) ∨ (decide (¬ b.sp = 0) = true ∧ decide (¬ b.sp = 1) = false) := by
      rcases (show b.sp = 0 ∨ b.sp = 1 by omega) with h | h <;> simp [h]
    rcases hn with ⟨n0, n1⟩ | ⟨n0, n1⟩
    · simp (disch := (first | omega | decide | (simp only [World.size_alloc, World.size_setCell, World.size_drew, size_sets, List.mem_cons, List.not_mem_nil, or_false, not_false_eq_true] <;> omega) | fail)) only [↓rsSup_4, rsSup_1, Option.isNone_some, Option.isNone_none, tick_eq, tickV_eq, ne_eq, Int.reduceAdd, Int.reduceSub, Int.reduceMul, Int.reduceEq, Int.reduceLT, Int.reduceLE, Int.reduceToNat, Nat.reduceMul, Nat.reduceAdd, Nat.reduceSub, List.nil_append, List.cons_append, List.getElem?_toArray, List.getElem?_cons_zero, List.getElem?_cons_succ, List.setIfInBounds_toArray, List.set_cons_zero, List.set_cons_succ, Option.map_some, List.not_mem_nil, ←decide_not, e1_0, hv, n0, n1]
      exact bad _ (by (repeat (first | with_reducible exact Ext.refl _ _ | with_reducible assumption | with_reducible refine Ext.alloc' ?_ _ | with_reducible refine Ext.drew' ?_ | with_reducible refine Ext.set' ?_ ?_ | exact .inr (by first | omega | (simp only [World.size_alloc, World.size_drew, World.size_setCell] <;> omega)) | refine Ext.trans ?_ (by with_reducible assumption)))) fun h => by have := h.2; omega
    · simp (disch := (first | omega | decide | (simp only [World.size_alloc, World.size_setCell, World.size_drew, size_sets, List.mem_cons, List.not_mem_nil, or_false, not_false_eq_true] <;> omega) | fail)) only [↓rsSup_4, rsSup_1, Option.isNone_some, Option.isNone_none, tick_eq, tickV_eq, ne_eq, Int.reduceAdd, Int.reduceSub, Int.reduceMul, Int.reduceEq, Int.reduceLT, Int.reduceLE, Int.reduceToNat, Nat.reduceMul, Nat.reduceAdd, Nat.reduceSub, List.nil_append, List.cons_append, List.getElem?_toArray, List.getElem?_cons_zero, List.getElem?_cons_succ, List.setIfInBounds_toArray, List.set_cons_zero, List.set_cons_succ, Option.map_some, List.not_mem_nil, ←decide_not, e1_0, hv, n0, n1]
      exact bad _ (by (repeat (first | with_reducible exact Ext.refl _ _ | with_reducible assumption | with_reducible refine Ext.alloc' ?_ _ | with_reducible refine Ext.drew' ?_ | with_reducible refine Ext.set' ?_ ?_ | exact .inr (by first | omega | (simp only [World.size_alloc, World.size_drew, World.size_setCell] <;> omega)) | refine Ext.trans ?_ (by with_reducible assumption)))) fun h => by have := h.2; omega
  by_cases h5 : b.wds < b.n
  · have hn : (decide (¬ b.sp = 0) = false ∧ decide (¬ b.sp = 1) = true) ∨ (decide (¬ b.sp = 0) = true ∧ decide (¬ b.sp = 1) = false) := by
      rcases (show b.sp = 0 ∨ b.sp = 1 by omega) with h | h <;> simp [h]
    rcases hn with ⟨n0, n1⟩ | ⟨n0, n1⟩
    · simp (disch := (first | omega | decide | (simp only [World.size_alloc, World.size_setCell, World.size_drew, size_sets, List.mem_cons, List.not_mem_nil, or_false, not_false_eq_true] <;> omega) | fail)) only [↓rsSup_4, rsSup_1, Option.isNone_some, Option.isNone_none, tick_eq, tickV_eq, ne_eq, Int.reduceAdd, Int.reduceSub, Int.reduceMul, Int.reduceEq, Int.reduceLT, Int.reduceLE, Int.reduceToNat, Nat.reduceMul, Nat.reduceAdd, Nat.reduceSub, List.nil_append, List.cons_append, List.getElem?_toArray, List.getElem?_cons_zero, List.getElem?_cons_succ, List.setIfInBounds_toArray, List.set_cons_zero, List.set_cons_succ, Option.map_some, List.not_mem_nil, ←decide_not, e1_0, hv, n0, n1]
      exact bad _ (by (repeat (first | with_reducible exact Ext.refl _ _ | with_reducible assumption | with_reducible refine Ext.alloc' ?_ _ | with_reducible refine Ext.drew' ?_ | with_reducible refine Ext.set' ?_ ?_ | exact .inr (by first | omega | (simp only [World.size_alloc, World.size_drew, World.size_setCell] <;> omega)) | refine Ext.trans ?_ (by with_reducible assumption)))) fun h => by have := h.2; omega
    · simp (disch := (first | omega | decide | (simp only [World.size_alloc, World.size_setCell, World.size_drew, size_sets, List.mem_cons, List.not_mem_nil, or_false, not_false_eq_true] <;> omega) | fail)) only [↓rsSup_4, rsSup_1, Option.isNone_some, Option.isNone_none, tick_eq, tickV_eq, ne_eq, Int.reduceAdd, Int.reduceSub, Int.reduceMul, Int.reduceEq, Int.reduceLT, Int.reduceLE, Int.reduceToNat, Nat.reduceMul, Nat.reduceAdd, Nat.reduceSub, List.nil_append, List.cons_append, List.getElem?_toArray, List.getElem?_cons_zero, List.getElem?_cons_succ, List.setIfInBounds_toArray, List.set_cons_zero, List.set_cons_succ, Option.map_some, List.not_mem_nil, ←decide_not, e1_0, hv, n0, n1]
      exact bad _ (by (repeat (first | with_reducible exact Ext.refl _ _ | with_reducible assumption | with_reducible refine Ext.alloc' ?_ _ | with_reducible refine Ext.drew' ?_ | with_reducible refine Ext.set' ?_ ?_ | exact .inr (by first | omega | (simp only [World.size_alloc, World.size_drew, World.size_setCell] <;> omega)) | refine Ext.trans ?_ (by with_reducible assumption)))) fun h => by have := h.2; omega
  have hok : SbOk b := ⟨h1, by omega, by omega, by omega, by omega⟩
  have hs := sec_of hok
  have hn : (decide (¬ b.sp = 0) = false ∧ decide (¬ b.sp = 1) = true) ∨ (decide (¬ b.sp = 0) = true ∧ decide (¬ b.sp = 1) = false) := by
    rcases (show b.sp = 0 ∨ b.sp = 1 by omega) with h | h <;> simp [h]
  have bx : ∀ {wk : World}, Ext [] (w.alloc (.cells (sbC b).toArray 66)) wk → ∀ o, wk.cell? ⟨w.heap.size, o, none⟩ = (w.alloc (.cells (sbC b).toArray 66)).cell? ⟨w.heap.size, o, none⟩ := fun h o => h.cell_o (by simp)
  rcases hn with ⟨n0, n1⟩ | ⟨n0, n1⟩
  all_goals
    simp (disch := (first | omega | decide | (simp only [World.size_alloc, World.size_setCell, World.size_drew, size_sets, List.mem_cons, List.not_mem_nil, or_false, not_false_eq_true] <;> omega) | fail)) only [↓rsSup_4, rsSup_1, Option.isNone_some, Option.isNone_none, tick_eq, tickV_eq, ne_eq, Int.reduceAdd, Int.reduceSub, Int.reduceMul, Int.reduceEq, Int.reduceLT, Int.reduceLE, Int.reduceToNat, Nat.reduceMul, Nat.reduceAdd, Nat.reduceSub, List.nil_append, List.cons_append, List.getElem?_toArray, List.getElem?_cons_zero, List.getElem?_cons_succ, List.setIfInBounds_toArray, List.set_cons_zero, List.set_cons_succ, Option.map_some, List.not_mem_nil, ←decide_not, e1_0, hv, n0, n1]
    refine xConv_bytes (e := 5) (cs := bys magicB) (by kernel_rfl) (by kernel_rfl) fun w2 F2 R2 hw2 => ?_
    simp (disch := (first | omega | decide | (simp only [World.size_alloc, World.size_setCell, World.size_drew, size_sets, List.mem_cons, List.not_mem_nil, or_false, not_false_eq_true] <;> omega) | fail)) only [↓rsSup_4, rsSup_1, Option.isNone_some, Option.isNone_none, tick_eq, tickV_eq, ne_eq, Int.reduceAdd, Int.reduceSub, Int.reduceMul, Int.reduceEq, Int.reduceLT, Int.reduceLE, Int.reduceToNat, Nat.reduceMul, Nat.reduceAdd, Nat.reduceSub, List.nil_append, List.cons_append, List.getElem?_toArray, List.getElem?_cons_zero, List.getElem?_cons_succ, List.setIfInBounds_toArray, List.set_cons_zero, List.set_cons_succ, Option.map_some, List.not_mem_nil, ←decide_not, e1_0, hv, n0, n1]
    refine appBg (l := magicB) (m := [BitVec.ofNat 8 1, BitVec.ofNat 8 0, BitVec.ofNat 8 0, BitVec.ofNat 8 0]) (R2.ext0 (Ext.alloc [] w2 _)) rfl (by simp) (by decide) (by decide) rfl (by decide) (Blk.at rfl).row (by decide) fun v0 x0 hN => ?_
    have hN0 := NewR.pre ((E1.trans F2).alloc' _) hN
    have f0 := bx hN0.1
    simp (disch := (first | omega | decide | (simp only [World.size_alloc, World.size_setCell, World.size_drew, size_sets, List.mem_cons, List.not_mem_nil, or_false, not_false_eq_true] <;> omega) | fail)) only [↓rsSup_4, rsSup_1, Option.isNone_some, Option.isNone_none, tick_eq, tickV_eq, ne_eq, Int.reduceAdd, Int.reduceSub, Int.reduceMul, Int.reduceEq, Int.reduceLT, Int.reduceLE, Int.reduceToNat, Nat.reduceMul, Nat.reduceAdd, Nat.reduceSub, List.nil_append, List.cons_append, List.getElem?_toArray, List.getElem?_cons_zero, List.getElem?_cons_succ, List.setIfInBounds_toArray, List.set_cons_zero, List.set_cons_succ, Option.map_some, List.not_mem_nil, ←decide_not, e1_0, hv, n0, n1, f0]
    refine loamref1_Low_call (Yld.mono (Low_spec b.ep 8 _ (by decide)) ?_)
    intro u1 y1 F1
    refine low_app hN0 F1 (by simp) fun v1 x1 hN1 => ?_
    have f1 := bx hN1.1
    simp (disch := (first | omega | decide | (simp only [World.size_alloc, World.size_setCell, World.size_drew, size_sets, List.mem_cons, List.not_mem_nil, or_false, not_false_eq_true] <;> omega) | fail)) only [↓rsSup_4, rsSup_1, Option.isNone_some, Option.isNone_none, tick_eq, tickV_eq, ne_eq, Int.reduceAdd, Int.reduceSub, Int.reduceMul, Int.reduceEq, Int.reduceLT, Int.reduceLE, Int.reduceToNat, Nat.reduceMul, Nat.reduceAdd, Nat.reduceSub, List.nil_append, List.cons_append, List.getElem?_toArray, List.getElem?_cons_zero, List.getElem?_cons_succ, List.setIfInBounds_toArray, List.set_cons_zero, List.set_cons_succ, Option.map_some, List.not_mem_nil, ←decide_not, e1_0, hv, n0, n1, f0, f1]
    refine loamref1_Low_call (Yld.mono (Low_spec (BitVec.ofInt 64 b.sec) 4 _ (by decide)) ?_)
    intro u2 y2 F2
    refine low_app hN1 F2 (by simp) fun v2 x2 hN2 => ?_
    have f2 := bx hN2.1
    simp (disch := (first | omega | decide | (simp only [World.size_alloc, World.size_setCell, World.size_drew, size_sets, List.mem_cons, List.not_mem_nil, or_false, not_false_eq_true] <;> omega) | fail)) only [↓rsSup_4, rsSup_1, Option.isNone_some, Option.isNone_none, tick_eq, tickV_eq, ne_eq, Int.reduceAdd, Int.reduceSub, Int.reduceMul, Int.reduceEq, Int.reduceLT, Int.reduceLE, Int.reduceToNat, Nat.reduceMul, Nat.reduceAdd, Nat.reduceSub, List.nil_append, List.cons_append, List.getElem?_toArray, List.getElem?_cons_zero, List.getElem?_cons_succ, List.setIfInBounds_toArray, List.set_cons_zero, List.set_cons_succ, Option.map_some, List.not_mem_nil, ←decide_not, e1_0, hv, n0, n1, f0, f1, f2]
    refine loamref1_Low_call (Yld.mono (Low_spec (BitVec.ofInt 64 b.log) 4 _ (by decide)) ?_)
    intro u3 y3 F3
    refine low_app hN2 F3 (by simp) fun v3 x3 hN3 => ?_
    have f3 := bx hN3.1
    simp (disch := (first | omega | decide | (simp only [World.size_alloc, World.size_setCell, World.size_drew, size_sets, List.mem_cons, List.not_mem_nil, or_false, not_false_eq_true] <;> omega) | fail)) only [↓rsSup_4, rsSup_1, Option.isNone_some, Option.isNone_none, tick_eq, tickV_eq, ne_eq, Int.reduceAdd, Int.reduceSub, Int.reduceMul, Int.reduceEq, Int.reduceLT, Int.reduceLE, Int.reduceToNat, Nat.reduceMul, Nat.reduceAdd, Nat.reduceSub, List.nil_append, List.cons_append, List.getElem?_toArray, List.getElem?_cons_zero, List.getElem?_cons_succ, List.setIfInBounds_toArray, List.set_cons_zero, List.set_cons_succ, Option.map_some, List.not_mem_nil, ←decide_not, e1_0, hv, n0, n1, f0, f1, f2, f3]
    refine loamref1_Low_call (Yld.mono (Low_spec (BitVec.ofInt 64 b.wds) 4 _ (by decide)) ?_)
    intro u4 y4 F4
    refine low_app hN3 F4 (by simp) fun v4 x4 hN4 => ?_
    have f4 := bx hN4.1
    simp (disch := (first | omega | decide | (simp only [World.size_alloc, World.size_setCell, World.size_drew, size_sets, List.mem_cons, List.not_mem_nil, or_false, not_false_eq_true] <;> omega) | fail)) only [↓rsSup_4, rsSup_1, Option.isNone_some, Option.isNone_none, tick_eq, tickV_eq, ne_eq, Int.reduceAdd, Int.reduceSub, Int.reduceMul, Int.reduceEq, Int.reduceLT, Int.reduceLE, Int.reduceToNat, Nat.reduceMul, Nat.reduceAdd, Nat.reduceSub, List.nil_append, List.cons_append, List.getElem?_toArray, List.getElem?_cons_zero, List.getElem?_cons_succ, List.setIfInBounds_toArray, List.set_cons_zero, List.set_cons_succ, Option.map_some, List.not_mem_nil, ←decide_not, e1_0, hv, n0, n1, f0, f1, f2, f3, f4]
    refine loamref1_Low_call (Yld.mono (Low_spec (BitVec.ofInt 64 b.sp) 4 _ (by decide)) ?_)
    intro u5 y5 F5
    refine low_app hN4 F5 (by simp) fun v5 x5 hN5 => ?_
    have f5 := bx hN5.1
    simp (disch := (first | omega | decide | (simp only [World.size_alloc, World.size_setCell, World.size_drew, size_sets, List.mem_cons, List.not_mem_nil, or_false, not_false_eq_true] <;> omega) | fail)) only [↓rsSup_4, rsSup_1, Option.isNone_some, Option.isNone_none, tick_eq, tickV_eq, ne_eq, Int.reduceAdd, Int.reduceSub, Int.reduceMul, Int.reduceEq, Int.reduceLT, Int.reduceLE, Int.reduceToNat, Nat.reduceMul, Nat.reduceAdd, Nat.reduceSub, List.nil_append, List.cons_append, List.getElem?_toArray, List.getElem?_cons_zero, List.getElem?_cons_succ, List.setIfInBounds_toArray, List.set_cons_zero, List.set_cons_succ, Option.map_some, List.not_mem_nil, ←decide_not, e1_0, hv, n0, n1, f0, f1, f2, f3, f4, f5]
    refine loamref1_Low_call (Yld.mono (Low_spec (BitVec.ofInt 64 b.n) 4 _ (by decide)) ?_)
    intro u6 y6 F6
    refine low_app hN5 F6 (by simp) fun v6 x6 hN6 => ?_
    have f6 := bx hN6.1
    simp (disch := (first | omega | decide | (simp only [World.size_alloc, World.size_setCell, World.size_drew, size_sets, List.mem_cons, List.not_mem_nil, or_false, not_false_eq_true] <;> omega) | fail)) only [↓rsSup_4, rsSup_1, Option.isNone_some, Option.isNone_none, tick_eq, tickV_eq, ne_eq, Int.reduceAdd, Int.reduceSub, Int.reduceMul, Int.reduceEq, Int.reduceLT, Int.reduceLE, Int.reduceToNat, Nat.reduceMul, Nat.reduceAdd, Nat.reduceSub, List.nil_append, List.cons_append, List.getElem?_toArray, List.getElem?_cons_zero, List.getElem?_cons_succ, List.setIfInBounds_toArray, List.set_cons_zero, List.set_cons_succ, Option.map_some, List.not_mem_nil, ←decide_not, e1_0, hv, n0, n1, f0, f1, f2, f3, f4, f5, f6]
    refine loamref1_Low_call (Yld.mono (Low_spec b.lg 8 _ (by decide)) ?_)
    intro u7 y7 F7
    refine low_app hN6 F7 (by simp) fun v7 x7 hN7 => ?_
    have f7 := bx hN7.1
    have he : ((((((((magicB ++ [BitVec.ofNat 8 1, BitVec.ofNat 8 0, BitVec.ofNat 8 0, BitVec.ofNat 8 0]) ++ lowN 8 b.ep) ++ lowN 4 (BitVec.ofInt 64 b.sec)) ++ lowN 4 (BitVec.ofInt 64 b.log)) ++ lowN 4 (BitVec.ofInt 64 b.wds)) ++ lowN 4 (BitVec.ofInt 64 b.sp)) ++ lowN 4 (BitVec.ofInt 64 b.n)) ++ lowN 8 b.lg) = partB b 8 := by
      unfold partB
      simp only [List.take_of_length_le (show (fsOf b).length ≤ 8 from Nat.le_refl _), List.flatMap_cons, List.flatMap_nil, List.append_nil, List.append_assoc]
      rfl
    rw [he] at hN7
    have h44 := partB_8 b
    simp (disch := (first | omega | decide | (simp only [World.size_alloc, World.size_setCell, World.size_drew, size_sets, List.mem_cons, List.not_mem_nil, or_false, not_false_eq_true] <;> omega) | fail)) only [↓rsSup_4, rsSup_1, Option.isNone_some, Option.isNone_none, tick_eq, tickV_eq, ne_eq, Int.reduceAdd, Int.reduceSub, Int.reduceMul, Int.reduceEq, Int.reduceLT, Int.reduceLE, Int.reduceToNat, Nat.reduceMul, Nat.reduceAdd, Nat.reduceSub, List.nil_append, List.cons_append, List.getElem?_toArray, List.getElem?_cons_zero, List.getElem?_cons_succ, List.setIfInBounds_toArray, List.set_cons_zero, List.set_cons_succ, Option.map_some, List.not_mem_nil, ←decide_not, e1_0, hv, n0, n1, f0, f1, f2, f3, f4, f5, f6]
    refine xLoop_r ((b.sec - 4).toNat - 44) (fun k vs w' => ∃ v, vs = [v] ∧ NewB (w.alloc (.cells (sbC b).toArray 66)) w' v (partB b 8 ++ zs8 k)) ⟨_, rfl, by simpa using hN7⟩ ?_ ?_
    · rintro k hk u w3 ⟨v, hu, hN⟩ nxt hnx
      simp only [List.map_cons, List.map_nil, List.cons.injEq, and_true] at hu
      rw [hu]
      have f8 := bx hN.1
      have hO := hN.2.1
      obtain ⟨a8, c8', rfl, q1, _, q2, q3, _⟩ := hN.2.1.slice
      have hlen : (partB b 8 ++ zs8 k).length = 44 + k := by rw [List.length_append, h44, List.length_replicate]
      unfold loamref6_Encode_l1
      have dl : decide (((partB b 8 ++ zs8 k).length : Int) < b.sec - 4) = true := decide_eq_true (by rw [hlen]; omega)
      simp (disch := (first | omega | decide | (simp only [World.size_alloc, World.size_setCell, World.size_drew, size_sets, List.mem_cons, List.not_mem_nil, or_false, not_false_eq_true] <;> omega) | fail)) only [↓rsSup_4, rsSup_1, Option.isNone_some, Option.isNone_none, tick_eq, tickV_eq, ne_eq, Int.reduceAdd, Int.reduceSub, Int.reduceMul, Int.reduceEq, Int.reduceLT, Int.reduceLE, Int.reduceToNat, Nat.reduceMul, Nat.reduceAdd, Nat.reduceSub, List.nil_append, List.cons_append, List.getElem?_toArray, List.getElem?_cons_zero, List.getElem?_cons_succ, List.setIfInBounds_toArray, List.set_cons_zero, List.set_cons_succ, Option.map_some, List.not_mem_nil, ←decide_not, e1_0, hv, n0, n1, f0, f1, f2, f3, f4, f5, f6, f8, dl]
      refine appBl (m := [BitVec.ofNat 8 0]) hO rfl rfl (by rw [hlen]; simp; omega) fun v' w' O S => ?_
      refine hnx _ _ ⟨v', rfl, ?_⟩
      have := hN.app O S
      rwa [List.append_assoc, show zs8 k ++ [BitVec.ofNat 8 0] = zs8 (k + 1) from (List.replicate_succ' ..).symm] at this
    · rintro u w3 ⟨v, hu, hN⟩ nxt
      simp only [List.map_cons, List.map_nil, List.cons.injEq, and_true] at hu
      rw [hu]
      have f8 := bx hN.1
      have hN' : NewB (w.alloc (.cells (sbC b).toArray 66)) w3 v (bodyB b) := by unfold bodyB; rw [h44]; exact hN
      have hO := hN'.2.1
      have hlen := bodyB_len hok
      obtain ⟨a8, c8', rfl, q1, _, q2, q3, _⟩ := hN'.2.1.slice
      unfold loamref6_Encode_l1
      have dl : decide (((bodyB b).length : Int) < b.sec - 4) = false := decide_eq_false (by rw [hlen]; omega)
      simp (disch := (first | omega | decide | (simp only [World.size_alloc, World.size_setCell, World.size_drew, size_sets, List.mem_cons, List.not_mem_nil, or_false, not_false_eq_true] <;> omega) | fail)) only [↓rsSup_4, rsSup_1, Option.isNone_some, Option.isNone_none, tick_eq, tickV_eq, ne_eq, Int.reduceAdd, Int.reduceSub, Int.reduceMul, Int.reduceEq, Int.reduceLT, Int.reduceLE, Int.reduceToNat, Nat.reduceMul, Nat.reduceAdd, Nat.reduceSub, List.nil_append, List.cons_append, List.getElem?_toArray, List.getElem?_cons_zero, List.getElem?_cons_succ, List.setIfInBounds_toArray, List.set_cons_zero, List.set_cons_succ, Option.map_some, List.not_mem_nil, ←decide_not, e1_0, hv, n0, n1, f0, f1, f2, f3, f4, f5, f6, f8, dl]
      refine loamref2_Seal_call (Yld.mono (rSeal_spec (bodyB b) a8 _ _ w3 rfl (by omega) q3 q2) ?_)
      rintro u4 v4 ⟨F4, a4, c4, rfl, hc4, R4⟩
      have e : sbEnc b = sealV (bodyB b) := if_pos hok
      have e0 : sbErr b = 0 := if_pos hok
      rw [e, e0]
      exact ⟨((Ext.alloc [] w _).trans hN'.1).trans F4, a4, c4, rfl, hc4, R4.2, R4.1⟩

abbrev rsSup_5 := (And.intro @xBox_r (And.intro @loadK_some (And.intro @loadsK_s (And.intro @loadsK_n (And.intro @loadsR_s (And.intro @loadsR_n (And.intro @storesK_s (And.intro @storesK_n (And.intro @xPick_t (And.intro @xPick_f (And.intro @xGuard_tt (And.intro @xGuard_ff (And.intro @xGuard_tf (And.intro @xGuard_ft (And.intro @xGuard_u 
  (And.intro @xNil_r (And.intro @xIf_t (And.intro @xBin_add' (And.intro @xBin_sub' (And.intro @xBin_mul' (And.intro @xBin_quo' (And.intro @xBin_rem' (And.intro @xIf_f (And.intro @xIf_tt (And.intro @xEx0 (And.intro @xEx1 (And.intro @xEx2 (And.intro @xEx3 (And.intro @xBin_eqs (And.intro @xBin_nes (And.intro @xUn_not (And.intro @xMakeFunc_r (And.intro @xSq_r 
  (And.intro @xPur_s (And.intro @xRd_s (And.intro @xRe_s (And.intro @xDet_s (And.intro @xDet_ld (And.intro @xDet_ld2 (And.intro @xDet_ld3 (And.intro @xDet_ld4 (And.intro @xGuard_tt @ld_26))))))))))))))))))))))))))))))))))))))))))
theorem get6_spec (s : List (BitVec 8)) (a : Option Addr) (c g at' n : Nat) (w : World) (hs : s.length ≤ 100000000) (hc : w.cell? ⟨g, 0, none⟩ = some (.slice a s.length c)) (h : RowAt w a (bys s)) (hi : inside at' n s.length) :
    Gives Try.prog n_sup_Decode_1 #[i64 at', i64 n, .pointer (some ⟨g, 0, none⟩)] w (u64 (getV s at' n)) := by
  refine sup_Decode_1_of ?_
  unfold sup_Decode_1
  simp (disch := (first | omega | decide | (simp only [World.size_alloc, World.size_setCell, World.size_drew, size_sets, List.mem_cons, List.not_mem_nil, or_false, not_false_eq_true] <;> omega) | fail)) only [↓rsSup_5, rsSup_1, Option.isNone_some, Option.isNone_none, tick_eq, tickV_eq, ne_eq, Int.reduceAdd, Int.reduceSub, Int.reduceMul, Int.reduceEq, Int.reduceLT, Int.reduceLE, Int.reduceToNat, Nat.reduceMul, Nat.reduceAdd, Nat.reduceSub, List.nil_append, List.cons_append, List.getElem?_toArray, List.getElem?_cons_zero, List.getElem?_cons_succ, List.setIfInBounds_toArray, List.set_cons_zero, List.set_cons_succ, Option.map_some, List.not_mem_nil, ←decide_not, hc]
  refine bits_Get_call (Gives.to (Get_spec s a c at' n _ hs h hi) fun w1 E1 => ?_)
  have z1 := E1.size
  try simp only [World.size_alloc, World.size_setCell, World.size_drew] at z1
  simp (disch := (first | omega | decide | (simp only [World.size_alloc, World.size_setCell, World.size_drew, size_sets, List.mem_cons, List.not_mem_nil, or_false, not_false_eq_true] <;> omega) | fail)) only [↓rsSup_5, rsSup_1, Option.isNone_some, Option.isNone_none, tick_eq, tickV_eq, ne_eq, Int.reduceAdd, Int.reduceSub, Int.reduceMul, Int.reduceEq, Int.reduceLT, Int.reduceLE, Int.reduceToNat, Nat.reduceMul, Nat.reduceAdd, Nat.reduceSub, List.nil_append, List.cons_append, List.getElem?_toArray, List.getElem?_cons_zero, List.getElem?_cons_succ, List.setIfInBounds_toArray, List.set_cons_zero, List.set_cons_succ, Option.map_some, List.not_mem_nil, ←decide_not, hc]
  exact ⟨by trivial, by (repeat (first | with_reducible exact Ext.refl _ _ | with_reducible assumption | with_reducible refine Ext.alloc' ?_ _ | with_reducible refine Ext.drew' ?_ | with_reducible refine Ext.set' ?_ ?_ | exact .inr (by first | omega | (simp only [World.size_alloc, World.size_drew, World.size_setCell] <;> omega)) | refine Ext.trans ?_ (by with_reducible assumption)))⟩
abbrev rsSup_6 := (And.intro @xBox_r (And.intro @loadK_some (And.intro @loadsK_s (And.intro @loadsK_n (And.intro @loadsR_s (And.intro @loadsR_n (And.intro @storesK_s (And.intro @storesK_n (And.intro @xPick_t (And.intro @xPick_f (And.intro @xGuard_tt (And.intro @xGuard_ff (And.intro @xGuard_tf (And.intro @xGuard_ft (And.intro @xGuard_u 
  (And.intro @xNil_r (And.intro @xIf_t (And.intro @xBin_add' (And.intro @xBin_sub' (And.intro @xBin_mul' (And.intro @xBin_quo' (And.intro @xBin_rem' (And.intro @xIf_f (And.intro @xIf_tt (And.intro @xEx0 (And.intro @xEx1 (And.intro @xEx2 (And.intro @xEx3 (And.intro @xBin_eqs (And.intro @xBin_nes (And.intro @xUn_not (And.intro @xMakeFunc_r (And.intro @xSq_r 
  (And.intro @xPur_s (And.intro @xRd_s (And.intro @xRe_s (And.intro @xDet_s (And.intro @xDet_ld (And.intro @xDet_ld2 (And.intro @xDet_ld3 (And.intro @xDet_ld4 @xGuard_tt)))))))))))))))))))))))))))))))))))))))))
theorem number_spec (s : List (BitVec 8)) (a : Option Addr) (c at' n : Nat) (w : World) (hs : s.length ≤ 100000000) (h : RowAt w a (bys s)) (hi : inside at' n s.length) :
    Gives Try.prog n_loamref6_number #[.slice a s.length c, i64 at', i64 n] w (u64 (getV s at' n)) := by
  refine loamref6_number_of ?_
  unfold loamref6_number
  refine loamref1_Get_call (Gives.to (rGet_spec s a c at' n _ hs h hi) fun w1 E1 => ?_)
  have z1 := E1.size
  try simp only [World.size_alloc, World.size_setCell, World.size_drew] at z1
  simp (disch := (first | omega | decide | (simp only [World.size_alloc, World.size_setCell, World.size_drew, size_sets, List.mem_cons, List.not_mem_nil, or_false, not_false_eq_true] <;> omega) | fail)) only [↓rsSup_6, rsSup_1, Option.isNone_some, Option.isNone_none, tick_eq, tickV_eq, ne_eq, Int.reduceAdd, Int.reduceSub, Int.reduceMul, Int.reduceEq, Int.reduceLT, Int.reduceLE, Int.reduceToNat, Nat.reduceMul, Nat.reduceAdd, Nat.reduceSub, List.nil_append, List.cons_append, List.getElem?_toArray, List.getElem?_cons_zero, List.getElem?_cons_succ, List.setIfInBounds_toArray, List.set_cons_zero, List.set_cons_succ, Option.map_some, List.not_mem_nil, ←decide_not, eq_self]
  exact ⟨by trivial, by (repeat (first | with_reducible exact Ext.refl _ _ | with_reducible assumption | with_reducible refine Ext.alloc' ?_ _ | with_reducible refine Ext.drew' ?_ | with_reducible refine Ext.set' ?_ ?_ | exact .inr (by first | omega | (simp only [World.size_alloc, World.size_drew, World.size_setCell] <;> omega)) | refine Ext.trans ?_ (by with_reducible assumption)))⟩
open Classical in
abbrev rsSup_7 := (And.intro @xBox_r (And.intro @loadK_some (And.intro @loadsK_s (And.intro @loadsK_n (And.intro @loadsR_s (And.intro @loadsR_n (And.intro @storesK_s (And.intro @storesK_n (And.intro @xPick_t (And.intro @xPick_f (And.intro @xGuard_tt (And.intro @xGuard_ff (And.intro @xGuard_tf (And.intro @xGuard_ft (And.intro @xGuard_u 
  (And.intro @xNil_r (And.intro @xIf_t (And.intro @xBin_add' (And.intro @xBin_sub' (And.intro @xBin_mul' (And.intro @xBin_quo' (And.intro @xBin_rem' (And.intro @xIf_f (And.intro @xIf_tt (And.intro @xEx0 (And.intro @xEx1 (And.intro @xEx2 (And.intro @xEx3 (And.intro @xBin_eqs (And.intro @xBin_nes (And.intro @xUn_not (And.intro @xu8_com (And.intro @xu8_neq 
  (And.intro @xu8_lss (And.intro @xu16_com (And.intro @xu16_neq (And.intro @xu16_lss (And.intro @xu32_com (And.intro @xu32_neq (And.intro @xu32_lss (And.intro @xu64_com (And.intro @xu64_neq (And.intro @xu64_lss (And.intro @xi64_lss (And.intro @xi64_neq (And.intro @xi64_neg (And.intro @xMakeFunc_r (And.intro @xSq_r (And.intro @xPur_s (And.intro @xRd_s 
  (And.intro @xRe_s (And.intro @xDet_s (And.intro @xDet_ld (And.intro @xDet_ld2 (And.intro @xDet_ld3 (And.intro @xDet_ld4 (And.intro @xGuard_tt (And.intro @ld_26 (And.intro @ld_58 (And.intro @lr_58 (And.intro @al_58 (And.intro @st_58 (And.intro @bd_56_0_1_2 (And.intro @bd_58_0 (And.intro @bd_58_0_1_2_3_4 (And.intro @bd_58_1_3_2 (And.intro @bd_58 
  (And.intro @cv_29_3 @ln_26))))))))))))))))))))))))))))))))))))))))))))))))))))))))))))))))))))
theorem sup_Decode_spec (s : List (BitVec 8)) (a : Option Addr) (c : Nat) (w : World) (hs : s.length ≤ 1000000) (h : RowAt w a (bys s)) :
    Gives Try.prog n_sup_Decode #[.slice a s.length c] w (.tuple #[sbV (sbDec s), i64 (sbDecE s)]) := by
  refine sup_Decode_of ?_
  unfold sup_Decode
  simp (disch := (first | omega | decide | (simp only [World.size_alloc, World.size_setCell, World.size_drew, size_sets, List.mem_cons, List.not_mem_nil, or_false, not_false_eq_true] <;> omega) | fail)) only [↓rsSup_7, rsSup_1, Option.isNone_some, Option.isNone_none, tick_eq, tickV_eq, ne_eq, Int.reduceAdd, Int.reduceSub, Int.reduceMul, Int.reduceEq, Int.reduceLT, Int.reduceLE, Int.reduceToNat, Nat.reduceMul, Nat.reduceAdd, Nat.reduceSub, List.nil_append, List.cons_append, List.getElem?_toArray, List.getElem?_cons_zero, List.getElem?_cons_succ, List.setIfInBounds_toArray, List.set_cons_zero, List.set_cons_succ, Option.map_some, List.not_mem_nil, ←decide_not, eq_self]
  by_cases h64 : s.length < 64
  · have e : ¬ SbIs s := fun h => by have := h.1; omega
    simp (disch := (first | omega | decide | (simp only [World.size_alloc, World.size_setCell, World.size_drew, size_sets, List.mem_cons, List.not_mem_nil, or_false, not_false_eq_true] <;> omega) | fail)) only [↓rsSup_7, rsSup_1, Option.isNone_some, Option.isNone_none, tick_eq, tickV_eq, ne_eq, Int.reduceAdd, Int.reduceSub, Int.reduceMul, Int.reduceEq, Int.reduceLT, Int.reduceLE, Int.reduceToNat, Nat.reduceMul, Nat.reduceAdd, Nat.reduceSub, List.nil_append, List.cons_append, List.getElem?_toArray, List.getElem?_cons_zero, List.getElem?_cons_succ, List.setIfInBounds_toArray, List.set_cons_zero, List.set_cons_succ, Option.map_some, List.not_mem_nil, ←decide_not, eq_self]
    refine ⟨?_, by (repeat (first | with_reducible exact Ext.refl _ _ | with_reducible assumption | with_reducible refine Ext.alloc' ?_ _ | with_reducible refine Ext.drew' ?_ | with_reducible refine Ext.set' ?_ ?_ | exact .inr (by first | omega | (simp only [World.size_alloc, World.size_drew, World.size_setCell] <;> omega)) | refine Ext.trans ?_ (by with_reducible assumption)))⟩
    rw [sbDec, sbDecE, if_neg e, if_neg e]
  · simp (disch := (first | omega | decide | (simp only [World.size_alloc, World.size_setCell, World.size_drew, size_sets, List.mem_cons, List.not_mem_nil, or_false, not_false_eq_true] <;> omega) | fail)) only [↓rsSup_7, rsSup_1, Option.isNone_some, Option.isNone_none, tick_eq, tickV_eq, ne_eq, Int.reduceAdd, Int.reduceSub, Int.reduceMul, Int.reduceEq, Int.reduceLT, Int.reduceLE, Int.reduceToNat, Nat.reduceMul, Nat.reduceAdd, Nat.reduceSub, List.nil_append, List.cons_append, List.getElem?_toArray, List.getElem?_cons_zero, List.getElem?_cons_succ, List.setIfInBounds_toArray, List.set_cons_zero, List.set_cons_succ, Option.map_some, List.not_mem_nil, ←decide_not, eq_self]
    have hc0 : (((w.alloc (.cells #[.slice a s.length c] 26)).alloc (.cells #[c64 0, i64 0, i64 0, i64 0, i64 0, i64 0, c64 0] 58))).cell? ⟨w.heap.size, 0, none⟩ = some (.slice a s.length c) := by simp (disch := (first | omega | decide | (simp only [World.size_alloc, World.size_setCell, World.size_drew, size_sets, List.mem_cons, List.not_mem_nil, or_false, not_false_eq_true] <;> omega) | fail)) only [↓rsSup_7, rsSup_1, Option.isNone_some, Option.isNone_none, tick_eq, tickV_eq, ne_eq, Int.reduceAdd, Int.reduceSub, Int.reduceMul, Int.reduceEq, Int.reduceLT, Int.reduceLE, Int.reduceToNat, Nat.reduceMul, Nat.reduceAdd, Nat.reduceSub, List.nil_append, List.cons_append, List.getElem?_toArray, List.getElem?_cons_zero, List.getElem?_cons_succ, List.setIfInBounds_toArray, List.set_cons_zero, List.set_cons_succ, Option.map_some, List.not_mem_nil, ←decide_not, eq_self]
    have hsz : ((w.alloc (.cells #[.slice a s.length c] 26)).alloc (.cells #[c64 0, i64 0, i64 0, i64 0, i64 0, i64 0, c64 0] 58)).heap.size = w.heap.size + 2 := by simp
    have hX0 : Ext [] w ((w.alloc (.cells #[.slice a s.length c] 26)).alloc (.cells #[c64 0, i64 0, i64 0, i64 0, i64 0, i64 0, c64 0] 58)) := by (repeat (first | with_reducible exact Ext.refl _ _ | with_reducible assumption | with_reducible refine Ext.alloc' ?_ _ | with_reducible refine Ext.drew' ?_ | with_reducible refine Ext.set' ?_ ?_ | exact .inr (by first | omega | (simp only [World.size_alloc, World.size_drew, World.size_setCell] <;> omega)) | refine Ext.trans ?_ (by with_reducible assumption)))
    have hB0 : Blk ((w.alloc (.cells #[.slice a s.length c] 26)).alloc (.cells #[c64 0, i64 0, i64 0, i64 0, i64 0, i64 0, c64 0] 58)) (w.heap.size + 1) 58 [c64 0, i64 0, i64 0, i64 0, i64 0, i64 0, c64 0] := Blk.at (by simp)
    generalize ((w.alloc (.cells #[.slice a s.length c] 26)).alloc (.cells #[c64 0, i64 0, i64 0, i64 0, i64 0, i64 0, c64 0] 58)) = y0 at *
    have Y0 : Ext [] y0 y0 := Ext.refl _ _
    refine sup_Decode_1_callc (Gives.to (get6_spec s a c w.heap.size 8 8 _ (by omega) (Y0.cell0 hc0) ((h.ext0 hX0).ext0 Y0) (by unfold inside; omega)) fun y1 F1 => ?_)
    have Y1 := Y0.trans F1
    simp (disch := (first | omega | decide | (simp only [World.size_alloc, World.size_setCell, World.size_drew, size_sets, List.mem_cons, List.not_mem_nil, or_false, not_false_eq_true] <;> omega) | fail)) only [↓rsSup_7, rsSup_1, Option.isNone_some, Option.isNone_none, tick_eq, tickV_eq, ne_eq, Int.reduceAdd, Int.reduceSub, Int.reduceMul, Int.reduceEq, Int.reduceLT, Int.reduceLE, Int.reduceToNat, Nat.reduceMul, Nat.reduceAdd, Nat.reduceSub, List.nil_append, List.cons_append, List.getElem?_toArray, List.getElem?_cons_zero, List.getElem?_cons_succ, List.setIfInBounds_toArray, List.set_cons_zero, List.set_cons_succ, Option.map_some, List.not_mem_nil, ←decide_not, eq_self]
    refine sup_Decode_1_callc (Gives.to (get6_spec s a c w.heap.size 16 4 _ (by omega) (Y1.cell0 hc0) ((h.ext0 hX0).ext0 Y1) (by unfold inside; omega)) fun y2 F2 => ?_)
    have Y2 := Y1.trans F2
    simp (disch := (first | omega | decide | (simp only [World.size_alloc, World.size_setCell, World.size_drew, size_sets, List.mem_cons, List.not_mem_nil, or_false, not_false_eq_true] <;> omega) | fail)) only [↓rsSup_7, rsSup_1, Option.isNone_some, Option.isNone_none, tick_eq, tickV_eq, ne_eq, Int.reduceAdd, Int.reduceSub, Int.reduceMul, Int.reduceEq, Int.reduceLT, Int.reduceLE, Int.reduceToNat, Nat.reduceMul, Nat.reduceAdd, Nat.reduceSub, List.nil_append, List.cons_append, List.getElem?_toArray, List.getElem?_cons_zero, List.getElem?_cons_succ, List.setIfInBounds_toArray, List.set_cons_zero, List.set_cons_succ, Option.map_some, List.not_mem_nil, ←decide_not, eq_self]
    refine sup_Decode_1_callc (Gives.to (get6_spec s a c w.heap.size 20 4 _ (by omega) (Y2.cell0 hc0) ((h.ext0 hX0).ext0 Y2) (by unfold inside; omega)) fun y3 F3 => ?_)
    have Y3 := Y2.trans F3
    simp (disch := (first | omega | decide | (simp only [World.size_alloc, World.size_setCell, World.size_drew, size_sets, List.mem_cons, List.not_mem_nil, or_false, not_false_eq_true] <;> omega) | fail)) only [↓rsSup_7, rsSup_1, Option.isNone_some, Option.isNone_none, tick_eq, tickV_eq, ne_eq, Int.reduceAdd, Int.reduceSub, Int.reduceMul, Int.reduceEq, Int.reduceLT, Int.reduceLE, Int.reduceToNat, Nat.reduceMul, Nat.reduceAdd, Nat.reduceSub, List.nil_append, List.cons_append, List.getElem?_toArray, List.getElem?_cons_zero, List.getElem?_cons_succ, List.setIfInBounds_toArray, List.set_cons_zero, List.set_cons_succ, Option.map_some, List.not_mem_nil, ←decide_not, eq_self]
    refine sup_Decode_1_callc (Gives.to (get6_spec s a c w.heap.size 24 4 _ (by omega) (Y3.cell0 hc0) ((h.ext0 hX0).ext0 Y3) (by unfold inside; omega)) fun y4 F4 => ?_)
    have Y4 := Y3.trans F4
    simp (disch := (first | omega | decide | (simp only [World.size_alloc, World.size_setCell, World.size_drew, size_sets, List.mem_cons, List.not_mem_nil, or_false, not_false_eq_true] <;> omega) | fail)) only [↓rsSup_7, rsSup_1, Option.isNone_some, Option.isNone_none, tick_eq, tickV_eq, ne_eq, Int.reduceAdd, Int.reduceSub, Int.reduceMul, Int.reduceEq, Int.reduceLT, Int.reduceLE, Int.reduceToNat, Nat.reduceMul, Nat.reduceAdd, Nat.reduceSub, List.nil_append, List.cons_append, List.getElem?_toArray, List.getElem?_cons_zero, List.getElem?_cons_succ, List.setIfInBounds_toArray, List.set_cons_zero, List.set_cons_succ, Option.map_some, List.not_mem_nil, ←decide_not, eq_self]
    refine sup_Decode_1_callc (Gives.to (get6_spec s a c w.heap.size 28 4 _ (by omega) (Y4.cell0 hc0) ((h.ext0 hX0).ext0 Y4) (by unfold inside; omega)) fun y5 F5 => ?_)
    have Y5 := Y4.trans F5
    simp (disch := (first | omega | decide | (simp only [World.size_alloc, World.size_setCell, World.size_drew, size_sets, List.mem_cons, List.not_mem_nil, or_false, not_false_eq_true] <;> omega) | fail)) only [↓rsSup_7, rsSup_1, Option.isNone_some, Option.isNone_none, tick_eq, tickV_eq, ne_eq, Int.reduceAdd, Int.reduceSub, Int.reduceMul, Int.reduceEq, Int.reduceLT, Int.reduceLE, Int.reduceToNat, Nat.reduceMul, Nat.reduceAdd, Nat.reduceSub, List.nil_append, List.cons_append, List.getElem?_toArray, List.getElem?_cons_zero, List.getElem?_cons_succ, List.setIfInBounds_toArray, List.set_cons_zero, List.set_cons_succ, Option.map_some, List.not_mem_nil, ←decide_not, eq_self]
    refine sup_Decode_1_callc (Gives.to (get6_spec s a c w.heap.size 32 4 _ (by omega) (Y5.cell0 hc0) ((h.ext0 hX0).ext0 Y5) (by unfold inside; omega)) fun y6 F6 => ?_)
    have Y6 := Y5.trans F6
    simp (disch := (first | omega | decide | (simp only [World.size_alloc, World.size_setCell, World.size_drew, size_sets, List.mem_cons, List.not_mem_nil, or_false, not_false_eq_true] <;> omega) | fail)) only [↓rsSup_7, rsSup_1, Option.isNone_some, Option.isNone_none, tick_eq, tickV_eq, ne_eq, Int.reduceAdd, Int.reduceSub, Int.reduceMul, Int.reduceEq, Int.reduceLT, Int.reduceLE, Int.reduceToNat, Nat.reduceMul, Nat.reduceAdd, Nat.reduceSub, List.nil_append, List.cons_append, List.getElem?_toArray, List.getElem?_cons_zero, List.getElem?_cons_succ, List.setIfInBounds_toArray, List.set_cons_zero, List.set_cons_succ, Option.map_some, List.not_mem_nil, ←decide_not, eq_self]
    refine sup_Decode_1_callc (Gives.to (get6_spec s a c w.heap.size 36 8 _ (by omega) (Y6.cell0 hc0) ((h.ext0 hX0).ext0 Y6) (by unfold inside; omega)) fun y7 F7 => ?_)
    have Y7 := Y6.trans F7
    simp (disch := (first | omega | decide | (simp only [World.size_alloc, World.size_setCell, World.size_drew, size_sets, List.mem_cons, List.not_mem_nil, or_false, not_false_eq_true] <;> omega) | fail)) only [↓rsSup_7, rsSup_1, Option.isNone_some, Option.isNone_none, tick_eq, tickV_eq, ne_eq, Int.reduceAdd, Int.reduceSub, Int.reduceMul, Int.reduceEq, Int.reduceLT, Int.reduceLE, Int.reduceToNat, Nat.reduceMul, Nat.reduceAdd, Nat.reduceSub, List.nil_append, List.cons_append, List.getElem?_toArray, List.getElem?_cons_zero, List.getElem?_cons_succ, List.setIfInBounds_toArray, List.set_cons_zero, List.set_cons_succ, Option.map_some, List.not_mem_nil, ←decide_not, eq_self]
    have hz7 := Y7.size
    refine sup_Encode_call (Yld.mono (sup_Encode_spec (fieldsB s) _) ?_)
    rintro u8 y8 ⟨F8, a8, c8', rfl, q1, q2, q3⟩
    have Y8 := (Y7.alloc' _).trans F8
    have B8 := hB0.ext Y8 (by simp)
    have hc8 := Y8.cell0 hc0
    have hB5 : Blk (y7.alloc (.cells (sbC (fieldsB s)).toArray 58)) y7.heap.size 58 (sbC (fieldsB s)) := Blk.new y7 _
    have B5 := hB5.ext F8 (by simp)
    have X8 := hX0.trans Y8
    have hz8 := F8.size
    rw [World.size_alloc] at hz8
    have hzero : ∀ (y9 : World), Ext [] y8 y9 → ¬ SbIs s → Blk y9 (w.heap.size + 1) 58 [c64 0, i64 0, i64 0, i64 0, i64 0, i64 0, c64 0] := fun y9 hx _ => B8.ext hx (by simp)
    by_cases hok : SbOk (fieldsB s)
    · have e0 : sbErr (fieldsB s) = 0 := if_pos hok
      simp (disch := (first | omega | decide | (simp only [World.size_alloc, World.size_setCell, World.size_drew, size_sets, List.mem_cons, List.not_mem_nil, or_false, not_false_eq_true] <;> omega) | fail)) only [↓rsSup_7, rsSup_1, Option.isNone_some, Option.isNone_none, tick_eq, tickV_eq, ne_eq, Int.reduceAdd, Int.reduceSub, Int.reduceMul, Int.reduceEq, Int.reduceLT, Int.reduceLE, Int.reduceToNat, Nat.reduceMul, Nat.reduceAdd, Nat.reduceSub, List.nil_append, List.cons_append, List.getElem?_toArray, List.getElem?_cons_zero, List.getElem?_cons_succ, List.setIfInBounds_toArray, List.set_cons_zero, List.set_cons_succ, Option.map_some, List.not_mem_nil, ←decide_not, e0, hc8]
      refine bytes_Equal_call (Gives.to (Equal_spec (sbEnc (fieldsB s)) s a8 a _ _ c8' c y8 rfl rfl q3 (h.ext0 X8)) fun y9 F9 => ?_)
      have k9 := fun i => (B8.ext F9 (by simp)).cell (i := i)
      have f9 := fun i => (B8.ext F9 (by simp)).frozen (i := i)
      have k5 := fun i => (B5.ext F9 (by simp)).cell (i := i)
      by_cases he : sbEnc (fieldsB s) = s
      · have hd : decide (sbEnc (fieldsB s) = s) = true := decide_eq_true he
        have hne : y7.heap.size ≠ w.heap.size + 1 := by omega
        simp (disch := (first | omega | decide | (simp only [World.size_alloc, World.size_setCell, World.size_drew, size_sets, List.mem_cons, List.not_mem_nil, or_false, not_false_eq_true] <;> omega) | fail)) only [↓rsSup_7, rsSup_1, Option.isNone_some, Option.isNone_none, tick_eq, tickV_eq, ne_eq, Int.reduceAdd, Int.reduceSub, Int.reduceMul, Int.reduceEq, Int.reduceLT, Int.reduceLE, Int.reduceToNat, Nat.reduceMul, Nat.reduceAdd, Nat.reduceSub, List.nil_append, List.cons_append, List.getElem?_toArray, List.getElem?_cons_zero, List.getElem?_cons_succ, List.setIfInBounds_toArray, List.set_cons_zero, List.set_cons_succ, Option.map_some, List.not_mem_nil, ←decide_not, e0, hc8, hd, k5, k9, f9]
        have hi : SbIs s := ⟨by omega, hok, he⟩
        refine ⟨?_, ((X8.trans F9).set' (.inr (by omega))) |>.set' (.inr (by omega)) |>.set' (.inr (by omega)) |>.set' (.inr (by omega)) |>.set' (.inr (by omega)) |>.set' (.inr (by omega)) |>.set' (.inr (by omega))⟩
        rw [sbDec, sbDecE, if_pos hi, if_pos hi]
      · have hd : decide (sbEnc (fieldsB s) = s) = false := decide_eq_false he
        simp (disch := (first | omega | decide | (simp only [World.size_alloc, World.size_setCell, World.size_drew, size_sets, List.mem_cons, List.not_mem_nil, or_false, not_false_eq_true] <;> omega) | fail)) only [↓rsSup_7, rsSup_1, Option.isNone_some, Option.isNone_none, tick_eq, tickV_eq, ne_eq, Int.reduceAdd, Int.reduceSub, Int.reduceMul, Int.reduceEq, Int.reduceLT, Int.reduceLE, Int.reduceToNat, Nat.reduceMul, Nat.reduceAdd, Nat.reduceSub, List.nil_append, List.cons_append, List.getElem?_toArray, List.getElem?_cons_zero, List.getElem?_cons_succ, List.setIfInBounds_toArray, List.set_cons_zero, List.set_cons_succ, Option.map_some, List.not_mem_nil, ←decide_not, e0, hc8, hd, k9, f9]
        have hi : ¬ SbIs s := fun h => he h.2.2
        refine ⟨?_, ((X8.trans F9).set' (.inr (by omega))) |>.set' (.inr (by omega)) |>.set' (.inr (by omega)) |>.set' (.inr (by omega)) |>.set' (.inr (by omega)) |>.set' (.inr (by omega)) |>.set' (.inr (by omega))⟩
        rw [sbDec, sbDecE, if_neg hi, if_neg hi]
    · have e0 : sbErr (fieldsB s) = 1 := if_neg hok
      have k9 := fun i => B8.cell (i := i)
      have f9 := fun i => B8.frozen (i := i)
      simp (disch := (first | omega | decide | (simp only [World.size_alloc, World.size_setCell, World.size_drew, size_sets, List.mem_cons, List.not_mem_nil, or_false, not_false_eq_true] <;> omega) | fail)) only [↓rsSup_7, rsSup_1, Option.isNone_some, Option.isNone_none, tick_eq, tickV_eq, ne_eq, Int.reduceAdd, Int.reduceSub, Int.reduceMul, Int.reduceEq, Int.reduceLT, Int.reduceLE, Int.reduceToNat, Nat.reduceMul, Nat.reduceAdd, Nat.reduceSub, List.nil_append, List.cons_append, List.getElem?_toArray, List.getElem?_cons_zero, List.getElem?_cons_succ, List.setIfInBounds_toArray, List.set_cons_zero, List.set_cons_succ, Option.map_some, List.not_mem_nil, ←decide_not, e0, k9, f9]
      have hi : ¬ SbIs s := fun h => hok h.2.1
      refine ⟨?_, (X8.set' (.inr (by omega))) |>.set' (.inr (by omega)) |>.set' (.inr (by omega)) |>.set' (.inr (by omega)) |>.set' (.inr (by omega)) |>.set' (.inr (by omega)) |>.set' (.inr (by omega))⟩
      rw [sbDec, sbDecE, if_neg hi, if_neg hi]
open Classical in
abbrev rsSup_8 := (And.intro @xBox_r (And.intro @loadK_some (And.intro @loadsK_s (And.intro @loadsK_n (And.intro @loadsR_s (And.intro @loadsR_n (And.intro @storesK_s (And.intro @storesK_n (And.intro @xPick_t (And.intro @xPick_f (And.intro @xGuard_tt (And.intro @xGuard_ff (And.intro @xGuard_tf (And.intro @xGuard_ft (And.intro @xGuard_u 
  (And.intro @xNil_r (And.intro @xIf_t (And.intro @xBin_add' (And.intro @xBin_sub' (And.intro @xBin_mul' (And.intro @xBin_quo' (And.intro @xBin_rem' (And.intro @xIf_f (And.intro @xIf_tt (And.intro @xEx0 (And.intro @xEx1 (And.intro @xEx2 (And.intro @xEx3 (And.intro @xBin_eqs (And.intro @xBin_nes (And.intro @xUn_not (And.intro @xu8_neq (And.intro @xu8_lss 
  (And.intro @xu16_neq (And.intro @xu16_lss (And.intro @xu32_neq (And.intro @xu32_lss (And.intro @xu64_neq (And.intro @xu64_lss (And.intro @xi64_lss (And.intro @xi64_neq (And.intro @xi64_neg (And.intro @xMakeFunc_r (And.intro @xSq_r (And.intro @xPur_s (And.intro @xRd_s (And.intro @xRe_s (And.intro @xDet_s (And.intro @xDet_ld (And.intro @xDet_ld2 
  (And.intro @xDet_ld3 (And.intro @xDet_ld4 (And.intro @xGuard_tt (And.intro @ld_64 (And.intro @ld_66 (And.intro @lr_66 (And.intro @al_64 (And.intro @al_66 (And.intro @st_64 (And.intro @st_66 (And.intro @bd_64_0_1_2 (And.intro @bd_66_0_1_2_3_4 (And.intro @bd_66 (And.intro @cv_29_3 @ln_26))))))))))))))))))))))))))))))))))))))))))))))))))))))))))))))))
theorem rDecode_spec (s : List (BitVec 8)) (a : Option Addr) (c : Nat) (w : World) (hs : s.length ≤ 1000000) (hnc : s.length ≤ c) (h : RowAt w a (bys s)) :
    Gives Try.prog n_loamref6_Decode #[.slice a s.length c] w (.tuple #[sbV (sbDec s), i64 (sbDecE s)]) := by
  refine loamref6_Decode_of ?_
  unfold loamref6_Decode
  simp (disch := (first | omega | decide | (simp only [World.size_alloc, World.size_setCell, World.size_drew, size_sets, List.mem_cons, List.not_mem_nil, or_false, not_false_eq_true] <;> omega) | fail)) only [↓rsSup_8, rsSup_1, Option.isNone_some, Option.isNone_none, tick_eq, tickV_eq, ne_eq, Int.reduceAdd, Int.reduceSub, Int.reduceMul, Int.reduceEq, Int.reduceLT, Int.reduceLE, Int.reduceToNat, Nat.reduceMul, Nat.reduceAdd, Nat.reduceSub, List.nil_append, List.cons_append, List.getElem?_toArray, List.getElem?_cons_zero, List.getElem?_cons_succ, List.setIfInBounds_toArray, List.set_cons_zero, List.set_cons_succ, Option.map_some, List.not_mem_nil, ←decide_not, eq_self]
  by_cases h64 : s.length < 64
  · have e : ¬ SbIs s := fun h => by have := h.1; omega
    simp (disch := (first | omega | decide | (simp only [World.size_alloc, World.size_setCell, World.size_drew, size_sets, List.mem_cons, List.not_mem_nil, or_false, not_false_eq_true] <;> omega) | fail)) only [↓rsSup_8, rsSup_1, Option.isNone_some, Option.isNone_none, tick_eq, tickV_eq, ne_eq, Int.reduceAdd, Int.reduceSub, Int.reduceMul, Int.reduceEq, Int.reduceLT, Int.reduceLE, Int.reduceToNat, Nat.reduceMul, Nat.reduceAdd, Nat.reduceSub, List.nil_append, List.cons_append, List.getElem?_toArray, List.getElem?_cons_zero, List.getElem?_cons_succ, List.setIfInBounds_toArray, List.set_cons_zero, List.set_cons_succ, Option.map_some, List.not_mem_nil, ←decide_not, eq_self]
    refine ⟨?_, by (repeat (first | with_reducible exact Ext.refl _ _ | with_reducible assumption | with_reducible refine Ext.alloc' ?_ _ | with_reducible refine Ext.drew' ?_ | with_reducible refine Ext.set' ?_ ?_ | exact .inr (by first | omega | (simp only [World.size_alloc, World.size_drew, World.size_setCell] <;> omega)) | refine Ext.trans ?_ (by with_reducible assumption)))⟩
    rw [sbDec, sbDecE, if_neg e, if_neg e]
  · simp (disch := (first | omega | decide | (simp only [World.size_alloc, World.size_setCell, World.size_drew, size_sets, List.mem_cons, List.not_mem_nil, or_false, not_false_eq_true] <;> omega) | fail)) only [↓rsSup_8, rsSup_1, Option.isNone_some, Option.isNone_none, tick_eq, tickV_eq, ne_eq, Int.reduceAdd, Int.reduceSub, Int.reduceMul, Int.reduceEq, Int.reduceLT, Int.reduceLE, Int.reduceToNat, Nat.reduceMul, Nat.reduceAdd, Nat.reduceSub, List.nil_append, List.cons_append, List.getElem?_toArray, List.getElem?_cons_zero, List.getElem?_cons_succ, List.setIfInBounds_toArray, List.set_cons_zero, List.set_cons_succ, Option.map_some, List.not_mem_nil, ←decide_not, eq_self]
    have hX0 : Ext [] w (w.alloc (.cells #[c64 0, i64 0, i64 0, i64 0, i64 0, i64 0, c64 0] 66)) := by (repeat (first | with_reducible exact Ext.refl _ _ | with_reducible assumption | with_reducible refine Ext.alloc' ?_ _ | with_reducible refine Ext.drew' ?_ | with_reducible refine Ext.set' ?_ ?_ | exact .inr (by first | omega | (simp only [World.size_alloc, World.size_drew, World.size_setCell] <;> omega)) | refine Ext.trans ?_ (by with_reducible assumption)))
    have hB0 : Blk (w.alloc (.cells #[c64 0, i64 0, i64 0, i64 0, i64 0, i64 0, c64 0] 66)) w.heap.size 66 [c64 0, i64 0, i64 0, i64 0, i64 0, i64 0, c64 0] := Blk.at rfl
    have hsz : (w.alloc (.cells #[c64 0, i64 0, i64 0, i64 0, i64 0, i64 0, c64 0] 66)).heap.size = w.heap.size + 1 := by simp
    generalize (w.alloc (.cells #[c64 0, i64 0, i64 0, i64 0, i64 0, i64 0, c64 0] 66)) = y0 at *
    have Y0 : Ext [] y0 y0 := Ext.refl _ _
    refine loamref6_number_call (Gives.to (number_spec s a c 16 4 _ (by omega) ((h.ext0 hX0).ext0 Y0) (by unfold inside; omega)) fun y1 F1 => ?_)
    have Y1 := Y0.trans F1
    simp (disch := (first | omega | decide | (simp only [World.size_alloc, World.size_setCell, World.size_drew, size_sets, List.mem_cons, List.not_mem_nil, or_false, not_false_eq_true] <;> omega) | fail)) only [↓rsSup_8, rsSup_1, Option.isNone_some, Option.isNone_none, tick_eq, tickV_eq, ne_eq, Int.reduceAdd, Int.reduceSub, Int.reduceMul, Int.reduceEq, Int.reduceLT, Int.reduceLE, Int.reduceToNat, Nat.reduceMul, Nat.reduceAdd, Nat.reduceSub, List.nil_append, List.cons_append, List.getElem?_toArray, List.getElem?_cons_zero, List.getElem?_cons_succ, List.setIfInBounds_toArray, List.set_cons_zero, List.set_cons_succ, Option.map_some, List.not_mem_nil, ←decide_not, eq_self]
    refine loamref6_number_call (Gives.to (number_spec s a c 20 4 _ (by omega) ((h.ext0 hX0).ext0 Y1) (by unfold inside; omega)) fun y2 F2 => ?_)
    have Y2 := Y1.trans F2
    simp (disch := (first | omega | decide | (simp only [World.size_alloc, World.size_setCell, World.size_drew, size_sets, List.mem_cons, List.not_mem_nil, or_false, not_false_eq_true] <;> omega) | fail)) only [↓rsSup_8, rsSup_1, Option.isNone_some, Option.isNone_none, tick_eq, tickV_eq, ne_eq, Int.reduceAdd, Int.reduceSub, Int.reduceMul, Int.reduceEq, Int.reduceLT, Int.reduceLE, Int.reduceToNat, Nat.reduceMul, Nat.reduceAdd, Nat.reduceSub, List.nil_append, List.cons_append, List.getElem?_toArray, List.getElem?_cons_zero, List.getElem?_cons_succ, List.setIfInBounds_toArray, List.set_cons_zero, List.set_cons_succ, Option.map_some, List.not_mem_nil, ←decide_not, eq_self]
    refine loamref6_number_call (Gives.to (number_spec s a c 24 4 _ (by omega) ((h.ext0 hX0).ext0 Y2) (by unfold inside; omega)) fun y3 F3 => ?_)
    have Y3 := Y2.trans F3
    simp (disch := (first | omega | decide | (simp only [World.size_alloc, World.size_setCell, World.size_drew, size_sets, List.mem_cons, List.not_mem_nil, or_false, not_false_eq_true] <;> omega) | fail)) only [↓rsSup_8, rsSup_1, Option.isNone_some, Option.isNone_none, tick_eq, tickV_eq, ne_eq, Int.reduceAdd, Int.reduceSub, Int.reduceMul, Int.reduceEq, Int.reduceLT, Int.reduceLE, Int.reduceToNat, Nat.reduceMul, Nat.reduceAdd, Nat.reduceSub, List.nil_append, List.cons_append, List.getElem?_toArray, List.getElem?_cons_zero, List.getElem?_cons_succ, List.setIfInBounds_toArray, List.set_cons_zero, List.set_cons_succ, Option.map_some, List.not_mem_nil, ←decide_not, eq_self]
    have hz3 := Y3.size
    refine xDraw_ext [] [] ?_
    simp (disch := (first | omega | decide | (simp only [World.size_alloc, World.size_setCell, World.size_drew, size_sets, List.mem_cons, List.not_mem_nil, or_false, not_false_eq_true] <;> omega) | fail)) only [↓rsSup_8, rsSup_1, Option.isNone_some, Option.isNone_none, tick_eq, tickV_eq, ne_eq, Int.reduceAdd, Int.reduceSub, Int.reduceMul, Int.reduceEq, Int.reduceLT, Int.reduceLE, Int.reduceToNat, Nat.reduceMul, Nat.reduceAdd, Nat.reduceSub, List.nil_append, List.cons_append, List.getElem?_toArray, List.getElem?_cons_zero, List.getElem?_cons_succ, List.setIfInBounds_toArray, List.set_cons_zero, List.set_cons_succ, Option.map_some, List.not_mem_nil, ←decide_not, eq_self]
    apply xDet_x
    · exact fun w hw => loamref6_number_call (Gives.lq (number_spec s a c 8 8 _ (by omega) ((h.ext0 hX0).ext0 (Ext.trans (show Ext [] y0 _ by (repeat (first | with_reducible exact Ext.refl _ _ | with_reducible assumption | with_reducible refine Ext.alloc' ?_ _ | with_reducible refine Ext.drew' ?_ | with_reducible refine Ext.set' ?_ ?_ | exact .inr (by first | omega | (simp only [World.size_alloc, World.size_drew, World.size_setCell] <;> omega)) | refine Ext.trans ?_ (by with_reducible assumption)))) hw.ext)) (by unfold inside; omega)))
    simp (disch := (first | omega | decide | (simp only [World.size_alloc, World.size_setCell, World.size_drew, size_sets, List.mem_cons, List.not_mem_nil, or_false, not_false_eq_true] <;> omega) | fail)) only [↓rsSup_8, rsSup_1, Option.isNone_some, Option.isNone_none, tick_eq, tickV_eq, ne_eq, Int.reduceAdd, Int.reduceSub, Int.reduceMul, Int.reduceEq, Int.reduceLT, Int.reduceLE, Int.reduceToNat, Nat.reduceMul, Nat.reduceAdd, Nat.reduceSub, List.nil_append, List.cons_append, List.getElem?_toArray, List.getElem?_cons_zero, List.getElem?_cons_succ, List.setIfInBounds_toArray, List.set_cons_zero, List.set_cons_succ, Option.map_some, List.not_mem_nil, ←decide_not, eq_self]
    apply xDet_x
    · exact fun w hw => loamref6_number_call (Gives.lq (number_spec s a c 28 4 _ (by omega) ((h.ext0 hX0).ext0 (Ext.trans (show Ext [] y0 _ by (repeat (first | with_reducible exact Ext.refl _ _ | with_reducible assumption | with_reducible refine Ext.alloc' ?_ _ | with_reducible refine Ext.drew' ?_ | with_reducible refine Ext.set' ?_ ?_ | exact .inr (by first | omega | (simp only [World.size_alloc, World.size_drew, World.size_setCell] <;> omega)) | refine Ext.trans ?_ (by with_reducible assumption)))) hw.ext)) (by unfold inside; omega)))
    simp (disch := (first | omega | decide | (simp only [World.size_alloc, World.size_setCell, World.size_drew, size_sets, List.mem_cons, List.not_mem_nil, or_false, not_false_eq_true] <;> omega) | fail)) only [↓rsSup_8, rsSup_1, Option.isNone_some, Option.isNone_none, tick_eq, tickV_eq, ne_eq, Int.reduceAdd, Int.reduceSub, Int.reduceMul, Int.reduceEq, Int.reduceLT, Int.reduceLE, Int.reduceToNat, Nat.reduceMul, Nat.reduceAdd, Nat.reduceSub, List.nil_append, List.cons_append, List.getElem?_toArray, List.getElem?_cons_zero, List.getElem?_cons_succ, List.setIfInBounds_toArray, List.set_cons_zero, List.set_cons_succ, Option.map_some, List.not_mem_nil, ←decide_not, eq_self]
    apply xDet_x
    · exact fun w hw => loamref6_number_call (Gives.lq (number_spec s a c 32 4 _ (by omega) ((h.ext0 hX0).ext0 (Ext.trans (show Ext [] y0 _ by (repeat (first | with_reducible exact Ext.refl _ _ | with_reducible assumption | with_reducible refine Ext.alloc' ?_ _ | with_reducible refine Ext.drew' ?_ | with_reducible refine Ext.set' ?_ ?_ | exact .inr (by first | omega | (simp only [World.size_alloc, World.size_drew, World.size_setCell] <;> omega)) | refine Ext.trans ?_ (by with_reducible assumption)))) hw.ext)) (by unfold inside; omega)))
    simp (disch := (first | omega | decide | (simp only [World.size_alloc, World.size_setCell, World.size_drew, size_sets, List.mem_cons, List.not_mem_nil, or_false, not_false_eq_true] <;> omega) | fail)) only [↓rsSup_8, rsSup_1, Option.isNone_some, Option.isNone_none, tick_eq, tickV_eq, ne_eq, Int.reduceAdd, Int.reduceSub, Int.reduceMul, Int.reduceEq, Int.reduceLT, Int.reduceLE, Int.reduceToNat, Nat.reduceMul, Nat.reduceAdd, Nat.reduceSub, List.nil_append, List.cons_append, List.getElem?_toArray, List.getElem?_cons_zero, List.getElem?_cons_succ, List.setIfInBounds_toArray, List.set_cons_zero, List.set_cons_succ, Option.map_some, List.not_mem_nil, ←decide_not, eq_self]
    apply xDet_x
    · exact fun w hw => loamref6_number_call (Gives.lq (number_spec s a c 36 8 _ (by omega) ((h.ext0 hX0).ext0 (Ext.trans (show Ext [] y0 _ by (repeat (first | with_reducible exact Ext.refl _ _ | with_reducible assumption | with_reducible refine Ext.alloc' ?_ _ | with_reducible refine Ext.drew' ?_ | with_reducible refine Ext.set' ?_ ?_ | exact .inr (by first | omega | (simp only [World.size_alloc, World.size_drew, World.size_setCell] <;> omega)) | refine Ext.trans ?_ (by with_reducible assumption)))) hw.ext)) (by unfold inside; omega)))
    simp (disch := (first | omega | decide | (simp only [World.size_alloc, World.size_setCell, World.size_drew, size_sets, List.mem_cons, List.not_mem_nil, or_false, not_false_eq_true] <;> omega) | fail)) only [↓rsSup_8, rsSup_1, Option.isNone_some, Option.isNone_none, tick_eq, tickV_eq, ne_eq, Int.reduceAdd, Int.reduceSub, Int.reduceMul, Int.reduceEq, Int.reduceLT, Int.reduceLE, Int.reduceToNat, Nat.reduceMul, Nat.reduceAdd, Nat.reduceSub, List.nil_append, List.cons_append, List.getElem?_toArray, List.getElem?_cons_zero, List.getElem?_cons_succ, List.setIfInBounds_toArray, List.set_cons_zero, List.set_cons_succ, Option.map_some, List.not_mem_nil, ←decide_not, eq_self]
    refine xNon_x (V := fun u w' => ∃ b, u = .pointer (some ⟨b, 0, none⟩) ∧ y3.heap.size < b ∧ Blk w' b 66 [c64 0, i64 0, i64 0, i64 0, i64 0, i64 0, c64 0]) (fun u x1 x2 hV hq => ?_) (fun w9 hw => ?_) fun u => ?_
    · obtain ⟨b, e, hb, B⟩ := hV
      exact ⟨b, e, hb, B.ext hq.ext (by simp)⟩
    · have := hw.ext.size
      rw [World.size_drew, World.size_alloc] at this
      simp (disch := (first | omega | decide | (simp only [World.size_alloc, World.size_setCell, World.size_drew, size_sets, List.mem_cons, List.not_mem_nil, or_false, not_false_eq_true] <;> omega) | fail)) only [↓rsSup_8, rsSup_1, Option.isNone_some, Option.isNone_none, tick_eq, tickV_eq, ne_eq, Int.reduceAdd, Int.reduceSub, Int.reduceMul, Int.reduceEq, Int.reduceLT, Int.reduceLE, Int.reduceToNat, Nat.reduceMul, Nat.reduceAdd, Nat.reduceSub, List.nil_append, List.cons_append, List.getElem?_toArray, List.getElem?_cons_zero, List.getElem?_cons_succ, List.setIfInBounds_toArray, List.set_cons_zero, List.set_cons_succ, Option.map_some, List.not_mem_nil, ←decide_not, eq_self]
      exact ⟨⟨_, rfl, by omega, Blk.new _ _⟩, Lq.of (Ext.alloc _ _ _)⟩
    refine ⟨fun y7 hw => ?_⟩
    obtain ⟨hw, g, rfl, hg, B7⟩ := hw
    have Y7 : Ext [] y0 y7 := Ext.trans (show Ext [] y0 _ by (repeat (first | with_reducible exact Ext.refl _ _ | with_reducible assumption | with_reducible refine Ext.alloc' ?_ _ | with_reducible refine Ext.drew' ?_ | with_reducible refine Ext.set' ?_ ?_ | exact .inr (by first | omega | (simp only [World.size_alloc, World.size_drew, World.size_setCell] <;> omega)) | refine Ext.trans ?_ (by with_reducible assumption)))) hw.ext
    have k7 := fun i => B7.cell (i := i)
    have f7 := fun i => B7.frozen (i := i)
    have hgw : w.heap.size ≠ g := by omega
    simp (disch := (first | omega | decide | (simp only [World.size_alloc, World.size_setCell, World.size_drew, size_sets, List.mem_cons, List.not_mem_nil, or_false, not_false_eq_true] <;> omega) | fail)) only [↓rsSup_8, rsSup_1, Option.isNone_some, Option.isNone_none, tick_eq, tickV_eq, ne_eq, Int.reduceAdd, Int.reduceSub, Int.reduceMul, Int.reduceEq, Int.reduceLT, Int.reduceLE, Int.reduceToNat, Nat.reduceMul, Nat.reduceAdd, Nat.reduceSub, List.nil_append, List.cons_append, List.getElem?_toArray, List.getElem?_cons_zero, List.getElem?_cons_succ, List.setIfInBounds_toArray, List.set_cons_zero, List.set_cons_succ, Option.map_some, List.not_mem_nil, ←decide_not, k7, f7]
    have B7' := ((((((B7.set (i := 0) (v := u64 (getV s 8 8))).set (i := 0 + 1) (v := i64 (getV s 16 4).toInt)).set (i := 0 + 1 + 1) (v := i64 (getV s 20 4).toInt)).set (i := 0 + 1 + 1 + 1) (v := i64 (getV s 24 4).toInt)).set (i := 0 + 1 + 1 + 1 + 1) (v := i64 (getV s 28 4).toInt)).set (i := 0 + 1 + 1 + 1 + 1 + 1) (v := i64 (getV s 32 4).toInt)).set (i := 0 + 1 + 1 + 1 + 1 + 1 + 1) (v := u64 (getV s 36 8))
    have Y7' : Ext [] y0 ((((((((y7.setCell ⟨g, 0, none⟩ (u64 (getV s 8 8))).setCell ⟨g, 0 + 1, none⟩ (i64 (getV s 16 4).toInt)).setCell ⟨g, 0 + 1 + 1, none⟩ (i64 (getV s 20 4).toInt)).setCell ⟨g, 0 + 1 + 1 + 1, none⟩ (i64 (getV s 24 4).toInt)).setCell ⟨g, 0 + 1 + 1 + 1 + 1, none⟩ (i64 (getV s 28 4).toInt)).setCell ⟨g, 0 + 1 + 1 + 1 + 1 + 1, none⟩ (i64 (getV s 32 4).toInt)).setCell ⟨g, 0 + 1 + 1 + 1 + 1 + 1 + 1, none⟩ (u64 (getV s 36 8)))) := by
      refine ((((((Y7.set' (.inr ?_)).set' (.inr ?_)).set' (.inr ?_)).set' (.inr ?_)).set' (.inr ?_)).set' (.inr ?_)).set' (.inr ?_) <;> omega
    simp only [Nat.zero_add, Nat.reduceAdd] at B7' Y7' ⊢
    refine loamref6_Encode_call (Yld.mono (rEncode_spec (fieldsB s) _) ?_)
    rintro u8 y8 ⟨F8, a8, c8', rfl, q1, q2, q3⟩
    have Y8 := Y7'.trans F8
    have B8 := hB0.ext Y8 (by simp)
    have B5 : Blk y8 g 66 (sbC (fieldsB s)) := B7'.ext F8 (by simp)
    have X8 := hX0.trans Y8
    have k9 := fun i => B8.cell (i := i)
    have f9 := fun i => B8.frozen (i := i)
    have k5 := fun i => B5.cell (i := i)
    have hz8 := Y8.size
    by_cases hok : SbOk (fieldsB s)
    · have e0 : sbErr (fieldsB s) = 0 := if_pos hok
      have s1 := strB (c := c8') rfl q3
      have s2 := strB (c := c) rfl (h.ext0 X8)
      by_cases he : sbEnc (fieldsB s) = s
      · have hd : decide (strOf (sbEnc (fieldsB s)) ≠ strOf s) = false := decide_eq_false (fun h => h (by rw [he]))
        simp (disch := (first | omega | decide | (simp only [World.size_alloc, World.size_setCell, World.size_drew, size_sets, List.mem_cons, List.not_mem_nil, or_false, not_false_eq_true] <;> omega) | fail)) only [↓rsSup_8, rsSup_1, Option.isNone_some, Option.isNone_none, tick_eq, tickV_eq, ne_eq, Int.reduceAdd, Int.reduceSub, Int.reduceMul, Int.reduceEq, Int.reduceLT, Int.reduceLE, Int.reduceToNat, Nat.reduceMul, Nat.reduceAdd, Nat.reduceSub, List.nil_append, List.cons_append, List.getElem?_toArray, List.getElem?_cons_zero, List.getElem?_cons_succ, List.setIfInBounds_toArray, List.set_cons_zero, List.set_cons_succ, Option.map_some, List.not_mem_nil, ←decide_not, k7, f7, e0, s1, s2, hd, k5, k9, f9]
        have hi : SbIs s := ⟨by omega, hok, he⟩
        refine ⟨?_, (X8.set' (.inr (by omega))) |>.set' (.inr (by omega)) |>.set' (.inr (by omega)) |>.set' (.inr (by omega)) |>.set' (.inr (by omega)) |>.set' (.inr (by omega)) |>.set' (.inr (by omega))⟩
        rw [sbDec, sbDecE, if_pos hi, if_pos hi]
      · have hd : decide (strOf (sbEnc (fieldsB s)) ≠ strOf s) = true := decide_eq_true (fun h => he (strOf_inj.1 h))
        simp (disch := (first | omega | decide | (simp only [World.size_alloc, World.size_setCell, World.size_drew, size_sets, List.mem_cons, List.not_mem_nil, or_false, not_false_eq_true] <;> omega) | fail)) only [↓rsSup_8, rsSup_1, Option.isNone_some, Option.isNone_none, tick_eq, tickV_eq, ne_eq, Int.reduceAdd, Int.reduceSub, Int.reduceMul, Int.reduceEq, Int.reduceLT, Int.reduceLE, Int.reduceToNat, Nat.reduceMul, Nat.reduceAdd, Nat.reduceSub, List.nil_append, List.cons_append, List.getElem?_toArray, List.getElem?_cons_zero, List.getElem?_cons_succ, List.setIfInBounds_toArray, List.set_cons_zero, List.set_cons_succ, Option.map_some, List.not_mem_nil, ←decide_not, k7, f7, e0, s1, s2, hd, k9, f9]
        have hi : ¬ SbIs s := fun h => he h.2.2
        refine ⟨?_, (X8.set' (.inr (by omega))) |>.set' (.inr (by omega)) |>.set' (.inr (by omega)) |>.set' (.inr (by omega)) |>.set' (.inr (by omega)) |>.set' (.inr (by omega)) |>.set' (.inr (by omega))⟩
        rw [sbDec, sbDecE, if_neg hi, if_neg hi]
    · have e0 : sbErr (fieldsB s) = 1 := if_neg hok
      simp (disch := (first | omega | decide | (simp only [World.size_alloc, World.size_setCell, World.size_drew, size_sets, List.mem_cons, List.not_mem_nil, or_false, not_false_eq_true] <;> omega) | fail)) only [↓rsSup_8, rsSup_1, Option.isNone_some, Option.isNone_none, tick_eq, tickV_eq, ne_eq, Int.reduceAdd, Int.reduceSub, Int.reduceMul, Int.reduceEq, Int.reduceLT, Int.reduceLE, Int.reduceToNat, Nat.reduceMul, Nat.reduceAdd, Nat.reduceSub, List.nil_append, List.cons_append, List.getElem?_toArray, List.getElem?_cons_zero, List.getElem?_cons_succ, List.setIfInBounds_toArray, List.set_cons_zero, List.set_cons_succ, Option.map_some, List.not_mem_nil, ←decide_not, k7, f7, e0, k9, f9]
      have hi : ¬ SbIs s := fun h => hok h.2.1
      refine ⟨?_, (X8.set' (.inr (by omega))) |>.set' (.inr (by omega)) |>.set' (.inr (by omega)) |>.set' (.inr (by omega)) |>.set' (.inr (by omega)) |>.set' (.inr (by omega)) |>.set' (.inr (by omega))⟩
      rw [sbDec, sbDecE, if_neg hi, if_neg hi]
abbrev rsSup_9 := (And.intro @xBox_r (And.intro @loadK_some (And.intro @loadsK_s (And.intro @loadsK_n (And.intro @loadsR_s (And.intro @loadsR_n (And.intro @storesK_s (And.intro @storesK_n (And.intro @xPick_t (And.intro @xPick_f (And.intro @xGuard_tt (And.intro @xGuard_ff (And.intro @xGuard_tf (And.intro @xGuard_ft (And.intro @xGuard_u 
  (And.intro @xNil_r (And.intro @xIf_t (And.intro @xBin_add' (And.intro @xBin_sub' (And.intro @xBin_mul' (And.intro @xBin_quo' (And.intro @xBin_rem' (And.intro @xIf_f (And.intro @xIf_tt (And.intro @xEx0 (And.intro @xEx1 (And.intro @xEx2 (And.intro @xEx3 (And.intro @xBin_eqs (And.intro @xBin_nes (And.intro @xUn_not (And.intro @xu8_gtr (And.intro @xu16_gtr 
  (And.intro @xu32_gtr (And.intro @xu64_gtr (And.intro @xi64_gtr (And.intro @xMakeFunc_r (And.intro @xSq_r (And.intro @xPur_s (And.intro @xRd_s (And.intro @xRe_s (And.intro @xDet_s (And.intro @xDet_ld (And.intro @xDet_ld2 (And.intro @xDet_ld3 (And.intro @xDet_ld4 (And.intro @xGuard_tt (And.intro @ld_29 @fa_58_0))))))))))))))))))))))))))))))))))))))))))))))))
theorem sup_Newer_spec (a b : SB) (w : World) : Gives Try.prog n_sup_Newer #[sbV a, sbV b] w (.bool (decide (b.ep.toNat < a.ep.toNat))) := by
  refine sup_Newer_of ?_
  unfold sup_Newer
  simp (disch := (first | omega | decide | (simp only [World.size_alloc, World.size_setCell, World.size_drew, size_sets, List.mem_cons, List.not_mem_nil, or_false, not_false_eq_true] <;> omega) | fail)) only [↓rsSup_9, rsSup_1, Option.isNone_some, Option.isNone_none, tick_eq, tickV_eq, ne_eq, Int.reduceAdd, Int.reduceSub, Int.reduceMul, Int.reduceEq, Int.reduceLT, Int.reduceLE, Int.reduceToNat, Nat.reduceMul, Nat.reduceAdd, Nat.reduceSub, List.nil_append, List.cons_append, List.getElem?_toArray, List.getElem?_cons_zero, List.getElem?_cons_succ, List.setIfInBounds_toArray, List.set_cons_zero, List.set_cons_succ, Option.map_some, List.not_mem_nil, ←decide_not, eq_self]
  exact ⟨by trivial, by (repeat (first | with_reducible exact Ext.refl _ _ | with_reducible assumption | with_reducible refine Ext.alloc' ?_ _ | with_reducible refine Ext.drew' ?_ | with_reducible refine Ext.set' ?_ ?_ | exact .inr (by first | omega | (simp only [World.size_alloc, World.size_drew, World.size_setCell] <;> omega)) | refine Ext.trans ?_ (by with_reducible assumption)))⟩
abbrev rsSup_10 := (And.intro @xBox_r (And.intro @loadK_some (And.intro @loadsK_s (And.intro @loadsK_n (And.intro @loadsR_s (And.intro @loadsR_n (And.intro @storesK_s (And.intro @storesK_n (And.intro @xPick_t (And.intro @xPick_f (And.intro @xGuard_tt (And.intro @xGuard_ff (And.intro @xGuard_tf (And.intro @xGuard_ft (And.intro @xGuard_u 
  (And.intro @xNil_r (And.intro @xIf_t (And.intro @xBin_add' (And.intro @xBin_sub' (And.intro @xBin_mul' (And.intro @xBin_quo' (And.intro @xBin_rem' (And.intro @xIf_f (And.intro @xIf_tt (And.intro @xEx0 (And.intro @xEx1 (And.intro @xEx2 (And.intro @xEx3 (And.intro @xBin_eqs (And.intro @xBin_nes (And.intro @xUn_not (And.intro @xu8_and (And.intro @xu16_and 
  (And.intro @xu32_and (And.intro @xu64_and (And.intro @xi64_and (And.intro @xMakeFunc_r (And.intro @xSq_r (And.intro @xPur_s (And.intro @xRd_s (And.intro @xRe_s (And.intro @xDet_s (And.intro @xDet_ld (And.intro @xDet_ld2 (And.intro @xDet_ld3 (And.intro @xDet_ld4 (And.intro @xGuard_tt @cv_29_3)))))))))))))))))))))))))))))))))))))))))))))))
theorem sup_Slot_spec (x : BitVec 64) (w : World) : Gives Try.prog n_sup_Slot #[u64 x] w (i64 (x &&& BitVec.ofNat 64 1).toInt) := by
  refine sup_Slot_of ?_
  unfold sup_Slot
  simp (disch := (first | omega | decide | (simp only [World.size_alloc, World.size_setCell, World.size_drew, size_sets, List.mem_cons, List.not_mem_nil, or_false, not_false_eq_true] <;> omega) | fail)) only [↓rsSup_10, rsSup_1, Option.isNone_some, Option.isNone_none, tick_eq, tickV_eq, ne_eq, Int.reduceAdd, Int.reduceSub, Int.reduceMul, Int.reduceEq, Int.reduceLT, Int.reduceLE, Int.reduceToNat, Nat.reduceMul, Nat.reduceAdd, Nat.reduceSub, List.nil_append, List.cons_append, List.getElem?_toArray, List.getElem?_cons_zero, List.getElem?_cons_succ, List.setIfInBounds_toArray, List.set_cons_zero, List.set_cons_succ, Option.map_some, List.not_mem_nil, ←decide_not, eq_self]
  exact ⟨by trivial, by (repeat (first | with_reducible exact Ext.refl _ _ | with_reducible assumption | with_reducible refine Ext.alloc' ?_ _ | with_reducible refine Ext.drew' ?_ | with_reducible refine Ext.set' ?_ ?_ | exact .inr (by first | omega | (simp only [World.size_alloc, World.size_drew, World.size_setCell] <;> omega)) | refine Ext.trans ?_ (by with_reducible assumption)))⟩
abbrev rsSup_11 := (And.intro @xBox_r (And.intro @loadK_some (And.intro @loadsK_s (And.intro @loadsK_n (And.intro @loadsR_s (And.intro @loadsR_n (And.intro @storesK_s (And.intro @storesK_n (And.intro @xPick_t (And.intro @xPick_f (And.intro @xGuard_tt (And.intro @xGuard_ff (And.intro @xGuard_tf (And.intro @xGuard_ft (And.intro @xGuard_u 
  (And.intro @xNil_r (And.intro @xIf_t (And.intro @xBin_add' (And.intro @xBin_sub' (And.intro @xBin_mul' (And.intro @xBin_quo' (And.intro @xBin_rem' (And.intro @xIf_f (And.intro @xIf_tt (And.intro @xEx0 (And.intro @xEx1 (And.intro @xEx2 (And.intro @xEx3 (And.intro @xBin_eqs (And.intro @xBin_nes (And.intro @xUn_not (And.intro @xMakeFunc_r (And.intro @xSq_r 
  (And.intro @xPur_s (And.intro @xRd_s (And.intro @xRe_s (And.intro @xDet_s (And.intro @xDet_ld (And.intro @xDet_ld2 (And.intro @xDet_ld3 (And.intro @xDet_ld4 (And.intro @xGuard_tt (And.intro @ld_3 (And.intro @ld_29 (And.intro @ld_56 (And.intro @lr_66 (And.intro @fa_58_0 (And.intro @fa_58_1 (And.intro @fa_58_2 (And.intro @fa_58_3 (And.intro @fa_58_4 (And.intro @al_66 
  (And.intro @st_66 (And.intro @bd_66_0_1_2_3_4 @bd_66))))))))))))))))))))))))))))))))))))))))))))))))))))))
theorem Of6_spec (b : SB) (w : World) : Gives Try.prog n_loamlaw6_Of #[sbV b] w (sbV b) := by
  refine loamlaw6_Of_of ?_
  unfold loamlaw6_Of
  simp (disch := (first | omega | decide | (simp only [World.size_alloc, World.size_setCell, World.size_drew, size_sets, List.mem_cons, List.not_mem_nil, or_false, not_false_eq_true] <;> omega) | fail)) only [↓rsSup_11, rsSup_1, Option.isNone_some, Option.isNone_none, tick_eq, tickV_eq, ne_eq, Int.reduceAdd, Int.reduceSub, Int.reduceMul, Int.reduceEq, Int.reduceLT, Int.reduceLE, Int.reduceToNat, Nat.reduceMul, Nat.reduceAdd, Nat.reduceSub, List.nil_append, List.cons_append, List.getElem?_toArray, List.getElem?_cons_zero, List.getElem?_cons_succ, List.setIfInBounds_toArray, List.set_cons_zero, List.set_cons_succ, Option.map_some, List.not_mem_nil, ←decide_not, eq_self]
  refine loamlaw4_Of_call (Gives.to (Of4_spec b.sec b.log b.wds _) fun w1 E1 => ?_)
  have z1 := E1.size
  try simp only [World.size_alloc, World.size_setCell, World.size_drew] at z1
  have e1_0 : ∀ o, w1.cell? ⟨w.heap.size, o, none⟩ = _ := fun o => E1.cell_o (by first | omega | (simp only [World.size_alloc, World.size_setCell, World.size_drew, size_sets] <;> omega))
  have e1_1 : ∀ o, w1.cell? ⟨w.heap.size + 1 , o, none⟩ = _ := fun o => E1.cell_o (by first | omega | (simp only [World.size_alloc, World.size_setCell, World.size_drew, size_sets] <;> omega))
  have f1_1 : ∀ o, w1.frozen? ⟨w.heap.size + 1 , o, none⟩ = _ := fun o => E1.frozen_o (by first | omega | (simp only [World.size_alloc, World.size_setCell, World.size_drew, size_sets] <;> omega))
  simp (disch := (first | omega | decide | (simp only [World.size_alloc, World.size_setCell, World.size_drew, size_sets, List.mem_cons, List.not_mem_nil, or_false, not_false_eq_true] <;> omega) | fail)) only [↓rsSup_11, rsSup_1, Option.isNone_some, Option.isNone_none, tick_eq, tickV_eq, ne_eq, Int.reduceAdd, Int.reduceSub, Int.reduceMul, Int.reduceEq, Int.reduceLT, Int.reduceLE, Int.reduceToNat, Nat.reduceMul, Nat.reduceAdd, Nat.reduceSub, List.nil_append, List.cons_append, List.getElem?_toArray, List.getElem?_cons_zero, List.getElem?_cons_succ, List.setIfInBounds_toArray, List.set_cons_zero, List.set_cons_succ, Option.map_some, List.not_mem_nil, ←decide_not, e1_0, e1_1, f1_1]
  exact ⟨by trivial, by (repeat (first | with_reducible exact Ext.refl _ _ | with_reducible assumption | with_reducible refine Ext.alloc' ?_ _ | with_reducible refine Ext.drew' ?_ | with_reducible refine Ext.set' ?_ ?_ | exact .inr (by first | omega | (simp only [World.size_alloc, World.size_drew, World.size_setCell] <;> omega)) | refine Ext.trans ?_ (by with_reducible assumption)))⟩
def few6 (s l n : Int) : Prop := 8 ≤ s ∧ s ≤ 1048576 ∧ -1048576 ≤ n ∧ n ≤ 1048576 ∧ -1048576 ≤ l ∧ l ≤ 1048576
instance (s l n : Int) : Decidable (few6 s l n) := by unfold few6; infer_instance
abbrev rsSup_12 := (And.intro @xBox_r (And.intro @loadK_some (And.intro @loadsK_s (And.intro @loadsK_n (And.intro @loadsR_s (And.intro @loadsR_n (And.intro @storesK_s (And.intro @storesK_n (And.intro @xPick_t (And.intro @xPick_f (And.intro @xGuard_tt (And.intro @xGuard_ff (And.intro @xGuard_tf (And.intro @xGuard_ft (And.intro @xGuard_u 
  (And.intro @xNil_r (And.intro @xIf_t (And.intro @xBin_add' (And.intro @xBin_sub' (And.intro @xBin_mul' (And.intro @xBin_quo' (And.intro @xBin_rem' (And.intro @xIf_f (And.intro @xIf_tt (And.intro @xEx0 (And.intro @xEx1 (And.intro @xEx2 (And.intro @xEx3 (And.intro @xBin_eqs (And.intro @xBin_nes (And.intro @xUn_not (And.intro @xu8_leq (And.intro @xu8_geq 
  (And.intro @xu16_leq (And.intro @xu16_geq (And.intro @xu32_leq (And.intro @xu32_geq (And.intro @xu64_leq (And.intro @xu64_geq (And.intro @xi64_leq (And.intro @xi64_geq (And.intro @xMakeFunc_r (And.intro @xSq_r (And.intro @xPur_s (And.intro @xRd_s (And.intro @xRe_s (And.intro @xDet_s (And.intro @xDet_ld (And.intro @xDet_ld2 (And.intro @xDet_ld3 
  (And.intro @xDet_ld4 (And.intro @xGuard_tt (And.intro @ld_3 (And.intro @fa_56_0 (And.intro @fa_56_1 @fa_56_2)))))))))))))))))))))))))))))))))))))))))))))))))))))))
theorem Few6_spec (s l n : Int) (w : World) : Gives Try.prog n_loamlaw6_Few #[gm s l n] w (.bool (decide (few6 s l n))) := by
  refine loamlaw6_Few_of ?_
  unfold loamlaw6_Few
  simp (disch := (first | omega | decide | (simp only [World.size_alloc, World.size_setCell, World.size_drew, size_sets, List.mem_cons, List.not_mem_nil, or_false, not_false_eq_true] <;> omega) | fail)) only [↓rsSup_12, rsSup_1, Option.isNone_some, Option.isNone_none, tick_eq, tickV_eq, ne_eq, Int.reduceAdd, Int.reduceSub, Int.reduceMul, Int.reduceEq, Int.reduceLT, Int.reduceLE, Int.reduceToNat, Nat.reduceMul, Nat.reduceAdd, Nat.reduceSub, List.nil_append, List.cons_append, List.getElem?_toArray, List.getElem?_cons_zero, List.getElem?_cons_succ, List.setIfInBounds_toArray, List.set_cons_zero, List.set_cons_succ, Option.map_some, List.not_mem_nil, ←decide_not, eq_self]
  by_cases g1 : ¬ 8 ≤ s
  · have hv : decide (few6 s l n) = false := decide_eq_false (by unfold few6; omega)
    simp (disch := (first | omega | decide | (simp only [World.size_alloc, World.size_setCell, World.size_drew, size_sets, List.mem_cons, List.not_mem_nil, or_false, not_false_eq_true] <;> omega) | fail)) only [↓rsSup_12, rsSup_1, Option.isNone_some, Option.isNone_none, tick_eq, tickV_eq, ne_eq, Int.reduceAdd, Int.reduceSub, Int.reduceMul, Int.reduceEq, Int.reduceLT, Int.reduceLE, Int.reduceToNat, Nat.reduceMul, Nat.reduceAdd, Nat.reduceSub, List.nil_append, List.cons_append, List.getElem?_toArray, List.getElem?_cons_zero, List.getElem?_cons_succ, List.setIfInBounds_toArray, List.set_cons_zero, List.set_cons_succ, Option.map_some, List.not_mem_nil, ←decide_not, eq_self, g1, hv]
    exact ⟨by trivial, by (repeat (first | with_reducible exact Ext.refl _ _ | with_reducible assumption | with_reducible refine Ext.alloc' ?_ _ | with_reducible refine Ext.drew' ?_ | with_reducible refine Ext.set' ?_ ?_ | exact .inr (by first | omega | (simp only [World.size_alloc, World.size_drew, World.size_setCell] <;> omega)) | refine Ext.trans ?_ (by with_reducible assumption)))⟩
  replace g1 := Decidable.not_not.1 g1
  by_cases g2 : ¬ s ≤ 1048576
  · have hv : decide (few6 s l n) = false := decide_eq_false (by unfold few6; omega)
    simp (disch := (first | omega | decide | (simp only [World.size_alloc, World.size_setCell, World.size_drew, size_sets, List.mem_cons, List.not_mem_nil, or_false, not_false_eq_true] <;> omega) | fail)) only [↓rsSup_12, rsSup_1, Option.isNone_some, Option.isNone_none, tick_eq, tickV_eq, ne_eq, Int.reduceAdd, Int.reduceSub, Int.reduceMul, Int.reduceEq, Int.reduceLT, Int.reduceLE, Int.reduceToNat, Nat.reduceMul, Nat.reduceAdd, Nat.reduceSub, List.nil_append, List.cons_append, List.getElem?_toArray, List.getElem?_cons_zero, List.getElem?_cons_succ, List.setIfInBounds_toArray, List.set_cons_zero, List.set_cons_succ, Option.map_some, List.not_mem_nil, ←decide_not, eq_true g1, g2, hv]
    exact ⟨by trivial, by (repeat (first | with_reducible exact Ext.refl _ _ | with_reducible assumption | with_reducible refine Ext.alloc' ?_ _ | with_reducible refine Ext.drew' ?_ | with_reducible refine Ext.set' ?_ ?_ | exact .inr (by first | omega | (simp only [World.size_alloc, World.size_drew, World.size_setCell] <;> omega)) | refine Ext.trans ?_ (by with_reducible assumption)))⟩
  replace g2 := Decidable.not_not.1 g2
  by_cases g3 : ¬ -1048576 ≤ n
  · have hv : decide (few6 s l n) = false := decide_eq_false (by unfold few6; omega)
    simp (disch := (first | omega | decide | (simp only [World.size_alloc, World.size_setCell, World.size_drew, size_sets, List.mem_cons, List.not_mem_nil, or_false, not_false_eq_true] <;> omega) | fail)) only [↓rsSup_12, rsSup_1, Option.isNone_some, Option.isNone_none, tick_eq, tickV_eq, ne_eq, Int.reduceAdd, Int.reduceSub, Int.reduceMul, Int.reduceEq, Int.reduceLT, Int.reduceLE, Int.reduceToNat, Nat.reduceMul, Nat.reduceAdd, Nat.reduceSub, List.nil_append, List.cons_append, List.getElem?_toArray, List.getElem?_cons_zero, List.getElem?_cons_succ, List.setIfInBounds_toArray, List.set_cons_zero, List.set_cons_succ, Option.map_some, List.not_mem_nil, ←decide_not, eq_true g1, eq_true g2, g3, hv]
    exact ⟨by trivial, by (repeat (first | with_reducible exact Ext.refl _ _ | with_reducible assumption | with_reducible refine Ext.alloc' ?_ _ | with_reducible refine Ext.drew' ?_ | with_reducible refine Ext.set' ?_ ?_ | exact .inr (by first | omega | (simp only [World.size_alloc, World.size_drew, World.size_setCell] <;> omega)) | refine Ext.trans ?_ (by with_reducible assumption)))⟩
  replace g3 := Decidable.not_not.1 g3
  by_cases g4 : ¬ n ≤ 1048576
  · have hv : decide (few6 s l n) = false := decide_eq_false (by unfold few6; omega)
    simp (disch := (first | omega | decide | (simp only [World.size_alloc, World.size_setCell, World.size_drew, size_sets, List.mem_cons, List.not_mem_nil, or_false, not_false_eq_true] <;> omega) | fail)) only [↓rsSup_12, rsSup_1, Option.isNone_some, Option.isNone_none, tick_eq, tickV_eq, ne_eq, Int.reduceAdd, Int.reduceSub, Int.reduceMul, Int.reduceEq, Int.reduceLT, Int.reduceLE, Int.reduceToNat, Nat.reduceMul, Nat.reduceAdd, Nat.reduceSub, List.nil_append, List.cons_append, List.getElem?_toArray, List.getElem?_cons_zero, List.getElem?_cons_succ, List.setIfInBounds_toArray, List.set_cons_zero, List.set_cons_succ, Option.map_some, List.not_mem_nil, ←decide_not, eq_true g1, eq_true g2, eq_true g3, g4, hv]
    exact ⟨by trivial, by (repeat (first | with_reducible exact Ext.refl _ _ | with_reducible assumption | with_reducible refine Ext.alloc' ?_ _ | with_reducible refine Ext.drew' ?_ | with_reducible refine Ext.set' ?_ ?_ | exact .inr (by first | omega | (simp only [World.size_alloc, World.size_drew, World.size_setCell] <;> omega)) | refine Ext.trans ?_ (by with_reducible assumption)))⟩
  replace g4 := Decidable.not_not.1 g4
  by_cases g5 : ¬ -1048576 ≤ l
  · have hv : decide (few6 s l n) = false := decide_eq_false (by unfold few6; omega)
    simp (disch := (first | omega | decide | (simp only [World.size_alloc, World.size_setCell, World.size_drew, size_sets, List.mem_cons, List.not_mem_nil, or_false, not_false_eq_true] <;> omega) | fail)) only [↓rsSup_12, rsSup_1, Option.isNone_some, Option.isNone_none, tick_eq, tickV_eq, ne_eq, Int.reduceAdd, Int.reduceSub, Int.reduceMul, Int.reduceEq, Int.reduceLT, Int.reduceLE, Int.reduceToNat, Nat.reduceMul, Nat.reduceAdd, Nat.reduceSub, List.nil_append, List.cons_append, List.getElem?_toArray, List.getElem?_cons_zero, List.getElem?_cons_succ, List.setIfInBounds_toArray, List.set_cons_zero, List.set_cons_succ, Option.map_some, List.not_mem_nil, ←decide_not, eq_true g1, eq_true g2, eq_true g3, eq_true g4, g5, hv]
    exact ⟨by trivial, by (repeat (first | with_reducible exact Ext.refl _ _ | with_reducible assumption | with_reducible refine Ext.alloc' ?_ _ | with_reducible refine Ext.drew' ?_ | with_reducible refine Ext.set' ?_ ?_ | exact .inr (by first | omega | (simp only [World.size_alloc, World.size_drew, World.size_setCell] <;> omega)) | refine Ext.trans ?_ (by with_reducible assumption)))⟩
  replace g5 := Decidable.not_not.1 g5
  by_cases g6 : ¬ l ≤ 1048576
  · have hv : decide (few6 s l n) = false := decide_eq_false (by unfold few6; omega)
    simp (disch := (first | omega | decide | (simp only [World.size_alloc, World.size_setCell, World.size_drew, size_sets, List.mem_cons, List.not_mem_nil, or_false, not_false_eq_true] <;> omega) | fail)) only [↓rsSup_12, rsSup_1, Option.isNone_some, Option.isNone_none, tick_eq, tickV_eq, ne_eq, Int.reduceAdd, Int.reduceSub, Int.reduceMul, Int.reduceEq, Int.reduceLT, Int.reduceLE, Int.reduceToNat, Nat.reduceMul, Nat.reduceAdd, Nat.reduceSub, List.nil_append, List.cons_append, List.getElem?_toArray, List.getElem?_cons_zero, List.getElem?_cons_succ, List.setIfInBounds_toArray, List.set_cons_zero, List.set_cons_succ, Option.map_some, List.not_mem_nil, ←decide_not, eq_true g1, eq_true g2, eq_true g3, eq_true g4, eq_true g5, g6, hv]
    exact ⟨by trivial, by (repeat (first | with_reducible exact Ext.refl _ _ | with_reducible assumption | with_reducible refine Ext.alloc' ?_ _ | with_reducible refine Ext.drew' ?_ | with_reducible refine Ext.set' ?_ ?_ | exact .inr (by first | omega | (simp only [World.size_alloc, World.size_drew, World.size_setCell] <;> omega)) | refine Ext.trans ?_ (by with_reducible assumption)))⟩
  replace g6 := Decidable.not_not.1 g6
  have hv : decide (few6 s l n) = true := decide_eq_true (by unfold few6; omega)
  simp (disch := (first | omega | decide | (simp only [World.size_alloc, World.size_setCell, World.size_drew, size_sets, List.mem_cons, List.not_mem_nil, or_false, not_false_eq_true] <;> omega) | fail)) only [↓rsSup_12, rsSup_1, Option.isNone_some, Option.isNone_none, tick_eq, tickV_eq, ne_eq, Int.reduceAdd, Int.reduceSub, Int.reduceMul, Int.reduceEq, Int.reduceLT, Int.reduceLE, Int.reduceToNat, Nat.reduceMul, Nat.reduceAdd, Nat.reduceSub, List.nil_append, List.cons_append, List.getElem?_toArray, List.getElem?_cons_zero, List.getElem?_cons_succ, List.setIfInBounds_toArray, List.set_cons_zero, List.set_cons_succ, Option.map_some, List.not_mem_nil, ←decide_not, eq_true g1, eq_true g2, eq_true g3, eq_true g4, eq_true g5, eq_true g6, hv]
  exact ⟨by trivial, by (repeat (first | with_reducible exact Ext.refl _ _ | with_reducible assumption | with_reducible refine Ext.alloc' ?_ _ | with_reducible refine Ext.drew' ?_ | with_reducible refine Ext.set' ?_ ?_ | exact .inr (by first | omega | (simp only [World.size_alloc, World.size_drew, World.size_setCell] <;> omega)) | refine Ext.trans ?_ (by with_reducible assumption)))⟩
end Go.Proofs.Ytlllabaipfmnjaa
