/- What the functions on sums compute. -/
import Derived.Test.YtknineilpenbnaaSumV
import Derived.Test.YtknineilpenbnaaBitsW
import Derived.Test.YtknineilpenbnaaEng11
set_option linter.unusedVariables false
set_option linter.unusedSimpArgs false
set_option maxHeartbeats 4000000
namespace Go.Proofs.Ytknineilpenbnaa
open Go.Sh Go.RowKit

abbrev rsSum_0 := (And.intro @xBox_r (And.intro @loadK_some (And.intro @loadsK_s (And.intro @loadsK_n (And.intro @loadsR_s (And.intro @loadsR_n (And.intro @storesK_s (And.intro @storesK_n (And.intro @xPick_t (And.intro @xPick_f (And.intro @xGuard_tt (And.intro @xGuard_ff (And.intro @xGuard_tf (And.intro @xGuard_ft (And.intro @xGuard_u 
  (And.intro @xNil_r (And.intro @xIf_t (And.intro @xBin_add' (And.intro @xBin_sub' (And.intro @xBin_mul' (And.intro @xBin_quo' (And.intro @xBin_rem' (And.intro @xIf_f (And.intro @xIf_tt (And.intro @xEx0 (And.intro @xEx1 (And.intro @xEx2 (And.intro @xEx3 (And.intro @xBin_eqs (And.intro @xBin_nes (And.intro @xUn_not (And.intro @xu8_add (And.intro @xu8_and 
  (And.intro @xu8_xor (And.intro @xu8_com (And.intro @xu8_shr (And.intro @xu8_eql (And.intro @xu8_lss (And.intro @xu16_add (And.intro @xu16_and (And.intro @xu16_xor (And.intro @xu16_com (And.intro @xu16_shr (And.intro @xu16_eql (And.intro @xu16_lss (And.intro @xu32_add (And.intro @xu32_and (And.intro @xu32_xor (And.intro @xu32_com (And.intro @xu32_shr 
  (And.intro @xu32_eql (And.intro @xu32_lss (And.intro @xu64_add (And.intro @xu64_and (And.intro @xu64_xor (And.intro @xu64_com (And.intro @xu64_shr (And.intro @xu64_eql (And.intro @xu64_lss (And.intro @xi64_lss (And.intro @xi64_eql (And.intro @xi64_and (And.intro @xi64_xor (And.intro @xi64_shr (And.intro @xMakeFunc_r (And.intro @xSq_r (And.intro @xPur_s 
  (And.intro @xRd_s (And.intro @xRe_s (And.intro @xDet_s (And.intro @xDet_ld (And.intro @xDet_ld2 (And.intro @xDet_ld3 (And.intro @xDet_ld4 (And.intro @xGuard_tt (And.intro @ld_5 (And.intro @cv_5_58 (And.intro @ia_25 @ln_25))))))))))))))))))))))))))))))))))))))))))))))))))))))))))))))))))))))))))))))
abbrev rsSum_1 := (And.intro @setCells_c (And.intro @setCells_n (And.intro @World.setCell_alloc_at (And.intro @World.setCell_alloc_past (And.intro @World.cell?_alloc_at (And.intro @World.cell?_alloc_past (And.intro @World.frozen?_alloc_at (And.intro @World.frozen?_alloc_past 
  (And.intro @World.size_alloc (And.intro @dlt_t (And.intro @dlt_f (And.intro @dle_t (And.intro @dle_f (And.intro @deq_t (And.intro @deq_f (And.intro @dne_t (And.intro @dne_f (And.intro @not_true_eq_false (And.intro @Bool.false_and (And.intro @Bool.true_and (And.intro @Bool.and_true (And.intro @Bool.and_false (And.intro @wrap_in (And.intro @Int.toNat_natCast 
  (And.intro @Nat.mul_one (And.intro @cells_int (And.intro @cells_bool (And.intro @cells_string (And.intro @cells_slice (And.intro @cells_pointer (And.intro @cells_agg (And.intro @one_int (And.intro @one_bool (And.intro @one_string (And.intro @one_slice (And.intro @one_pointer (And.intro @beq_tt (And.intro @beq_ff (And.intro @beq_tf 
  (And.intro @beq_ft (And.intro @cell_sets_b (And.intro @frozen_sets (And.intro @size_sets (And.intro @World.size_drew (And.intro @Nat.zero_add (And.intro @Nat.add_zero (And.intro @cell_drew (And.intro @frozen_drew (And.intro @cell_set_eq (And.intro @cell_set_o (And.intro @cell_set_b (And.intro @World.frozen?_setCell 
  (And.intro @decide_true (And.intro @decide_false (And.intro @not_false_eq_true (And.intro @Bool.not_true @Bool.not_false))))))))))))))))))))))))))))))))))))))))))))))))))))))))
theorem Add_spec (s : BitVec 32) (l : List (BitVec 8)) (a : Option Addr) (n c : Nat) (w : World) (hn : n = l.length) (hb : n ≤ 4294967296) (h : RowAt w a (bys l)) : Gives Try.prog n_crc_Add #[u32 s, .slice a n c] w (u32 (addV s l)) := by
  subst hn
  refine crc_Add_of ?_
  unfold crc_Add
  simp (disch := (first | omega | decide | (simp only [World.size_alloc, World.size_setCell, World.size_drew, size_sets, List.mem_cons, List.not_mem_nil, or_false, not_false_eq_true] <;> omega) | fail)) only [↓rsSum_0, rsSum_1, Option.isNone_some, Option.isNone_none, tick_eq, tickV_eq, ne_eq, Int.reduceAdd, Int.reduceSub, Int.reduceMul, Int.reduceEq, Int.reduceLT, Int.reduceLE, Int.reduceToNat, Nat.reduceMul, Nat.reduceAdd, Nat.reduceSub, List.nil_append, List.cons_append, List.getElem?_toArray, List.getElem?_cons_zero, List.getElem?_cons_succ, List.setIfInBounds_toArray, List.set_cons_zero, List.set_cons_succ, Option.map_some, List.not_mem_nil, ←decide_not, eq_self]
  refine xLoop_n l.length (fun k => [u32 (crcRun (~~~s) (l.take k)), i64 k]) (fun _ w' => Ext [] w w') ?_ (Ext.refl _ _) ?_ ?_
  · rfl
  · intro k hk u w1 hu E1 nxt hn
    simp only [List.map_cons, List.map_nil, List.cons.injEq, and_true] at hu
    obtain ⟨h1, h2⟩ := hu
    rw [h1, h2]
    obtain ⟨b, o, rfl, hb1, hc⟩ := (h.ext0 E1).at (i := k) (by simpa using hk)
    simp only [List.getElem_map] at hc
    unfold crc_Add_l1
    simp (disch := (first | omega | decide | (simp only [World.size_alloc, World.size_setCell, World.size_drew, size_sets, List.mem_cons, List.not_mem_nil, or_false, not_false_eq_true] <;> omega) | fail)) only [↓rsSum_0, rsSum_1, Option.isNone_some, Option.isNone_none, tick_eq, tickV_eq, ne_eq, Int.reduceAdd, Int.reduceSub, Int.reduceMul, Int.reduceEq, Int.reduceLT, Int.reduceLE, Int.reduceToNat, Nat.reduceMul, Nat.reduceAdd, Nat.reduceSub, List.nil_append, List.cons_append, List.getElem?_toArray, List.getElem?_cons_zero, List.getElem?_cons_succ, List.setIfInBounds_toArray, List.set_cons_zero, List.set_cons_succ, Option.map_some, List.not_mem_nil, ←decide_not, hc]
    refine xLoop_n 8 (fun j => [u32 (crcSteps (crcRun (~~~s) (l.take k) ^^^ l[k].setWidth 32) j), i64 j]) (fun _ w' => Ext [] w w') ?_ E1 ?_ ?_
    · rfl
    · intro j hj u w2 hu E2 nxt2 hn2
      simp only [List.map_cons, List.map_nil, List.cons.injEq, and_true] at hu
      obtain ⟨h1, h2⟩ := hu
      rw [h1, h2]
      unfold crc_Add_l2 crc_Add_j1
      generalize hx : crcSteps (crcRun (~~~s) (l.take k) ^^^ l[k].setWidth 32) j = x at *
      by_cases hl : x &&& BitVec.ofNat 32 1 = BitVec.ofNat 32 1
      · simp (disch := (first | omega | decide | (simp only [World.size_alloc, World.size_setCell, World.size_drew, size_sets, List.mem_cons, List.not_mem_nil, or_false, not_false_eq_true] <;> omega) | fail)) only [↓rsSum_0, rsSum_1, Option.isNone_some, Option.isNone_none, tick_eq, tickV_eq, ne_eq, Int.reduceAdd, Int.reduceSub, Int.reduceMul, Int.reduceEq, Int.reduceLT, Int.reduceLE, Int.reduceToNat, Nat.reduceMul, Nat.reduceAdd, Nat.reduceSub, List.nil_append, List.cons_append, List.getElem?_toArray, List.getElem?_cons_zero, List.getElem?_cons_succ, List.setIfInBounds_toArray, List.set_cons_zero, List.set_cons_succ, Option.map_some, List.not_mem_nil, ←decide_not, hc, decide_eq_true hl]
        have := hn2 w2 E2
        simpa [crcSteps, hx, crcStep, if_pos hl] using this
      · simp (disch := (first | omega | decide | (simp only [World.size_alloc, World.size_setCell, World.size_drew, size_sets, List.mem_cons, List.not_mem_nil, or_false, not_false_eq_true] <;> omega) | fail)) only [↓rsSum_0, rsSum_1, Option.isNone_some, Option.isNone_none, tick_eq, tickV_eq, ne_eq, Int.reduceAdd, Int.reduceSub, Int.reduceMul, Int.reduceEq, Int.reduceLT, Int.reduceLE, Int.reduceToNat, Nat.reduceMul, Nat.reduceAdd, Nat.reduceSub, List.nil_append, List.cons_append, List.getElem?_toArray, List.getElem?_cons_zero, List.getElem?_cons_succ, List.setIfInBounds_toArray, List.set_cons_zero, List.set_cons_succ, Option.map_some, List.not_mem_nil, ←decide_not, hc, decide_eq_false hl]
        have := hn2 w2 E2
        simpa [crcSteps, hx, crcStep, if_neg hl] using this
    · intro u w2 hu E2 nxt2
      simp only [List.map_cons, List.map_nil, List.cons.injEq, and_true] at hu
      obtain ⟨h1, h2⟩ := hu
      rw [h1, h2]
      unfold crc_Add_l2
      simp (disch := (first | omega | decide | (simp only [World.size_alloc, World.size_setCell, World.size_drew, size_sets, List.mem_cons, List.not_mem_nil, or_false, not_false_eq_true] <;> omega) | fail)) only [↓rsSum_0, rsSum_1, Option.isNone_some, Option.isNone_none, tick_eq, tickV_eq, ne_eq, Int.reduceAdd, Int.reduceSub, Int.reduceMul, Int.reduceEq, Int.reduceLT, Int.reduceLE, Int.reduceToNat, Nat.reduceMul, Nat.reduceAdd, Nat.reduceSub, List.nil_append, List.cons_append, List.getElem?_toArray, List.getElem?_cons_zero, List.getElem?_cons_succ, List.setIfInBounds_toArray, List.set_cons_zero, List.set_cons_succ, Option.map_some, List.not_mem_nil, ←decide_not, hc]
      have := hn w2 E2
      rw [crcRun_take hk] at this
      simpa [crcByte] using this
  · intro u w1 hu E1 nxt
    simp only [List.map_cons, List.map_nil, List.cons.injEq, and_true] at hu
    obtain ⟨h1, h2⟩ := hu
    rw [h1, h2]
    unfold crc_Add_l1
    simp (disch := (first | omega | decide | (simp only [World.size_alloc, World.size_setCell, World.size_drew, size_sets, List.mem_cons, List.not_mem_nil, or_false, not_false_eq_true] <;> omega) | fail)) only [↓rsSum_0, rsSum_1, Option.isNone_some, Option.isNone_none, tick_eq, tickV_eq, ne_eq, Int.reduceAdd, Int.reduceSub, Int.reduceMul, Int.reduceEq, Int.reduceLT, Int.reduceLE, Int.reduceToNat, Nat.reduceMul, Nat.reduceAdd, Nat.reduceSub, List.nil_append, List.cons_append, List.getElem?_toArray, List.getElem?_cons_zero, List.getElem?_cons_succ, List.setIfInBounds_toArray, List.set_cons_zero, List.set_cons_succ, Option.map_some, List.not_mem_nil, ←decide_not, eq_self]
    rw [List.take_length]
    exact ⟨by rfl, E1⟩

/-- a row of rows of bytes -/
def partsAt (w : World) (a : Option Addr) (ps : List Part) : Prop := RowAt w a (ps.map partV) ∧ ∀ p ∈ ps, RowAt w p.1 (bys p.2.2) ∧ p.2.2.length ≤ 4294967296
theorem partsAt.ext {w w' : World} {a : Option Addr} {ps : List Part} (h : partsAt w a ps) (hx : Ext [] w w') : partsAt w' a ps := ⟨h.1.ext0 hx, fun p hp => ⟨(h.2 p hp).1.ext0 hx, (h.2 p hp).2⟩⟩
abbrev rsSum_2 := (And.intro @xBox_r (And.intro @loadK_some (And.intro @loadsK_s (And.intro @loadsK_n (And.intro @loadsR_s (And.intro @loadsR_n (And.intro @storesK_s (And.intro @storesK_n (And.intro @xPick_t (And.intro @xPick_f (And.intro @xGuard_tt (And.intro @xGuard_ff (And.intro @xGuard_tf (And.intro @xGuard_ft (And.intro @xGuard_u 
  (And.intro @xNil_r (And.intro @xIf_t (And.intro @xBin_add' (And.intro @xBin_sub' (And.intro @xBin_mul' (And.intro @xBin_quo' (And.intro @xBin_rem' (And.intro @xIf_f (And.intro @xIf_tt (And.intro @xEx0 (And.intro @xEx1 (And.intro @xEx2 (And.intro @xEx3 (And.intro @xBin_eqs (And.intro @xBin_nes (And.intro @xUn_not (And.intro @xu8_add (And.intro @xu8_lss 
  (And.intro @xu16_add (And.intro @xu16_lss (And.intro @xu32_add (And.intro @xu32_lss (And.intro @xu64_add (And.intro @xu64_lss (And.intro @xi64_lss (And.intro @xMakeFunc_r (And.intro @xSq_r (And.intro @xPur_s (And.intro @xRd_s (And.intro @xRe_s (And.intro @xDet_s (And.intro @xDet_ld (And.intro @xDet_ld2 (And.intro @xDet_ld3 (And.intro @xDet_ld4 
  (And.intro @xGuard_tt (And.intro @ld_25 (And.intro @ia_73 @ln_73)))))))))))))))))))))))))))))))))))))))))))))))))))))
theorem Sum_spec (ps : List Part) (a : Option Addr) (n c : Nat) (w : World) (hn : n = ps.length) (hb : n ≤ 4294967296) (h : partsAt w a ps) : Gives Try.prog n_crc_Sum #[.slice a n c] w (u32 (sumsV (BitVec.ofNat 32 0) (ps.map (·.2.2)))) := by
  subst hn
  refine crc_Sum_of ?_
  unfold crc_Sum
  simp (disch := (first | omega | decide | (simp only [World.size_alloc, World.size_setCell, World.size_drew, size_sets, List.mem_cons, List.not_mem_nil, or_false, not_false_eq_true] <;> omega) | fail)) only [↓rsSum_2, rsSum_1, Option.isNone_some, Option.isNone_none, tick_eq, tickV_eq, ne_eq, Int.reduceAdd, Int.reduceSub, Int.reduceMul, Int.reduceEq, Int.reduceLT, Int.reduceLE, Int.reduceToNat, Nat.reduceMul, Nat.reduceAdd, Nat.reduceSub, List.nil_append, List.cons_append, List.getElem?_toArray, List.getElem?_cons_zero, List.getElem?_cons_succ, List.setIfInBounds_toArray, List.set_cons_zero, List.set_cons_succ, Option.map_some, List.not_mem_nil, ←decide_not, eq_self]
  refine xLoop_n ps.length (fun k => [u32 (sumsV (BitVec.ofNat 32 0) ((ps.map (·.2.2)).take k)), i64 k]) (fun _ w' => Ext [] w w') ?_ (Ext.refl _ _) ?_ ?_
  · rfl
  · intro k hk u v1 hu F1 nxt hn
    simp only [List.map_cons, List.map_nil, List.cons.injEq, and_true] at hu
    obtain ⟨h1, h2⟩ := hu
    rw [h1, h2]
    have hp := h.ext F1
    obtain ⟨b, o, rfl, hb1, hc⟩ := hp.1.at (i := k) (by simpa using hk)
    simp only [List.getElem_map] at hc
    have hpk := hp.2 ps[k] (by simp)
    unfold crc_Sum_l1
    simp (disch := (first | omega | decide | (simp only [World.size_alloc, World.size_setCell, World.size_drew, size_sets, List.mem_cons, List.not_mem_nil, or_false, not_false_eq_true] <;> omega) | fail)) only [↓rsSum_2, rsSum_1, Option.isNone_some, Option.isNone_none, tick_eq, tickV_eq, ne_eq, Int.reduceAdd, Int.reduceSub, Int.reduceMul, Int.reduceEq, Int.reduceLT, Int.reduceLE, Int.reduceToNat, Nat.reduceMul, Nat.reduceAdd, Nat.reduceSub, List.nil_append, List.cons_append, List.getElem?_toArray, List.getElem?_cons_zero, List.getElem?_cons_succ, List.setIfInBounds_toArray, List.set_cons_zero, List.set_cons_succ, Option.map_some, List.not_mem_nil, ←decide_not, hc]
    refine crc_Add_call (Gives.to (Add_spec _ _ _ _ _ _ rfl hpk.2 hpk.1) fun w1 E1 => ?_)
    have z1 := E1.size
    try simp only [World.size_alloc, World.size_setCell, World.size_drew] at z1
    simp (disch := (first | omega | decide | (simp only [World.size_alloc, World.size_setCell, World.size_drew, size_sets, List.mem_cons, List.not_mem_nil, or_false, not_false_eq_true] <;> omega) | fail)) only [↓rsSum_2, rsSum_1, Option.isNone_some, Option.isNone_none, tick_eq, tickV_eq, ne_eq, Int.reduceAdd, Int.reduceSub, Int.reduceMul, Int.reduceEq, Int.reduceLT, Int.reduceLE, Int.reduceToNat, Nat.reduceMul, Nat.reduceAdd, Nat.reduceSub, List.nil_append, List.cons_append, List.getElem?_toArray, List.getElem?_cons_zero, List.getElem?_cons_succ, List.setIfInBounds_toArray, List.set_cons_zero, List.set_cons_succ, Option.map_some, List.not_mem_nil, ←decide_not, hc]
    have := hn w1 (F1.trans E1)
    rw [sumsV_take (by simpa using hk)] at this
    simpa using this
  · intro u v1 hu F1 nxt
    simp only [List.map_cons, List.map_nil, List.cons.injEq, and_true] at hu
    obtain ⟨h1, h2⟩ := hu
    rw [h1, h2]
    unfold crc_Sum_l1
    simp (disch := (first | omega | decide | (simp only [World.size_alloc, World.size_setCell, World.size_drew, size_sets, List.mem_cons, List.not_mem_nil, or_false, not_false_eq_true] <;> omega) | fail)) only [↓rsSum_2, rsSum_1, Option.isNone_some, Option.isNone_none, tick_eq, tickV_eq, ne_eq, Int.reduceAdd, Int.reduceSub, Int.reduceMul, Int.reduceEq, Int.reduceLT, Int.reduceLE, Int.reduceToNat, Nat.reduceMul, Nat.reduceAdd, Nat.reduceSub, List.nil_append, List.cons_append, List.getElem?_toArray, List.getElem?_cons_zero, List.getElem?_cons_succ, List.setIfInBounds_toArray, List.set_cons_zero, List.set_cons_succ, Option.map_some, List.not_mem_nil, ←decide_not, eq_self]
    rw [List.take_of_length_le (by simp)]
    exact ⟨by rfl, F1⟩
/-- what a function hands back in a new row of bytes, and a number -/
def PutOk (w w' : World) (u : Value) (l : List (BitVec 8)) : Prop := Ext [] w w' ∧ ∃ b, u = .tuple #[.slice (some ⟨b, 0, none⟩) l.length l.length, i64 0] ∧ w.heap.size ≤ b ∧ Blk w' b 5 (bys l)
abbrev rsSum_3 := (And.intro @xBox_r (And.intro @loadK_some (And.intro @loadsK_s (And.intro @loadsK_n (And.intro @loadsR_s (And.intro @loadsR_n (And.intro @storesK_s (And.intro @storesK_n (And.intro @xPick_t (And.intro @xPick_f (And.intro @xGuard_tt (And.intro @xGuard_ff (And.intro @xGuard_tf (And.intro @xGuard_ft (And.intro @xGuard_u 
  (And.intro @xNil_r (And.intro @xIf_t (And.intro @xBin_add' (And.intro @xBin_sub' (And.intro @xBin_mul' (And.intro @xBin_quo' (And.intro @xBin_rem' (And.intro @xIf_f (And.intro @xIf_tt (And.intro @xEx0 (And.intro @xEx1 (And.intro @xEx2 (And.intro @xEx3 (And.intro @xBin_eqs (And.intro @xBin_nes (And.intro @xUn_not (And.intro @xu8_add (And.intro @xu8_mul 
  (And.intro @xu8_com (And.intro @xu8_shr (And.intro @xu8_lss (And.intro @xu16_add (And.intro @xu16_mul (And.intro @xu16_com (And.intro @xu16_shr (And.intro @xu16_lss (And.intro @xu32_add (And.intro @xu32_mul (And.intro @xu32_com (And.intro @xu32_shr (And.intro @xu32_lss (And.intro @xu64_add (And.intro @xu64_mul (And.intro @xu64_com (And.intro @xu64_shr 
  (And.intro @xu64_lss (And.intro @xi64_lss (And.intro @xi64_shr (And.intro @xMakeFunc_r (And.intro @xSq_r (And.intro @xPur_s (And.intro @xRd_s (And.intro @xRe_s (And.intro @xDet_s (And.intro @xDet_ld (And.intro @xDet_ld2 (And.intro @xDet_ld3 (And.intro @xDet_ld4 (And.intro @xGuard_tt (And.intro @st_5 (And.intro @cv_22_5 (And.intro @ia_25 (And.intro @ln_25 @mk_25))))))))))))))))))))))))))))))))))))))))))))))))))))))))))))))))))))
theorem PutN_spec (l : List (BitVec 8)) (a : Option Addr) (c : Nat) (at' n : Nat) (v : BitVec 64) (w : World) (hl : l.length ≤ 100000000) (h : RowAt w a (bys l)) (hi : inside at' n l.length) :
    Yld Try.prog n_bits_Put #[.slice a l.length c, i64 at', i64 n, u64 v] w fun u w' => PutOk w w' u (putV l at' n v) := by
  refine bits_Put_of ?_
  unfold bits_Put
  have hn : n ≤ 8 ∧ at' + n ≤ l.length ∧ 1 ≤ n := by unfold inside at hi; omega
  simp (disch := (first | omega | decide | (simp only [World.size_alloc, World.size_setCell, World.size_drew, size_sets, List.mem_cons, List.not_mem_nil, or_false, not_false_eq_true] <;> omega) | fail)) only [↓rsSum_3, rsSum_1, Option.isNone_some, Option.isNone_none, tick_eq, tickV_eq, ne_eq, Int.reduceAdd, Int.reduceSub, Int.reduceMul, Int.reduceEq, Int.reduceLT, Int.reduceLE, Int.reduceToNat, Nat.reduceMul, Nat.reduceAdd, Nat.reduceSub, List.nil_append, List.cons_append, List.getElem?_toArray, List.getElem?_cons_zero, List.getElem?_cons_succ, List.setIfInBounds_toArray, List.set_cons_zero, List.set_cons_succ, Option.map_some, List.not_mem_nil, ←decide_not, eq_self]
  refine bits_within_call (Gives.to (within_spec _ _ _ _ (by omega) (by omega)) fun w1 E1 => ?_)
  have z1 := E1.size
  try simp only [World.size_alloc, World.size_setCell, World.size_drew] at z1
  simp (disch := (first | omega | decide | (simp only [World.size_alloc, World.size_setCell, World.size_drew, size_sets, List.mem_cons, List.not_mem_nil, or_false, not_false_eq_true] <;> omega) | fail)) only [↓rsSum_3, rsSum_1, Option.isNone_some, Option.isNone_none, tick_eq, tickV_eq, ne_eq, Int.reduceAdd, Int.reduceSub, Int.reduceMul, Int.reduceEq, Int.reduceLT, Int.reduceLE, Int.reduceToNat, Nat.reduceMul, Nat.reduceAdd, Nat.reduceSub, List.nil_append, List.cons_append, List.getElem?_toArray, List.getElem?_cons_zero, List.getElem?_cons_succ, List.setIfInBounds_toArray, List.set_cons_zero, List.set_cons_succ, Option.map_some, List.not_mem_nil, ←decide_not, decide_eq_true hi]
  have E2 : Ext [] w (w1.alloc (.cells (List.replicate l.length (c8 0)).toArray 5)) := by (repeat (first | with_reducible exact Ext.refl _ _ | with_reducible assumption | with_reducible refine Ext.alloc' ?_ _ | with_reducible refine Ext.drew' ?_ | with_reducible refine Ext.set' ?_ ?_ | exact .inr (by first | omega | (simp only [World.size_alloc, World.size_drew, World.size_setCell] <;> omega)) | refine Ext.trans ?_ (by with_reducible assumption)))
  have hb := Blk.new (e := 5) w1 (List.replicate l.length (c8 0))
  have hro : roomy (w1.alloc (.cells (List.replicate l.length (c8 0)).toArray 5)) w1.heap.size 0 (bys l) := hb.roomy (by simp) (by simp [Value.oneCell'])
  have hb2 := hb.sets (l := bys l) (o := 0) (by simp)
  have E3 := E2.sets (g := w1.heap.size) (o := 0) (l := bys l) (.inr z1)
  rw [xCopy_all (e := 5) (by kernel_rfl) (by kernel_rfl) (by simp) (Nat.le_refl _) (h.ext0 E2) hro]
  generalize hw2 : (w1.alloc (.cells (List.replicate l.length (c8 0)).toArray 5)).setCells w1.heap.size 0 (bys l) = w2 at *
  have hb3 : Blk w2 w1.heap.size 5 (bys (putV l at' 0 v)) := by
    rw [putV_zero]
    simpa [List.drop_eq_nil_of_le] using hb2
  refine xLoop_n n (fun k => [i64 k]) (fun k w' => Ext [] w w' ∧ Blk w' w1.heap.size 5 (bys (putV l at' k v))) ?_ ⟨E3, hb3⟩ ?_ ?_
  · rfl
  · rintro k hk u v1 hu ⟨F1, B1⟩ nxt hnx
    simp only [List.map_cons, List.map_nil, List.cons.injEq, and_true] at hu
    rw [hu]
    have hlen : (putV l at' k v).length = l.length := putV_length (by omega)
    have c1 : ∀ i, v1.cell? ⟨w1.heap.size, i, none⟩ = (bys (putV l at' k v))[i]? := fun i => B1.cell
    have c2 : (bys (putV l at' k v))[at' + k]? = some (u8 ((putV l at' k v)[at' + k]'(by omega))) := by simp [show at' + k < (putV l at' k v).length by omega]
    have f1 : ∀ i, v1.frozen? ⟨w1.heap.size, i, none⟩ = false := fun i => B1.frozen
    have t1 : ((at' : Int) + (k : Int)).toNat = at' + k := by omega
    have t2 : (8 * (k : Int)).toNat = 8 * k := by omega
    unfold bits_Put_l1
    simp (disch := (first | omega | decide | (simp only [World.size_alloc, World.size_setCell, World.size_drew, size_sets, List.mem_cons, List.not_mem_nil, or_false, not_false_eq_true] <;> omega) | fail)) only [↓rsSum_3, rsSum_1, Option.isNone_some, Option.isNone_none, tick_eq, tickV_eq, ne_eq, Int.reduceAdd, Int.reduceSub, Int.reduceMul, Int.reduceEq, Int.reduceLT, Int.reduceLE, Int.reduceToNat, Nat.reduceMul, Nat.reduceAdd, Nat.reduceSub, List.nil_append, List.cons_append, List.getElem?_toArray, List.getElem?_cons_zero, List.getElem?_cons_succ, List.setIfInBounds_toArray, List.set_cons_zero, List.set_cons_succ, Option.map_some, List.not_mem_nil, ←decide_not, decide_eq_true hi, c1, c2, f1, t1, t2]
    have B2 := B1.set (i := at' + k) (v := u8 (byteOf v k))
    rw [bys_set, putV_take hk (by omega)] at B2
    exact hnx _ ⟨F1.set' (.inr z1), B2⟩
  · rintro u v1 hu ⟨F1, B1⟩ nxt
    simp only [List.map_cons, List.map_nil, List.cons.injEq, and_true] at hu
    rw [hu]
    unfold bits_Put_l1
    simp (disch := (first | omega | decide | (simp only [World.size_alloc, World.size_setCell, World.size_drew, size_sets, List.mem_cons, List.not_mem_nil, or_false, not_false_eq_true] <;> omega) | fail)) only [↓rsSum_3, rsSum_1, Option.isNone_some, Option.isNone_none, tick_eq, tickV_eq, ne_eq, Int.reduceAdd, Int.reduceSub, Int.reduceMul, Int.reduceEq, Int.reduceLT, Int.reduceLE, Int.reduceToNat, Nat.reduceMul, Nat.reduceAdd, Nat.reduceSub, List.nil_append, List.cons_append, List.getElem?_toArray, List.getElem?_cons_zero, List.getElem?_cons_succ, List.setIfInBounds_toArray, List.set_cons_zero, List.set_cons_succ, Option.map_some, List.not_mem_nil, ←decide_not, decide_eq_true hi]
    have hlen : (putV l at' n v).length = l.length := putV_length (by omega)
    exact ⟨F1, w1.heap.size, by rw [hlen], z1, B1⟩

abbrev rsSum_4 := (And.intro @xBox_r (And.intro @loadK_some (And.intro @loadsK_s (And.intro @loadsK_n (And.intro @loadsR_s (And.intro @loadsR_n (And.intro @storesK_s (And.intro @storesK_n (And.intro @xPick_t (And.intro @xPick_f (And.intro @xGuard_tt (And.intro @xGuard_ff (And.intro @xGuard_tf (And.intro @xGuard_ft (And.intro @xGuard_u 
  (And.intro @xNil_r (And.intro @xIf_t (And.intro @xBin_add' (And.intro @xBin_sub' (And.intro @xBin_mul' (And.intro @xBin_quo' (And.intro @xBin_rem' (And.intro @xIf_f (And.intro @xIf_tt (And.intro @xEx0 (And.intro @xEx1 (And.intro @xEx2 (And.intro @xEx3 (And.intro @xBin_eqs (And.intro @xBin_nes (And.intro @xUn_not (And.intro @xu8_eql (And.intro @xu16_eql 
  (And.intro @xu32_eql (And.intro @xu64_eql (And.intro @xi64_eql (And.intro @xMakeFunc_r (And.intro @xSq_r (And.intro @xPur_s (And.intro @xRd_s (And.intro @xRe_s (And.intro @xDet_s (And.intro @xDet_ld (And.intro @xDet_ld2 (And.intro @xDet_ld3 (And.intro @xDet_ld4 @xGuard_tt))))))))))))))))))))))))))))))))))))))))))))))
theorem Equal_spec (l l' : List (BitVec 8)) (a a' : Option Addr) (n n' c c' : Nat) (w : World) (hn : n = l.length) (hn' : n' = l'.length) (h : RowAt w a (bys l)) (h' : RowAt w a' (bys l')) : Gives Try.prog n_bytes_Equal #[.slice a n c, .slice a' n' c'] w (.bool (decide (l = l'))) := by
  refine bytes_Equal_of ?_
  unfold bytes_Equal
  rw [xConv_str (e := 5) (by kernel_rfl) (by kernel_rfl) (by kernel_rfl) hn h, xConv_str (e := 5) (by kernel_rfl) (by kernel_rfl) (by kernel_rfl) hn' h']
  simp (disch := (first | omega | decide | (simp only [World.size_alloc, World.size_setCell, World.size_drew, size_sets, List.mem_cons, List.not_mem_nil, or_false, not_false_eq_true] <;> omega) | fail)) only [↓rsSum_4, rsSum_1, Option.isNone_some, Option.isNone_none, tick_eq, tickV_eq, ne_eq, Int.reduceAdd, Int.reduceSub, Int.reduceMul, Int.reduceEq, Int.reduceLT, Int.reduceLE, Int.reduceToNat, Nat.reduceMul, Nat.reduceAdd, Nat.reduceSub, List.nil_append, List.cons_append, List.getElem?_toArray, List.getElem?_cons_zero, List.getElem?_cons_succ, List.setIfInBounds_toArray, List.set_cons_zero, List.set_cons_succ, Option.map_some, List.not_mem_nil, ←decide_not, eq_self]
  exact ⟨by simp only [strOf_inj], by (repeat (first | with_reducible exact Ext.refl _ _ | with_reducible assumption | with_reducible refine Ext.alloc' ?_ _ | with_reducible refine Ext.drew' ?_ | with_reducible refine Ext.set' ?_ ?_ | exact .inr (by first | omega | (simp only [World.size_alloc, World.size_drew, World.size_setCell] <;> omega)) | refine Ext.trans ?_ (by with_reducible assumption)))⟩
/-- what a function hands back in a new row of bytes -/
def SlOk (w w' : World) (u : Value) (l : List (BitVec 8)) : Prop := Ext [] w w' ∧ ∃ b c, u = .slice (some ⟨b, 0, none⟩) l.length c ∧ l.length ≤ c ∧ w.heap.size ≤ b ∧ RowAt w' (some ⟨b, 0, none⟩) (bys l)
theorem putV_end {l m : List (BitVec 8)} {v : BitVec 64} {n : Nat} (h : m.length = n) : putV (l ++ m) l.length n v = l ++ (List.range n).map (byteOf v) := by
  unfold putV
  rw [List.take_left, List.drop_eq_nil_of_le (by simp; omega), List.append_nil]
abbrev rsSum_5 := (And.intro @xBox_r (And.intro @loadK_some (And.intro @loadsK_s (And.intro @loadsK_n (And.intro @loadsR_s (And.intro @loadsR_n (And.intro @storesK_s (And.intro @storesK_n (And.intro @xPick_t (And.intro @xPick_f (And.intro @xGuard_tt (And.intro @xGuard_ff (And.intro @xGuard_tf (And.intro @xGuard_ft (And.intro @xGuard_u 
  (And.intro @xNil_r (And.intro @xIf_t (And.intro @xBin_add' (And.intro @xBin_sub' (And.intro @xBin_mul' (And.intro @xBin_quo' (And.intro @xBin_rem' (And.intro @xIf_f (And.intro @xIf_tt (And.intro @xEx0 (And.intro @xEx1 (And.intro @xEx2 (And.intro @xEx3 (And.intro @xBin_eqs (And.intro @xBin_nes (And.intro @xUn_not (And.intro @xu8_add (And.intro @xu16_add 
  (And.intro @xu32_add (And.intro @xu64_add (And.intro @xMakeFunc_r (And.intro @xSq_r (And.intro @xPur_s (And.intro @xRd_s (And.intro @xRe_s (And.intro @xDet_s (And.intro @xDet_ld (And.intro @xDet_ld2 (And.intro @xDet_ld3 (And.intro @xDet_ld4 (And.intro @xGuard_tt (And.intro @cv_58_22 (And.intro @ln_25 (And.intro @bs_73_1 @mk_25)))))))))))))))))))))))))))))))))))))))))))))))))
theorem Seal_spec (l : List (BitVec 8)) (a : Option Addr) (n c : Nat) (w : World) (hn : n = l.length) (hl : l.length ≤ 1000000) (h : RowAt w a (bys l)) : Yld Try.prog n_crc_Seal #[.slice a n c] w fun u w' => SlOk w w' u (sealV l) := by
  subst hn
  refine crc_Seal_of ?_
  unfold crc_Seal
  have t1 : ((l.length : Int) + 4).toNat = l.length + 4 := by omega
  simp (disch := (first | omega | decide | (simp only [World.size_alloc, World.size_setCell, World.size_drew, size_sets, List.mem_cons, List.not_mem_nil, or_false, not_false_eq_true] <;> omega) | fail)) only [↓rsSum_5, rsSum_1, Option.isNone_some, Option.isNone_none, tick_eq, tickV_eq, ne_eq, Int.reduceAdd, Int.reduceSub, Int.reduceMul, Int.reduceEq, Int.reduceLT, Int.reduceLE, Int.reduceToNat, Nat.reduceMul, Nat.reduceAdd, Nat.reduceSub, List.nil_append, List.cons_append, List.getElem?_toArray, List.getElem?_cons_zero, List.getElem?_cons_succ, List.setIfInBounds_toArray, List.set_cons_zero, List.set_cons_succ, Option.map_some, List.not_mem_nil, ←decide_not, t1]
  have E2 : Ext [] w (w.alloc (.cells (List.replicate (l.length + 4) (c8 0)).toArray 5)) := by (repeat (first | with_reducible exact Ext.refl _ _ | with_reducible assumption | with_reducible refine Ext.alloc' ?_ _ | with_reducible refine Ext.drew' ?_ | with_reducible refine Ext.set' ?_ ?_ | exact .inr (by first | omega | (simp only [World.size_alloc, World.size_drew, World.size_setCell] <;> omega)) | refine Ext.trans ?_ (by with_reducible assumption)))
  have hb := Blk.new (e := 5) w (List.replicate (l.length + 4) (c8 0))
  have hro : roomy (w.alloc (.cells (List.replicate (l.length + 4) (c8 0)).toArray 5)) w.heap.size 0 (bys l) := hb.roomy (by simp) (by simp [Value.oneCell'])
  have hb2 := hb.sets (l := bys l) (o := 0) (by simp)
  have E3 := E2.sets (g := w.heap.size) (o := 0) (l := bys l) (.inr (Nat.le_refl _))
  rw [xCopy_all (e := 5) (by kernel_rfl) (by kernel_rfl) (by simp) (by omega) (h.ext0 E2) hro]
  generalize hw2 : (w.alloc (.cells (List.replicate (l.length + 4) (c8 0)).toArray 5)).setCells w.heap.size 0 (bys l) = w2 at *
  have hb3 : Blk w2 w.heap.size 5 (bys (l ++ List.replicate 4 (BitVec.ofNat 8 0))) := by
    have e : bys (l ++ List.replicate 4 (BitVec.ofNat 8 0)) = List.take 0 (List.replicate (l.length + 4) (c8 0)) ++ bys l ++ List.drop (0 + (bys l).length) (List.replicate (l.length + 4) (c8 0)) := by
      simp [bys, List.drop_replicate]
    rw [e]; exact hb2
  simp (disch := (first | omega | decide | (simp only [World.size_alloc, World.size_setCell, World.size_drew, size_sets, List.mem_cons, List.not_mem_nil, or_false, not_false_eq_true] <;> omega) | fail)) only [↓rsSum_5, rsSum_1, Option.isNone_some, Option.isNone_none, tick_eq, tickV_eq, ne_eq, Int.reduceAdd, Int.reduceSub, Int.reduceMul, Int.reduceEq, Int.reduceLT, Int.reduceLE, Int.reduceToNat, Nat.reduceMul, Nat.reduceAdd, Nat.reduceSub, List.nil_append, List.cons_append, List.getElem?_toArray, List.getElem?_cons_zero, List.getElem?_cons_succ, List.setIfInBounds_toArray, List.set_cons_zero, List.set_cons_succ, Option.map_some, List.not_mem_nil, ←decide_not, t1]
  have E4 : Ext [] w2 (w2.alloc (.cells [Value.slice a l.length c].toArray 25)) := by (repeat (first | with_reducible exact Ext.refl _ _ | with_reducible assumption | with_reducible refine Ext.alloc' ?_ _ | with_reducible refine Ext.drew' ?_ | with_reducible refine Ext.set' ?_ ?_ | exact .inr (by first | omega | (simp only [World.size_alloc, World.size_drew, World.size_setCell] <;> omega)) | refine Ext.trans ?_ (by with_reducible assumption)))
  have hparts : partsAt (w2.alloc (.cells [Value.slice a l.length c].toArray 25)) (some ⟨w2.heap.size, 0, none⟩) [(a, c, l)] := by
    refine ⟨(Blk.new (e := 25) w2 [Value.slice a l.length c]).row, fun p hp => ?_⟩
    simp at hp; subst hp
    exact ⟨(h.ext0 E3).ext0 E4, by simp; omega⟩
  refine crc_Sum_call (Gives.to (Sum_spec _ _ _ _ _ rfl (by decide) hparts) fun w1 E1 => ?_)
  have z1 := E1.size
  try simp only [World.size_alloc, World.size_setCell, World.size_drew] at z1
  simp (disch := (first | omega | decide | (simp only [World.size_alloc, World.size_setCell, World.size_drew, size_sets, List.mem_cons, List.not_mem_nil, or_false, not_false_eq_true] <;> omega) | fail)) only [↓rsSum_5, rsSum_1, Option.isNone_some, Option.isNone_none, tick_eq, tickV_eq, ne_eq, Int.reduceAdd, Int.reduceSub, Int.reduceMul, Int.reduceEq, Int.reduceLT, Int.reduceLE, Int.reduceToNat, Nat.reduceMul, Nat.reduceAdd, Nat.reduceSub, List.nil_append, List.cons_append, List.getElem?_toArray, List.getElem?_cons_zero, List.getElem?_cons_succ, List.setIfInBounds_toArray, List.set_cons_zero, List.set_cons_succ, Option.map_some, List.not_mem_nil, ←decide_not, t1]
  have hb4 : Blk w1 w.heap.size 5 (bys (l ++ List.replicate 4 (BitVec.ofNat 8 0))) := (hb3.ext E4 (by simp)).ext E1 (by simp)
  have hlen : l.length + 4 = (l ++ List.replicate 4 (BitVec.ofNat 8 0)).length := by simp
  rw [hlen]
  refine bits_Put_call (Yld.mono (PutN_spec (l ++ List.replicate 4 (BitVec.ofNat 8 0)) (some ⟨w.heap.size, 0, none⟩) _ l.length 4 _ w1 (by simp; omega) hb4.row (by unfold inside; simp; omega)) ?_)
  rintro u w5 ⟨F1, b, rfl, hbn, B5⟩
  simp (disch := (first | omega | decide | (simp only [World.size_alloc, World.size_setCell, World.size_drew, size_sets, List.mem_cons, List.not_mem_nil, or_false, not_false_eq_true] <;> omega) | fail)) only [↓rsSum_5, rsSum_1, Option.isNone_some, Option.isNone_none, tick_eq, tickV_eq, ne_eq, Int.reduceAdd, Int.reduceSub, Int.reduceMul, Int.reduceEq, Int.reduceLT, Int.reduceLE, Int.reduceToNat, Nat.reduceMul, Nat.reduceAdd, Nat.reduceSub, List.nil_append, List.cons_append, List.getElem?_toArray, List.getElem?_cons_zero, List.getElem?_cons_succ, List.setIfInBounds_toArray, List.set_cons_zero, List.set_cons_succ, Option.map_some, List.not_mem_nil, ←decide_not, t1]
  have e1 : putV (l ++ List.replicate 4 (BitVec.ofNat 8 0)) l.length 4 ((sumsV (BitVec.ofNat 32 0) [l]).setWidth 64) = sealV l := by rw [putV_end (by simp)]; rfl
  have E5 : Ext [] w w5 := ((E3.trans E4).trans E1).trans F1
  simp only [List.map_cons, List.map_nil] at B5 ⊢
  rw [e1] at B5 ⊢
  exact ⟨E5, b, _, rfl, Nat.le_refl _, Nat.le_trans ((E3.trans E4).trans E1).size hbn, B5.row⟩
end Go.Proofs.Ytknineilpenbnaa
