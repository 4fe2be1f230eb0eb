/- What the document's functions on records compute (sq). -/
import Derived.Test.YtknineilpenbnaaRec
import Derived.Test.YtknineilpenbnaaCode9
set_option linter.unusedVariables false
set_option linter.unusedSimpArgs false
set_option maxHeartbeats 4000000
namespace Go.Proofs.Ytknineilpenbnaa
open Go.Sh Go.RowKit

abbrev rsRec2_0 := (And.intro @xBox_r (And.intro @loadK_some (And.intro @loadsK_s (And.intro @loadsK_n (And.intro @loadsR_s (And.intro @loadsR_n (And.intro @storesK_s (And.intro @storesK_n (And.intro @xPick_t (And.intro @xPick_f (And.intro @xGuard_tt (And.intro @xGuard_ff (And.intro @xGuard_tf (And.intro @xGuard_ft (And.intro @xGuard_u 
  (And.intro @xNil_r (And.intro @xIf_t (And.intro @xBin_add' (And.intro @xBin_sub' (And.intro @xBin_mul' (And.intro @xBin_quo' (And.intro @xBin_rem' (And.intro @xIf_f (And.intro @xIf_tt (And.intro @xEx0 (And.intro @xEx1 (And.intro @xEx2 (And.intro @xEx3 (And.intro @xBin_eqs (And.intro @xBin_nes (And.intro @xUn_not (And.intro @xMakeFunc_r (And.intro @xSq_r 
  (And.intro @xPur_s (And.intro @xRd_s (And.intro @xRe_s (And.intro @xDet_s (And.intro @xDet_ld (And.intro @xDet_ld2 (And.intro @xDet_ld3 (And.intro @xDet_ld4 (And.intro @xGuard_tt (And.intro @ld_25 @fa_36_3)))))))))))))))))))))))))))))))))))))))))))
abbrev rsRec2_1 := (And.intro @setCells_c (And.intro @setCells_n (And.intro @World.setCell_alloc_at (And.intro @World.setCell_alloc_past (And.intro @World.cell?_alloc_at (And.intro @World.cell?_alloc_past (And.intro @World.frozen?_alloc_at (And.intro @World.frozen?_alloc_past 
  (And.intro @World.size_alloc (And.intro @dlt_t (And.intro @dlt_f (And.intro @dle_t (And.intro @dle_f (And.intro @deq_t (And.intro @deq_f (And.intro @dne_t (And.intro @dne_f (And.intro @not_true_eq_false (And.intro @Bool.false_and (And.intro @Bool.true_and (And.intro @Bool.and_true (And.intro @Bool.and_false (And.intro @wrap_in (And.intro @Int.toNat_natCast 
  (And.intro @Nat.mul_one (And.intro @cells_int (And.intro @cells_bool (And.intro @cells_string (And.intro @cells_slice (And.intro @cells_pointer (And.intro @cells_agg (And.intro @one_int (And.intro @one_bool (And.intro @one_string (And.intro @one_slice (And.intro @one_pointer (And.intro @beq_tt (And.intro @beq_ff (And.intro @beq_tf 
  (And.intro @beq_ft (And.intro @cell_sets_b (And.intro @frozen_sets (And.intro @size_sets (And.intro @World.size_drew (And.intro @Nat.zero_add (And.intro @Nat.add_zero (And.intro @cell_drew (And.intro @frozen_drew (And.intro @cell_set_eq (And.intro @cell_set_o (And.intro @cell_set_b (And.intro @World.frozen?_setCell 
  (And.intro @decide_true (And.intro @decide_false (And.intro @not_false_eq_true (And.intro @Bool.not_true @Bool.not_false))))))))))))))))))))))))))))))))))))))))))))))))))))))))
theorem rrec_tail (r : RC) (a : Option Addr) (c : Nat) (w y : World) (K : K1) (gb : Nat) (v : Value) (L : List (BitVec 8)) (hdata : r.data.length ≤ 5000) (hL : L.length ≤ 100) (hca : r.data.length ≤ c)
    (hrow : RowAt w a (bys r.data)) (hnil : a = none → c = 0) (hB : w.cell? ⟨gb, 4, none⟩ = some (.slice a r.data.length c)) (hN : NewB w y v L)
    (hK : ∀ u w', EncR w w' u (uintB (BitVec.ofNat 64 (sealV (L ++ (uintB (BitVec.ofNat 64 r.data.length) ++ r.data))).length) ++ sealV (L ++ (uintB (BitVec.ofNat 64 r.data.length) ++ r.data))) 0 → K u w') :
    loamref8_Encode_j1 K (.pointer (some ⟨gb, 0, none⟩)) v y := by
  have hle := uintB_le (BitVec.ofNat 64 r.data.length)
  have hc := hN.1.cell0 hB
  unfold loamref8_Encode_j1
  simp (disch := (first | omega | decide | (simp only [World.size_alloc, World.size_setCell, World.size_drew, size_sets, List.mem_cons, List.not_mem_nil, or_false, not_false_eq_true] <;> omega) | fail)) only [↓rsRec2_0, rsRec2_1, Option.isNone_some, Option.isNone_none, tick_eq, tickV_eq, ne_eq, Int.reduceAdd, Int.reduceSub, Int.reduceMul, Int.reduceEq, Int.reduceLT, Int.reduceLE, Int.reduceToNat, Nat.reduceMul, Nat.reduceAdd, Nat.reduceSub, List.nil_append, List.cons_append, List.getElem?_toArray, List.getElem?_cons_zero, List.getElem?_cons_succ, List.setIfInBounds_toArray, List.set_cons_zero, List.set_cons_succ, Option.map_some, List.not_mem_nil, ←decide_not, hc]
  refine loamref5_Raw_call (Yld.mono (rRaw_spec r.data a c y (hrow.ext0 hN.1) (by omega) hnil hca) ?_)
  intro u1 y1 hN1
  simp (disch := (first | omega | decide | (simp only [World.size_alloc, World.size_setCell, World.size_drew, size_sets, List.mem_cons, List.not_mem_nil, or_false, not_false_eq_true] <;> omega) | fail)) only [↓rsRec2_0, rsRec2_1, Option.isNone_some, Option.isNone_none, tick_eq, tickV_eq, ne_eq, Int.reduceAdd, Int.reduceSub, Int.reduceMul, Int.reduceEq, Int.reduceLT, Int.reduceLE, Int.reduceToNat, Nat.reduceMul, Nat.reduceAdd, Nat.reduceSub, List.nil_append, List.cons_append, List.getElem?_toArray, List.getElem?_cons_zero, List.getElem?_cons_succ, List.setIfInBounds_toArray, List.set_cons_zero, List.set_cons_succ, Option.map_some, List.not_mem_nil, ←decide_not, hc]
  refine appBo (hN.2.1.ext0 hN1.1) hN1.2.1 (by rw [List.length_append]; omega) fun v2 y2 O2 S2 => ?_
  have hN2 := (hN.ext hN1.1).app O2 S2
  generalize hM : L ++ (uintB (BitVec.ofNat 64 r.data.length) ++ r.data) = M at *
  have hMl : M.length ≤ 5110 := by rw [← hM]; simp only [List.length_append]; omega
  obtain ⟨a2, c2, rfl, q1, q2, q3, q4, _⟩ := O2.slice
  simp (disch := (first | omega | decide | (simp only [World.size_alloc, World.size_setCell, World.size_drew, size_sets, List.mem_cons, List.not_mem_nil, or_false, not_false_eq_true] <;> omega) | fail)) only [↓rsRec2_0, rsRec2_1, Option.isNone_some, Option.isNone_none, tick_eq, tickV_eq, ne_eq, Int.reduceAdd, Int.reduceSub, Int.reduceMul, Int.reduceEq, Int.reduceLT, Int.reduceLE, Int.reduceToNat, Nat.reduceMul, Nat.reduceAdd, Nat.reduceSub, List.nil_append, List.cons_append, List.getElem?_toArray, List.getElem?_cons_zero, List.getElem?_cons_succ, List.setIfInBounds_toArray, List.set_cons_zero, List.set_cons_succ, Option.map_some, List.not_mem_nil, ←decide_not, hc]
  refine loamref2_Sum_call (Gives.to (rSum_spec M a2 _ c2 y2 rfl (by omega) q4) fun y3 F3 => ?_)
  simp (disch := (first | omega | decide | (simp only [World.size_alloc, World.size_setCell, World.size_drew, size_sets, List.mem_cons, List.not_mem_nil, or_false, not_false_eq_true] <;> omega) | fail)) only [↓rsRec2_0, rsRec2_1, Option.isNone_some, Option.isNone_none, tick_eq, tickV_eq, ne_eq, Int.reduceAdd, Int.reduceSub, Int.reduceMul, Int.reduceEq, Int.reduceLT, Int.reduceLE, Int.reduceToNat, Nat.reduceMul, Nat.reduceAdd, Nat.reduceSub, List.nil_append, List.cons_append, List.getElem?_toArray, List.getElem?_cons_zero, List.getElem?_cons_succ, List.setIfInBounds_toArray, List.set_cons_zero, List.set_cons_succ, Option.map_some, List.not_mem_nil, ←decide_not, hc]
  refine loamref2_Low_call (Yld.mono (rLow_spec (sumV M) y3) ?_)
  rintro u4 y4 ⟨F4, a4, c4, rfl, p1, p2, p3⟩
  simp (disch := (first | omega | decide | (simp only [World.size_alloc, World.size_setCell, World.size_drew, size_sets, List.mem_cons, List.not_mem_nil, or_false, not_false_eq_true] <;> omega) | fail)) only [↓rsRec2_0, rsRec2_1, Option.isNone_some, Option.isNone_none, tick_eq, tickV_eq, ne_eq, Int.reduceAdd, Int.reduceSub, Int.reduceMul, Int.reduceEq, Int.reduceLT, Int.reduceLE, Int.reduceToNat, Nat.reduceMul, Nat.reduceAdd, Nat.reduceSub, List.nil_append, List.cons_append, List.getElem?_toArray, List.getElem?_cons_zero, List.getElem?_cons_succ, List.setIfInBounds_toArray, List.set_cons_zero, List.set_cons_succ, Option.map_some, List.not_mem_nil, ←decide_not, hc]
  refine appB (l := M) (m := low4 (sumV M)) ((O2.ext0 F3).ext0 F4) rfl p2 p3 p1 (by simp; omega) fun v5 y5 O5 S5 => ?_
  have hN5 := ((hN2.ext F3).ext F4).app O5 S5
  have es : M ++ low4 (sumV M) = sealV M := rfl
  rw [es] at O5 hN5
  have hsl := sealV_length M
  obtain ⟨a5, c5, rfl, t1, t2, t3, t4, _⟩ := O5.slice
  simp (disch := (first | omega | decide | (simp only [World.size_alloc, World.size_setCell, World.size_drew, size_sets, List.mem_cons, List.not_mem_nil, or_false, not_false_eq_true] <;> omega) | fail)) only [↓rsRec2_0, rsRec2_1, Option.isNone_some, Option.isNone_none, tick_eq, tickV_eq, ne_eq, Int.reduceAdd, Int.reduceSub, Int.reduceMul, Int.reduceEq, Int.reduceLT, Int.reduceLE, Int.reduceToNat, Nat.reduceMul, Nat.reduceAdd, Nat.reduceSub, List.nil_append, List.cons_append, List.getElem?_toArray, List.getElem?_cons_zero, List.getElem?_cons_succ, List.setIfInBounds_toArray, List.set_cons_zero, List.set_cons_succ, Option.map_some, List.not_mem_nil, ←decide_not, hc]
  refine loamref5_Raw_call (Yld.mono (rRaw_spec (sealV M) a5 c5 y5 t4 (by omega) t3 t1) ?_)
  intro u6 y6 hN6
  obtain ⟨a7, c7, rfl, s1, s2, s3, s4⟩ := NewR.toB hN6
  have hz := hN5.1.size
  exact hK _ _ ⟨hN5.1.trans hN6.1, a7, c7, rfl, s1, s2, s3, fun x hx => ⟨by have := (s4 x hx).1; omega, (s4 x hx).2⟩⟩
abbrev rsRec2_2 := (And.intro @xBox_r (And.intro @loadK_some (And.intro @loadsK_s (And.intro @loadsK_n (And.intro @loadsR_s (And.intro @loadsR_n (And.intro @storesK_s (And.intro @storesK_n (And.intro @xPick_t (And.intro @xPick_f (And.intro @xGuard_tt (And.intro @xGuard_ff (And.intro @xGuard_tf (And.intro @xGuard_ft (And.intro @xGuard_u 
  (And.intro @xNil_r (And.intro @xIf_t (And.intro @xBin_add' (And.intro @xBin_sub' (And.intro @xBin_mul' (And.intro @xBin_quo' (And.intro @xBin_rem' (And.intro @xIf_f (And.intro @xIf_tt (And.intro @xEx0 (And.intro @xEx1 (And.intro @xEx2 (And.intro @xEx3 (And.intro @xBin_eqs (And.intro @xBin_nes (And.intro @xUn_not (And.intro @xu8_eql (And.intro @xu8_neq 
  (And.intro @xu8_lss (And.intro @xu8_gtr (And.intro @xu16_eql (And.intro @xu16_neq (And.intro @xu16_lss (And.intro @xu16_gtr (And.intro @xu32_eql (And.intro @xu32_neq (And.intro @xu32_lss (And.intro @xu32_gtr (And.intro @xu64_eql (And.intro @xu64_neq (And.intro @xu64_lss (And.intro @xu64_gtr (And.intro @xi64_lss (And.intro @xi64_gtr (And.intro @xi64_eql 
  (And.intro @xi64_neq (And.intro @xi64_neg (And.intro @xMakeFunc_r (And.intro @xSq_r (And.intro @xPur_s (And.intro @xRd_s (And.intro @xRe_s (And.intro @xDet_s (And.intro @xDet_ld (And.intro @xDet_ld2 (And.intro @xDet_ld3 (And.intro @xDet_ld4 (And.intro @xGuard_tt (And.intro @ld_3 (And.intro @ld_22 (And.intro @ld_25 (And.intro @fa_34_0 (And.intro @fa_34_1 
  (And.intro @fa_36_0 (And.intro @fa_36_1 (And.intro @fa_36_2 (And.intro @fa_36_3 (And.intro @cv_3_22 @ln_25)))))))))))))))))))))))))))))))))))))))))))))))))))))))))))))))))))))))))
theorem rRec_Encode_spec (r : RC) (a : Option Addr) (c : Nat) (w : World) (hdata : r.data.length ≤ 5000) (hca : r.data.length ≤ c) (hrow : RowAt w a (bys r.data)) (hnil : a = none → c = 0) : Yld Try.prog n_loamref8_Encode #[rcV r a c] w fun u w' => EncR w w' u (rcEnc r) (rcErr r) := by
  refine loamref8_Encode_of ?_
  unfold loamref8_Encode
  simp (disch := (first | omega | decide | (simp only [World.size_alloc, World.size_setCell, World.size_drew, size_sets, List.mem_cons, List.not_mem_nil, or_false, not_false_eq_true] <;> omega) | fail)) only [↓rsRec2_2, rsRec2_1, Option.isNone_some, Option.isNone_none, tick_eq, tickV_eq, ne_eq, Int.reduceAdd, Int.reduceSub, Int.reduceMul, Int.reduceEq, Int.reduceLT, Int.reduceLE, Int.reduceToNat, Nat.reduceMul, Nat.reduceAdd, Nat.reduceSub, List.nil_append, List.cons_append, List.getElem?_toArray, List.getElem?_cons_zero, List.getElem?_cons_succ, List.setIfInBounds_toArray, List.set_cons_zero, List.set_cons_succ, Option.map_some, List.not_mem_nil, ←decide_not, eq_self]
  have bad : ¬ RcOk r → EncR w (w.alloc (.cells (rcC r a c).toArray 36)) (.tuple #[.slice none 0 0, i64 1]) (rcEnc r) (rcErr r) := fun h => by
    have he : rcErr r = 1 := if_neg h
    have e0 : rcEnc r = [] := if_neg (by rw [he]; decide)
    rw [e0, he]
    exact ⟨Ext.alloc _ _ _, none, 0, rfl, Nat.le_refl _, fun _ => rfl, RowAt.nil, fun x hx => by cases hx⟩
  by_cases g1 : r.kind < 1
  · simp (disch := (first | omega | decide | (simp only [World.size_alloc, World.size_setCell, World.size_drew, size_sets, List.mem_cons, List.not_mem_nil, or_false, not_false_eq_true] <;> omega) | fail)) only [↓rsRec2_2, rsRec2_1, Option.isNone_some, Option.isNone_none, tick_eq, tickV_eq, ne_eq, Int.reduceAdd, Int.reduceSub, Int.reduceMul, Int.reduceEq, Int.reduceLT, Int.reduceLE, Int.reduceToNat, Nat.reduceMul, Nat.reduceAdd, Nat.reduceSub, List.nil_append, List.cons_append, List.getElem?_toArray, List.getElem?_cons_zero, List.getElem?_cons_succ, List.setIfInBounds_toArray, List.set_cons_zero, List.set_cons_succ, Option.map_some, List.not_mem_nil, ←decide_not, eq_self]
    exact bad fun h => by have := h.1; omega
  by_cases g2 : 3 < r.kind
  · simp (disch := (first | omega | decide | (simp only [World.size_alloc, World.size_setCell, World.size_drew, size_sets, List.mem_cons, List.not_mem_nil, or_false, not_false_eq_true] <;> omega) | fail)) only [↓rsRec2_2, rsRec2_1, Option.isNone_some, Option.isNone_none, tick_eq, tickV_eq, ne_eq, Int.reduceAdd, Int.reduceSub, Int.reduceMul, Int.reduceEq, Int.reduceLT, Int.reduceLE, Int.reduceToNat, Nat.reduceMul, Nat.reduceAdd, Nat.reduceSub, List.nil_append, List.cons_append, List.getElem?_toArray, List.getElem?_cons_zero, List.getElem?_cons_succ, List.setIfInBounds_toArray, List.set_cons_zero, List.set_cons_succ, Option.map_some, List.not_mem_nil, ←decide_not, eq_self]
    exact bad fun h => by have := h.2.1; omega
  by_cases gk : r.kind ≠ 1 ∧ (r.sp ≠ 0 ∨ r.no ≠ 0)
  · have d1 : decide (¬ r.kind = 1) = true := decide_eq_true gk.1
    by_cases gs : r.sp = 0
    · have d2 : decide (¬ r.sp = 0) = false := decide_eq_false (fun h => h gs)
      have d3 : decide (¬ r.no = 0) = true := decide_eq_true (by have := gk.2; omega)
      simp (disch := (first | omega | decide | (simp only [World.size_alloc, World.size_setCell, World.size_drew, size_sets, List.mem_cons, List.not_mem_nil, or_false, not_false_eq_true] <;> omega) | fail)) only [↓rsRec2_2, rsRec2_1, Option.isNone_some, Option.isNone_none, tick_eq, tickV_eq, ne_eq, Int.reduceAdd, Int.reduceSub, Int.reduceMul, Int.reduceEq, Int.reduceLT, Int.reduceLE, Int.reduceToNat, Nat.reduceMul, Nat.reduceAdd, Nat.reduceSub, List.nil_append, List.cons_append, List.getElem?_toArray, List.getElem?_cons_zero, List.getElem?_cons_succ, List.setIfInBounds_toArray, List.set_cons_zero, List.set_cons_succ, Option.map_some, List.not_mem_nil, ←decide_not, d1, d2, d3]
      exact bad fun h => by have := h.2.2.1 gk.1; omega
    · have d2 : decide (¬ r.sp = 0) = true := decide_eq_true gs
      simp (disch := (first | omega | decide | (simp only [World.size_alloc, World.size_setCell, World.size_drew, size_sets, List.mem_cons, List.not_mem_nil, or_false, not_false_eq_true] <;> omega) | fail)) only [↓rsRec2_2, rsRec2_1, Option.isNone_some, Option.isNone_none, tick_eq, tickV_eq, ne_eq, Int.reduceAdd, Int.reduceSub, Int.reduceMul, Int.reduceEq, Int.reduceLT, Int.reduceLE, Int.reduceToNat, Nat.reduceMul, Nat.reduceAdd, Nat.reduceSub, List.nil_append, List.cons_append, List.getElem?_toArray, List.getElem?_cons_zero, List.getElem?_cons_succ, List.setIfInBounds_toArray, List.set_cons_zero, List.set_cons_succ, Option.map_some, List.not_mem_nil, ←decide_not, d1, d2]
      exact bad fun h => by have := h.2.2.1 gk.1; omega
  by_cases gs : r.sp < 0 ∨ 1 < r.sp
  · have hk1 : r.kind = 1 := by
      rcases Int.lt_or_le r.kind 2 with h | h
      · omega
      · exfalso; exact gk ⟨by omega, .inl (by omega)⟩
    have d1 : decide (¬ r.kind = 1) = false := decide_eq_false (fun h => h hk1)
    have d2 : decide (¬ r.sp = 0) = true := decide_eq_true (by omega)
    have d3 : decide (¬ r.sp = 1) = true := decide_eq_true (by omega)
    simp (disch := (first | omega | decide | (simp only [World.size_alloc, World.size_setCell, World.size_drew, size_sets, List.mem_cons, List.not_mem_nil, or_false, not_false_eq_true] <;> omega) | fail)) only [↓rsRec2_2, rsRec2_1, Option.isNone_some, Option.isNone_none, tick_eq, tickV_eq, ne_eq, Int.reduceAdd, Int.reduceSub, Int.reduceMul, Int.reduceEq, Int.reduceLT, Int.reduceLE, Int.reduceToNat, Nat.reduceMul, Nat.reduceAdd, Nat.reduceSub, List.nil_append, List.cons_append, List.getElem?_toArray, List.getElem?_cons_zero, List.getElem?_cons_succ, List.setIfInBounds_toArray, List.set_cons_zero, List.set_cons_succ, Option.map_some, List.not_mem_nil, ←decide_not, d1, d2, d3]
    exact bad fun h => by have := h.2.2.2.1; have := h.2.2.2.2.1; omega
  have hcase : (decide (¬ r.kind = 1) = true ∧ decide (¬ r.sp = 0) = false ∧ decide (¬ r.no = 0) = false) ∨ (decide (¬ r.kind = 1) = false ∧ decide (¬ r.sp = 0) = false ∧ decide (¬ r.kind = 1) = false) ∨ (decide (¬ r.kind = 1) = false ∧ decide (¬ r.sp = 0) = true ∧ decide (¬ r.sp = 1) = false) := by
    by_cases hk : r.kind = 1
    · rcases (show r.sp = 0 ∨ r.sp = 1 by omega) with h | h
      · exact .inr (.inl ⟨by simp [hk], by simp [h], by simp [hk]⟩)
      · exact .inr (.inr ⟨by simp [hk], by simp [h], by simp [h]⟩)
    · have h0 : r.sp = 0 ∧ r.no = 0 := by
        by_cases h1 : r.sp = 0
        · by_cases h2 : r.no = 0
          · exact ⟨h1, h2⟩
          · exact absurd ⟨hk, .inr h2⟩ gk
        · exact absurd ⟨hk, .inl h1⟩ gk
      exact .inl ⟨by simp [hk], by simp [h0.1], by simp [h0.2]⟩
  have hz : (w.alloc (.cells (rcC r a c).toArray 36)).heap.size = w.heap.size + 1 := by simp
  have B1 : Blk (w.alloc (.cells (rcC r a c).toArray 36)) w.heap.size 36 (rcC r a c) := Blk.at rfl
  have k1 : (w.alloc (.cells (rcC r a c).toArray 36)).cell? ⟨w.heap.size, 1, none⟩ = some (u64 r.tx) := by rw [B1.cell]; rfl
  have k0 : (w.alloc (.cells (rcC r a c).toArray 36)).cell? ⟨w.heap.size, 0, none⟩ = some (i64 r.kind) := by rw [B1.cell]; rfl
  have k2 : (w.alloc (.cells (rcC r a c).toArray 36)).cell? ⟨w.heap.size, 2, none⟩ = some (i64 r.sp) := by rw [B1.cell]; rfl
  have k3 : (w.alloc (.cells (rcC r a c).toArray 36)).cell? ⟨w.heap.size, 3, none⟩ = some (i64 r.no) := by rw [B1.cell]; rfl
  have k4 : (w.alloc (.cells (rcC r a c).toArray 36)).cell? ⟨w.heap.size, 4, none⟩ = some (.slice a r.data.length c) := by rw [B1.cell]; rfl
  have X0 : Ext [] w (w.alloc (.cells (rcC r a c).toArray 36)) := Ext.alloc _ _ _
  have hu1 := uintB_le (BitVec.ofInt 64 r.kind)
  have hu2 := uintB_le r.tx
  have hu3 := uintB_le (BitVec.ofInt 64 r.sp)
  have hu4 := uintB_le (BitVec.ofInt 64 r.no)
  rcases hcase with ⟨d1, d2, d3⟩ | ⟨d1, d2, d3⟩ | ⟨d1, d2, d3⟩
  all_goals
    by_cases g6 : r.no < 0
    · simp (disch := (first | omega | decide | (simp only [World.size_alloc, World.size_setCell, World.size_drew, size_sets, List.mem_cons, List.not_mem_nil, or_false, not_false_eq_true] <;> omega) | fail)) only [↓rsRec2_2, rsRec2_1, Option.isNone_some, Option.isNone_none, tick_eq, tickV_eq, ne_eq, Int.reduceAdd, Int.reduceSub, Int.reduceMul, Int.reduceEq, Int.reduceLT, Int.reduceLE, Int.reduceToNat, Nat.reduceMul, Nat.reduceAdd, Nat.reduceSub, List.nil_append, List.cons_append, List.getElem?_toArray, List.getElem?_cons_zero, List.getElem?_cons_succ, List.setIfInBounds_toArray, List.set_cons_zero, List.set_cons_succ, Option.map_some, List.not_mem_nil, ←decide_not, d1, d2, d3]
      exact bad fun h => by have := h.2.2.2.2.2.1; omega
    by_cases g7 : 65535 < r.no
    · simp (disch := (first | omega | decide | (simp only [World.size_alloc, World.size_setCell, World.size_drew, size_sets, List.mem_cons, List.not_mem_nil, or_false, not_false_eq_true] <;> omega) | fail)) only [↓rsRec2_2, rsRec2_1, Option.isNone_some, Option.isNone_none, tick_eq, tickV_eq, ne_eq, Int.reduceAdd, Int.reduceSub, Int.reduceMul, Int.reduceEq, Int.reduceLT, Int.reduceLE, Int.reduceToNat, Nat.reduceMul, Nat.reduceAdd, Nat.reduceSub, List.nil_append, List.cons_append, List.getElem?_toArray, List.getElem?_cons_zero, List.getElem?_cons_succ, List.setIfInBounds_toArray, List.set_cons_zero, List.set_cons_succ, Option.map_some, List.not_mem_nil, ←decide_not, d1, d2, d3]
      exact bad fun h => by have := h.2.2.2.2.2.2; omega
    have ok : RcOk r := ⟨by omega, by omega, fun h => by
      by_cases h1 : r.sp = 0
      · by_cases h2 : r.no = 0
        · exact ⟨h1, h2⟩
        · exact absurd ⟨h, .inr h2⟩ gk
      · exact absurd ⟨h, .inl h1⟩ gk, by omega, by omega, by omega, by omega⟩
    by_cases g8 : 4096 < r.data.length
    · have he : rcErr r = 3 := by rw [rcErr, if_pos ok, if_pos g8]
      have e0 : rcEnc r = [] := if_neg (by rw [he]; decide)
      simp (disch := (first | omega | decide | (simp only [World.size_alloc, World.size_setCell, World.size_drew, size_sets, List.mem_cons, List.not_mem_nil, or_false, not_false_eq_true] <;> omega) | fail)) only [↓rsRec2_2, rsRec2_1, Option.isNone_some, Option.isNone_none, tick_eq, tickV_eq, ne_eq, Int.reduceAdd, Int.reduceSub, Int.reduceMul, Int.reduceEq, Int.reduceLT, Int.reduceLE, Int.reduceToNat, Nat.reduceMul, Nat.reduceAdd, Nat.reduceSub, List.nil_append, List.cons_append, List.getElem?_toArray, List.getElem?_cons_zero, List.getElem?_cons_succ, List.setIfInBounds_toArray, List.set_cons_zero, List.set_cons_succ, Option.map_some, List.not_mem_nil, ←decide_not, d1, d2, d3]
      rw [e0, he]
      exact ⟨Ext.alloc _ _ _, none, 0, rfl, Nat.le_refl _, fun _ => rfl, RowAt.nil, fun x hx => by cases hx⟩
    have he : rcErr r = 0 := by rw [rcErr, if_pos ok, if_neg g8]
    have e0 : rcEnc r = rcOut r := if_pos he
    have fin : ∀ u w', EncR (w.alloc (.cells (rcC r a c).toArray 36)) w' u (rcOut r) 0 → EncR w w' u (rcEnc r) (rcErr r) := fun u w' h => by
      obtain ⟨hx, a', c', rfl, h1, h2, h3, h4⟩ := h
      rw [e0, he]
      exact ⟨X0.trans hx, a', c', rfl, h1, h2, h3, fun x hx => ⟨by have := (h4 x hx).1; omega, (h4 x hx).2⟩⟩
    simp (disch := (first | omega | decide | (simp only [World.size_alloc, World.size_setCell, World.size_drew, size_sets, List.mem_cons, List.not_mem_nil, or_false, not_false_eq_true] <;> omega) | fail)) only [↓rsRec2_2, rsRec2_1, Option.isNone_some, Option.isNone_none, tick_eq, tickV_eq, ne_eq, Int.reduceAdd, Int.reduceSub, Int.reduceMul, Int.reduceEq, Int.reduceLT, Int.reduceLE, Int.reduceToNat, Nat.reduceMul, Nat.reduceAdd, Nat.reduceSub, List.nil_append, List.cons_append, List.getElem?_toArray, List.getElem?_cons_zero, List.getElem?_cons_succ, List.setIfInBounds_toArray, List.set_cons_zero, List.set_cons_succ, Option.map_some, List.not_mem_nil, ←decide_not, d1, d2, d3]
    refine loamref5_Uint_call (Yld.mono (rUint_spec (BitVec.ofInt 64 r.kind) _) ?_)
    intro u1 y1 hN1
    have N1 := NewR.pre (Ext.drew [] _) hN1
    have m1 := N1.1.cell0 k1
    simp (disch := (first | omega | decide | (simp only [World.size_alloc, World.size_setCell, World.size_drew, size_sets, List.mem_cons, List.not_mem_nil, or_false, not_false_eq_true] <;> omega) | fail)) only [↓rsRec2_2, rsRec2_1, Option.isNone_some, Option.isNone_none, tick_eq, tickV_eq, ne_eq, Int.reduceAdd, Int.reduceSub, Int.reduceMul, Int.reduceEq, Int.reduceLT, Int.reduceLE, Int.reduceToNat, Nat.reduceMul, Nat.reduceAdd, Nat.reduceSub, List.nil_append, List.cons_append, List.getElem?_toArray, List.getElem?_cons_zero, List.getElem?_cons_succ, List.setIfInBounds_toArray, List.set_cons_zero, List.set_cons_succ, Option.map_some, List.not_mem_nil, ←decide_not, d1, d2, d3, m1]
    refine loamref5_Uint_call (Yld.mono (rUint_spec r.tx y1) ?_)
    intro u2 y2 hN2
    refine appBo (N1.2.1.ext0 hN2.1) hN2.2.1 (by omega) fun v3 y3 O3 S3 => ?_
    have N3 := (N1.ext hN2.1).app O3 S3
    have m0 := N3.1.cell0 k0
    have m2 := (N3.1.drew').cell0 k2
    have m3 := (N3.1.drew').cell0 k3
    by_cases hk : r.kind = 1
    · have dk : decide (r.kind = 1) = true := decide_eq_true hk
      have eL : rcIn r = (((uintB (BitVec.ofInt 64 r.kind) ++ uintB r.tx) ++ uintB (BitVec.ofInt 64 r.sp)) ++ uintB (BitVec.ofInt 64 r.no)) ++ (uintB (BitVec.ofNat 64 r.data.length) ++ r.data) := by
        unfold rcIn; rw [if_pos hk]; simp only [List.append_assoc]
      simp (disch := (first | omega | decide | (simp only [World.size_alloc, World.size_setCell, World.size_drew, size_sets, List.mem_cons, List.not_mem_nil, or_false, not_false_eq_true] <;> omega) | fail)) only [↓rsRec2_2, rsRec2_1, Option.isNone_some, Option.isNone_none, tick_eq, tickV_eq, ne_eq, Int.reduceAdd, Int.reduceSub, Int.reduceMul, Int.reduceEq, Int.reduceLT, Int.reduceLE, Int.reduceToNat, Nat.reduceMul, Nat.reduceAdd, Nat.reduceSub, List.nil_append, List.cons_append, List.getElem?_toArray, List.getElem?_cons_zero, List.getElem?_cons_succ, List.setIfInBounds_toArray, List.set_cons_zero, List.set_cons_succ, Option.map_some, List.not_mem_nil, ←decide_not, d1, d2, d3, m1, m0, dk, m2, m3]
      refine loamref5_Uint_call (Yld.mono (rUint_spec (BitVec.ofInt 64 r.sp) _) ?_)
      intro u4 y4 hN4
      have N4 := (N3.ext (Ext.drew [] y3)).ext hN4.1
      have m4 := N4.1.cell0 k3
      simp (disch := (first | omega | decide | (simp only [World.size_alloc, World.size_setCell, World.size_drew, size_sets, List.mem_cons, List.not_mem_nil, or_false, not_false_eq_true] <;> omega) | fail)) only [↓rsRec2_2, rsRec2_1, Option.isNone_some, Option.isNone_none, tick_eq, tickV_eq, ne_eq, Int.reduceAdd, Int.reduceSub, Int.reduceMul, Int.reduceEq, Int.reduceLT, Int.reduceLE, Int.reduceToNat, Nat.reduceMul, Nat.reduceAdd, Nat.reduceSub, List.nil_append, List.cons_append, List.getElem?_toArray, List.getElem?_cons_zero, List.getElem?_cons_succ, List.setIfInBounds_toArray, List.set_cons_zero, List.set_cons_succ, Option.map_some, List.not_mem_nil, ←decide_not, d1, d2, d3, m1, m0, dk, m2, m3, m4]
      refine appBo N4.2.1 hN4.2.1 (by rw [List.length_append]; omega) fun v5 y5 O5 S5 => ?_
      have N5 := N4.app O5 S5
      have m5 := N5.1.cell0 k3
      simp (disch := (first | omega | decide | (simp only [World.size_alloc, World.size_setCell, World.size_drew, size_sets, List.mem_cons, List.not_mem_nil, or_false, not_false_eq_true] <;> omega) | fail)) only [↓rsRec2_2, rsRec2_1, Option.isNone_some, Option.isNone_none, tick_eq, tickV_eq, ne_eq, Int.reduceAdd, Int.reduceSub, Int.reduceMul, Int.reduceEq, Int.reduceLT, Int.reduceLE, Int.reduceToNat, Nat.reduceMul, Nat.reduceAdd, Nat.reduceSub, List.nil_append, List.cons_append, List.getElem?_toArray, List.getElem?_cons_zero, List.getElem?_cons_succ, List.setIfInBounds_toArray, List.set_cons_zero, List.set_cons_succ, Option.map_some, List.not_mem_nil, ←decide_not, d1, d2, d3, m1, m0, dk, m2, m3, m4, m5]
      refine loamref5_Uint_call (Yld.mono (rUint_spec (BitVec.ofInt 64 r.no) y5) ?_)
      intro u6 y6 hN6
      refine appBo (N5.2.1.ext0 hN6.1) hN6.2.1 (by simp only [List.length_append]; omega) fun v7 y7 O7 S7 => ?_
      have N7 := (N5.ext hN6.1).app O7 S7
      simp (disch := (first | omega | decide | (simp only [World.size_alloc, World.size_setCell, World.size_drew, size_sets, List.mem_cons, List.not_mem_nil, or_false, not_false_eq_true] <;> omega) | fail)) only [↓rsRec2_2, rsRec2_1, Option.isNone_some, Option.isNone_none, tick_eq, tickV_eq, ne_eq, Int.reduceAdd, Int.reduceSub, Int.reduceMul, Int.reduceEq, Int.reduceLT, Int.reduceLE, Int.reduceToNat, Nat.reduceMul, Nat.reduceAdd, Nat.reduceSub, List.nil_append, List.cons_append, List.getElem?_toArray, List.getElem?_cons_zero, List.getElem?_cons_succ, List.setIfInBounds_toArray, List.set_cons_zero, List.set_cons_succ, Option.map_some, List.not_mem_nil, ←decide_not, d1, d2, d3, m1, m0, dk, m2, m3, m4, m5]
      refine rrec_tail r a c _ y7 _ w.heap.size v7 _ hdata (by simp only [List.length_append]; omega) hca (hrow.ext0 X0) hnil k4 N7 fun u w' h => fin u w' ?_
      rw [← eL] at h
      exact h
    · have dk : decide (r.kind = 1) = false := decide_eq_false hk
      have eL : rcIn r = (uintB (BitVec.ofInt 64 r.kind) ++ uintB r.tx) ++ (uintB (BitVec.ofNat 64 r.data.length) ++ r.data) := by
        unfold rcIn; rw [if_neg hk]; simp only [List.append_assoc, List.nil_append]
      simp (disch := (first | omega | decide | (simp only [World.size_alloc, World.size_setCell, World.size_drew, size_sets, List.mem_cons, List.not_mem_nil, or_false, not_false_eq_true] <;> omega) | fail)) only [↓rsRec2_2, rsRec2_1, Option.isNone_some, Option.isNone_none, tick_eq, tickV_eq, ne_eq, Int.reduceAdd, Int.reduceSub, Int.reduceMul, Int.reduceEq, Int.reduceLT, Int.reduceLE, Int.reduceToNat, Nat.reduceMul, Nat.reduceAdd, Nat.reduceSub, List.nil_append, List.cons_append, List.getElem?_toArray, List.getElem?_cons_zero, List.getElem?_cons_succ, List.setIfInBounds_toArray, List.set_cons_zero, List.set_cons_succ, Option.map_some, List.not_mem_nil, ←decide_not, d1, d2, d3, m1, m0, dk]
      refine rrec_tail r a c _ y3 _ w.heap.size v3 _ hdata (by simp only [List.length_append]; omega) hca (hrow.ext0 X0) hnil k4 N3 fun u w' h => fin u w' ?_
      rw [← eL] at h
      exact h
end Go.Proofs.Ytknineilpenbnaa
