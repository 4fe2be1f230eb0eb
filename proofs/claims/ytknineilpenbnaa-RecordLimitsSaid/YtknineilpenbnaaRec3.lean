/- Records read: parse, Decode, Same (sq). -/
import Derived.Test.YtknineilpenbnaaRec2
set_option linter.unusedVariables false
set_option linter.unusedSimpArgs false
set_option maxHeartbeats 4000000
namespace Go.Proofs.Ytknineilpenbnaa
open Go.Sh Go.RowKit

theorem row_ne {w : World} {a : Option Addr} {l : List (BitVec 8)} {g : Nat} {e : TypeId} {cs : List Value} (h : RowAt w a (bys l)) (hB : Blk w g e cs) (hc : ∀ c ∈ cs, ∀ z, c ≠ .int .u8 z) : l ≠ [] → ∀ b o, a = some ⟨b, o, none⟩ → b ∉ [g] := by
  intro hne b o ha hb
  simp only [List.mem_singleton] at hb
  subst hb
  obtain ⟨b', o', e', _, hcell⟩ := h.get (by simpa using hne)
  rw [ha] at e'; cases e'
  cases l with
  | nil => exact hne rfl
  | cons x l =>
    have h1 := hcell 0 _ rfl
    rw [hB.cell] at h1
    exact hc _ (List.mem_of_getElem? h1) _ rfl
/-- a record that is read: its data lie in a new row -/
def RecIs (w w' : World) (u : Value) (r : RC) : Prop := Ext [] w w' ∧ ∃ a c, u = rcV r a c ∧ r.data.length ≤ c ∧ (a = none → c = 0) ∧ RowAt w' a (bys r.data) ∧ ∀ x, a = some x → w.heap.size ≤ x.block ∧ x.block < w'.heap.size
abbrev rc0 : List Value := [i64 0, c64 0, i64 0, i64 0, .slice none 0 0]
abbrev rsRec3_0 := (And.intro @xBox_r (And.intro @loadK_some (And.intro @loadsK_s (And.intro @loadsK_n (And.intro @loadsR_s (And.intro @loadsR_n (And.intro @storesK_s (And.intro @storesK_n (And.intro @xPick_t (And.intro @xPick_f (And.intro @xGuard_tt (And.intro @xGuard_ff (And.intro @xGuard_tf (And.intro @xGuard_ft (And.intro @xGuard_u 
  (And.intro @xNil_r (And.intro @xIf_t (And.intro @xBin_add' (And.intro @xBin_sub' (And.intro @xBin_mul' (And.intro @xBin_quo' (And.intro @xBin_rem' (And.intro @xIf_f (And.intro @xIf_tt (And.intro @xEx0 (And.intro @xEx1 (And.intro @xEx2 (And.intro @xEx3 (And.intro @xBin_eqs (And.intro @xBin_nes (And.intro @xUn_not (And.intro @xMakeFunc_r (And.intro @xSq_r 
  (And.intro @xPur_s (And.intro @xRd_s (And.intro @xRe_s (And.intro @xDet_s (And.intro @xDet_ld (And.intro @xDet_ld2 (And.intro @xDet_ld3 (And.intro @xDet_ld4 (And.intro @xGuard_tt (And.intro @ld_27 (And.intro @lr_27 (And.intro @fa_27_3 (And.intro @st_25 @st_27))))))))))))))))))))))))))))))))))))))))))))))
abbrev rsRec3_1 := (And.intro @setCells_c (And.intro @setCells_n (And.intro @World.setCell_alloc_at (And.intro @World.setCell_alloc_past (And.intro @World.cell?_alloc_at (And.intro @World.cell?_alloc_past (And.intro @World.frozen?_alloc_at (And.intro @World.frozen?_alloc_past 
  (And.intro @World.size_alloc (And.intro @dlt_t (And.intro @dlt_f (And.intro @dle_t (And.intro @dle_f (And.intro @deq_t (And.intro @deq_f (And.intro @dne_t (And.intro @dne_f (And.intro @not_true_eq_false (And.intro @Bool.false_and (And.intro @Bool.true_and (And.intro @Bool.and_true (And.intro @Bool.and_false (And.intro @wrap_in (And.intro @Int.toNat_natCast 
  (And.intro @Nat.mul_one (And.intro @cells_int (And.intro @cells_bool (And.intro @cells_string (And.intro @cells_slice (And.intro @cells_pointer (And.intro @cells_agg (And.intro @one_int (And.intro @one_bool (And.intro @one_string (And.intro @one_slice (And.intro @one_pointer (And.intro @beq_tt (And.intro @beq_ff (And.intro @beq_tf 
  (And.intro @beq_ft (And.intro @cell_sets_b (And.intro @frozen_sets (And.intro @size_sets (And.intro @World.size_drew (And.intro @Nat.zero_add (And.intro @Nat.add_zero (And.intro @cell_drew (And.intro @frozen_drew (And.intro @cell_set_eq (And.intro @cell_set_o (And.intro @cell_set_b (And.intro @World.frozen?_setCell 
  (And.intro @decide_true (And.intro @decide_false (And.intro @not_false_eq_true (And.intro @Bool.not_true @Bool.not_false))))))))))))))))))))))))))))))))))))))))))))))))))))))))
theorem parse_tail (r : RC) (w y : World) (K : K1) (g2 g4 gd : Nat) (ad : Option Addr) (cd : Nat) (rest : List (BitVec 8)) (hdata : r.data.length ≤ 5000) (h2 : w.heap.size ≤ g2) (h4 : w.heap.size ≤ g4) (hd : w.heap.size ≤ gd) (n24 : g2 ≠ g4) (n2d : g2 ≠ gd) (n4d : g4 ≠ gd)
    (X : Ext [] w y) (B2 : Blk y g2 27 rc0) (B4 : Blk y g4 27 [i64 r.kind, u64 r.tx, i64 r.sp, i64 r.no, .slice none 0 0]) (D : DecIs y gd ad cd (uintB (BitVec.ofNat 64 r.data.length) ++ (r.data ++ rest)) 0)
    (hK : ∀ u w', RecIs w w' u r → K u w') : rec_parse_j1 K (ptr g2) (ptr gd) (ptr g4) y := by
  unfold rec_parse_j1
  refine codec_Dec_Raw_call (Yld.mono (Dec_Raw_spec D) ?_)
  intro u1 y1 hR
  rw [decRaw_enc _ _ (by omega)] at hR
  obtain ⟨⟨a1, c1, rfl, q1, q2, q3, q4⟩, F1, _⟩ := hR
  have X1 : Ext [] w y1 := X.new F1 (by simpa using hd)
  have B21 := B2.ext F1 (by simpa using n2d)
  have B41 := B4.ext F1 (by simpa using n4d)
  have k2 := fun i => B21.cell (i := i)
  have f2 := fun i => B21.frozen (i := i)
  have k4 := fun i => B41.cell (i := i)
  have f4 := fun i => B41.frozen (i := i)
  have hz := X.size
  have hz1 := F1.size
  have hlt4 := B4.lt
  have hlt2 := B2.lt
  simp (disch := (first | omega | decide | (simp only [World.size_alloc, World.size_setCell, World.size_drew, size_sets, List.mem_cons, List.not_mem_nil, or_false, not_false_eq_true] <;> omega) | fail)) only [↓rsRec3_0, rsRec3_1, Option.isNone_some, Option.isNone_none, tick_eq, tickV_eq, ne_eq, Int.reduceAdd, Int.reduceSub, Int.reduceMul, Int.reduceEq, Int.reduceLT, Int.reduceLE, Int.reduceToNat, Nat.reduceMul, Nat.reduceAdd, Nat.reduceSub, List.nil_append, List.cons_append, List.getElem?_toArray, List.getElem?_cons_zero, List.getElem?_cons_succ, List.setIfInBounds_toArray, List.set_cons_zero, List.set_cons_succ, Option.map_some, List.not_mem_nil, ←decide_not, k2, f2, k4, f4]
  refine hK _ _ ⟨(((((X1.set' (.inr h4)).set' (.inr h2)).set' (.inr h2)).set' (.inr h2)).set' (.inr h2)).set' (.inr h2), a1, c1, rfl, q1, q2, ?_, fun x hx => ⟨?_, ?_⟩⟩
  · have n2 := row_ne q3 B21 (by simp)
    have n4 := row_ne q3 B41 (by simp)
    by_cases hne : r.data = []
    · rw [hne]; exact RowAt.nil
    · have n2' := n2 hne
      have n4' := n4 hne
      refine q3.ext (M := [g4, g2]) ((((((Ext.set (b := g4) (o := 4)).more (by simp)).set' (.inl (by simp))).set' (.inl (by simp))).set' (.inl (by simp))).set' (.inl (by simp)) |>.set' (.inl (by simp))) fun b o e => ?_
      have := n2' b o e
      have := n4' b o e
      simp at *
      omega
  · have := (q4 x hx).1; omega
  · have := (q4 x hx).2; simpa using this
abbrev rsRec3_2 := (And.intro @xBox_r (And.intro @loadK_some (And.intro @loadsK_s (And.intro @loadsK_n (And.intro @loadsR_s (And.intro @loadsR_n (And.intro @storesK_s (And.intro @storesK_n (And.intro @xPick_t (And.intro @xPick_f (And.intro @xGuard_tt (And.intro @xGuard_ff (And.intro @xGuard_tf (And.intro @xGuard_ft (And.intro @xGuard_u 
  (And.intro @xNil_r (And.intro @xIf_t (And.intro @xBin_add' (And.intro @xBin_sub' (And.intro @xBin_mul' (And.intro @xBin_quo' (And.intro @xBin_rem' (And.intro @xIf_f (And.intro @xIf_tt (And.intro @xEx0 (And.intro @xEx1 (And.intro @xEx2 (And.intro @xEx3 (And.intro @xBin_eqs (And.intro @xBin_nes (And.intro @xUn_not (And.intro @xu8_eql (And.intro @xu16_eql 
  (And.intro @xu32_eql (And.intro @xu64_eql (And.intro @xi64_eql (And.intro @xMakeFunc_r (And.intro @xSq_r (And.intro @xPur_s (And.intro @xRd_s (And.intro @xRe_s (And.intro @xDet_s (And.intro @xDet_ld (And.intro @xDet_ld2 (And.intro @xDet_ld3 (And.intro @xDet_ld4 (And.intro @xGuard_tt (And.intro @ld_3 (And.intro @fa_27_0 (And.intro @fa_27_2 (And.intro @al_27 
  (And.intro @st_24 (And.intro @st_27 (And.intro @bd_24_0_1 (And.intro @bd_24 (And.intro @bd_27_0_1_2_3 (And.intro @bd_27_0_2_3 (And.intro @bd_27_0_1 (And.intro @bd_27 @cv_22_3)))))))))))))))))))))))))))))))))))))))))))))))))))))))))))
theorem parse_spec (r : RC) (a : Option Addr) (n c : Nat) (w : World) (hok : RcOk r) (hdata : r.data.length ≤ 5000) (hn : n = (rcIn r).length) (hrow : RowAt w a (bys (rcIn r))) (hnil : a = none → c = 0) : Yld Try.prog n_rec_parse #[.slice a n c] w fun u w' => RecIs w w' u r := by
  refine rec_parse_of ?_
  unfold rec_parse
  simp (disch := (first | omega | decide | (simp only [World.size_alloc, World.size_setCell, World.size_drew, size_sets, List.mem_cons, List.not_mem_nil, or_false, not_false_eq_true] <;> omega) | fail)) only [↓rsRec3_2, rsRec3_1, Option.isNone_some, Option.isNone_none, tick_eq, tickV_eq, ne_eq, Int.reduceAdd, Int.reduceSub, Int.reduceMul, Int.reduceEq, Int.reduceLT, Int.reduceLE, Int.reduceToNat, Nat.reduceMul, Nat.reduceAdd, Nat.reduceSub, List.nil_append, List.cons_append, List.getElem?_toArray, List.getElem?_cons_zero, List.getElem?_cons_succ, List.setIfInBounds_toArray, List.set_cons_zero, List.set_cons_succ, Option.map_some, List.not_mem_nil, ←decide_not, eq_self]
  have hin := rcIn_le hdata
  have X0 : Ext [] w (w.alloc (.cells rc0.toArray 27)) := Ext.alloc _ _ _
  have B0 : Blk (w.alloc (.cells rc0.toArray 27)) w.heap.size 27 rc0 := Blk.at rfl
  refine codec_Of_call (Yld.mono (Dec_Of_spec (rcIn r) a n c _ hn (by omega) (hrow.ext0 X0) hnil) ?_)
  rintro u1 y1 ⟨F1, gd, ad, cd, rfl, hgd, D1⟩
  rw [World.size_alloc] at hgd
  have B1 := B0.ext F1 (by simp)
  have X1 := X0.trans F1
  have hz1 := X1.size
  have hlt1 := B1.lt
  unfold rcIn at D1
  simp (disch := (first | omega | decide | (simp only [World.size_alloc, World.size_setCell, World.size_drew, size_sets, List.mem_cons, List.not_mem_nil, or_false, not_false_eq_true] <;> omega) | fail)) only [↓rsRec3_2, rsRec3_1, Option.isNone_some, Option.isNone_none, tick_eq, tickV_eq, ne_eq, Int.reduceAdd, Int.reduceSub, Int.reduceMul, Int.reduceEq, Int.reduceLT, Int.reduceLE, Int.reduceToNat, Nat.reduceMul, Nat.reduceAdd, Nat.reduceSub, List.nil_append, List.cons_append, List.getElem?_toArray, List.getElem?_cons_zero, List.getElem?_cons_succ, List.setIfInBounds_toArray, List.set_cons_zero, List.set_cons_succ, Option.map_some, List.not_mem_nil, ←decide_not, eq_self]
  refine codec_Dec_Uint_call (Yld.mono (Dec_Uint_spec D1) ?_)
  intro u2 y2 hR2
  rw [dec_enc] at hR2
  obtain ⟨rfl, F2, ad2, cd2, D2⟩ := hR2
  have hgdl := D1.blk.lt
  have B2 := B1.ext F2 (by simp; omega)
  have X2 : Ext [] w y2 := X1.new F2 (by simp; omega)
  have ek := ofInt_small (n := r.kind) (by have := hok.1; omega) (by have := hok.2.1; omega)
  simp (disch := (first | omega | decide | (simp only [World.size_alloc, World.size_setCell, World.size_drew, size_sets, List.mem_cons, List.not_mem_nil, or_false, not_false_eq_true] <;> omega) | fail)) only [↓rsRec3_2, rsRec3_1, Option.isNone_some, Option.isNone_none, tick_eq, tickV_eq, ne_eq, Int.reduceAdd, Int.reduceSub, Int.reduceMul, Int.reduceEq, Int.reduceLT, Int.reduceLE, Int.reduceToNat, Nat.reduceMul, Nat.reduceAdd, Nat.reduceSub, List.nil_append, List.cons_append, List.getElem?_toArray, List.getElem?_cons_zero, List.getElem?_cons_succ, List.setIfInBounds_toArray, List.set_cons_zero, List.set_cons_succ, Option.map_some, List.not_mem_nil, ←decide_not, ek]
  refine codec_Dec_Uint_call (Yld.mono (Dec_Uint_spec D2) ?_)
  intro u3 y3 hR3
  rw [dec_enc] at hR3
  obtain ⟨rfl, F3, ad3, cd3, D3⟩ := hR3
  have B3 := B2.ext F3 (by simp; omega)
  have X3 : Ext [] w y3 := X2.new F3 (by simp; omega)
  have hz3 := F3.size
  have hz2 := F2.size
  have hlt3 := D3.blk.lt
  have hl3 := B3.lt
  have D4 := D3.ext0 (Ext.alloc [] y3 (.cells [i64 r.kind, u64 r.tx, i64 0, i64 0, .slice none 0 0].toArray 27))
  have B4 := B3.ext (Ext.alloc [] y3 (.cells [i64 r.kind, u64 r.tx, i64 0, i64 0, .slice none 0 0].toArray 27)) (by simp)
  have T4 : Blk (y3.alloc (.cells [i64 r.kind, u64 r.tx, i64 0, i64 0, .slice none 0 0].toArray 27)) y3.heap.size 27 [i64 r.kind, u64 r.tx, i64 0, i64 0, .slice none 0 0] := Blk.at rfl
  have X4 : Ext [] w (y3.alloc (.cells [i64 r.kind, u64 r.tx, i64 0, i64 0, .slice none 0 0].toArray 27)) := X3.alloc' _
  by_cases hk : r.kind = 1
  · have dk : decide (r.kind = 1) = true := decide_eq_true hk
    rw [if_pos hk] at D4
    simp (disch := (first | omega | decide | (simp only [World.size_alloc, World.size_setCell, World.size_drew, size_sets, List.mem_cons, List.not_mem_nil, or_false, not_false_eq_true] <;> omega) | fail)) only [↓rsRec3_2, rsRec3_1, Option.isNone_some, Option.isNone_none, tick_eq, tickV_eq, ne_eq, Int.reduceAdd, Int.reduceSub, Int.reduceMul, Int.reduceEq, Int.reduceLT, Int.reduceLE, Int.reduceToNat, Nat.reduceMul, Nat.reduceAdd, Nat.reduceSub, List.nil_append, List.cons_append, List.getElem?_toArray, List.getElem?_cons_zero, List.getElem?_cons_succ, List.setIfInBounds_toArray, List.set_cons_zero, List.set_cons_succ, Option.map_some, List.not_mem_nil, ←decide_not, ek, dk]
    have hsz4 : (y3.alloc (.cells [i64 r.kind, u64 r.tx, i64 0, i64 0, .slice none 0 0].toArray 27)).heap.size = y3.heap.size + 1 := by simp
    generalize (y3.alloc (.cells [i64 r.kind, u64 r.tx, i64 0, i64 0, .slice none 0 0].toArray 27)) = y4 at *
    rw [List.append_assoc] at D4
    refine codec_Dec_Uint_call (Yld.mono (Dec_Uint_spec D4) ?_)
    intro u5 y5 hR5
    rw [dec_enc] at hR5
    obtain ⟨rfl, F5, ad5, cd5, D5⟩ := hR5
    have es := ofInt_small (n := r.sp) (by have := hok.2.2.2.1; omega) (by have := hok.2.2.2.2.1; omega)
    simp (disch := (first | omega | decide | (simp only [World.size_alloc, World.size_setCell, World.size_drew, size_sets, List.mem_cons, List.not_mem_nil, or_false, not_false_eq_true] <;> omega) | fail)) only [↓rsRec3_2, rsRec3_1, Option.isNone_some, Option.isNone_none, tick_eq, tickV_eq, ne_eq, Int.reduceAdd, Int.reduceSub, Int.reduceMul, Int.reduceEq, Int.reduceLT, Int.reduceLE, Int.reduceToNat, Nat.reduceMul, Nat.reduceAdd, Nat.reduceSub, List.nil_append, List.cons_append, List.getElem?_toArray, List.getElem?_cons_zero, List.getElem?_cons_succ, List.setIfInBounds_toArray, List.set_cons_zero, List.set_cons_succ, Option.map_some, List.not_mem_nil, ←decide_not, ek, dk, es]
    refine codec_Dec_Uint_call (Yld.mono (Dec_Uint_spec D5) ?_)
    intro u6 y6 hR6
    rw [dec_enc] at hR6
    obtain ⟨rfl, F6, ad6, cd6, D6⟩ := hR6
    have eo := ofInt_small (n := r.no) (by have := hok.2.2.2.2.2.1; omega) (by have := hok.2.2.2.2.2.2; omega)
    have B6 := (B4.ext F5 (by simp; omega)).ext F6 (by simp; omega)
    have T6 := (T4.ext F5 (by simp; omega)).ext F6 (by simp; omega)
    have X6 : Ext [] w y6 := (X4.new F5 (by simp; omega)).new F6 (by simp; omega)
    have k6 := fun i => T6.cell (i := i)
    have f6 := fun i => T6.frozen (i := i)
    simp (disch := (first | omega | decide | (simp only [World.size_alloc, World.size_setCell, World.size_drew, size_sets, List.mem_cons, List.not_mem_nil, or_false, not_false_eq_true] <;> omega) | fail)) only [↓rsRec3_2, rsRec3_1, Option.isNone_some, Option.isNone_none, tick_eq, tickV_eq, ne_eq, Int.reduceAdd, Int.reduceSub, Int.reduceMul, Int.reduceEq, Int.reduceLT, Int.reduceLE, Int.reduceToNat, Nat.reduceMul, Nat.reduceAdd, Nat.reduceSub, List.nil_append, List.cons_append, List.getElem?_toArray, List.getElem?_cons_zero, List.getElem?_cons_succ, List.setIfInBounds_toArray, List.set_cons_zero, List.set_cons_succ, Option.map_some, List.not_mem_nil, ←decide_not, ek, dk, es, eo, k6, f6]
    have T7 := (T6.set (i := 2) (v := i64 r.sp)).set (i := 2 + 1) (v := i64 r.no)
    have E7 : Ext [y3.heap.size] y6 ((y6.setCell ⟨y3.heap.size, 2, none⟩ (i64 r.sp)).setCell ⟨y3.heap.size, 2 + 1, none⟩ (i64 r.no)) := (Ext.set.set' (.inl (by simp)))
    refine parse_tail r w _ _ w.heap.size y3.heap.size gd ad6 cd6 [] hdata (Nat.le_refl _) (by omega) (by omega) (by omega) (by omega) (by omega) (X6.new E7 (by simp; omega)) (B6.ext E7 (by simp; omega)) T7 ?_ fun u w' h => h
    rw [List.append_nil]
    exact D6.ext E7 (by simp; omega) (row_ne D6.row T6 (by simp))
  · have dk : decide (r.kind = 1) = false := decide_eq_false hk
    rw [if_neg hk] at D4
    have h0 := hok.2.2.1 hk
    simp (disch := (first | omega | decide | (simp only [World.size_alloc, World.size_setCell, World.size_drew, size_sets, List.mem_cons, List.not_mem_nil, or_false, not_false_eq_true] <;> omega) | fail)) only [↓rsRec3_2, rsRec3_1, Option.isNone_some, Option.isNone_none, tick_eq, tickV_eq, ne_eq, Int.reduceAdd, Int.reduceSub, Int.reduceMul, Int.reduceEq, Int.reduceLT, Int.reduceLE, Int.reduceToNat, Nat.reduceMul, Nat.reduceAdd, Nat.reduceSub, List.nil_append, List.cons_append, List.getElem?_toArray, List.getElem?_cons_zero, List.getElem?_cons_succ, List.setIfInBounds_toArray, List.set_cons_zero, List.set_cons_succ, Option.map_some, List.not_mem_nil, ←decide_not, ek, dk]
    refine parse_tail r w _ _ w.heap.size y3.heap.size gd ad3 cd3 [] hdata (Nat.le_refl _) (by omega) (by omega) (by omega) (by omega) (by omega) X4 B4 (by rw [h0.1, h0.2]; exact T4) ?_ fun u w' h => h
    rw [List.append_nil]
    exact D4
end Go.Proofs.Ytknineilpenbnaa
