/- Records read: Decode, Same, all of them (sq). -/
import Derived.Test.YtknineilpenbnaaRec3
set_option linter.unusedVariables false
set_option linter.unusedSimpArgs false
set_option maxHeartbeats 4000000
namespace Go.Proofs.Ytknineilpenbnaa
open Go.Sh Go.RowKit

def DecR (w w' : World) (u : Value) (r : RC) (n : Int) : Prop := Ext [] w w' ∧ ∃ a c, u = .tuple #[rcV r a c, i64 n, i64 0] ∧ r.data.length ≤ c ∧ (a = none → c = 0) ∧ RowAt w' a (bys r.data) ∧ ∀ x, a = some x → w.heap.size ≤ x.block ∧ x.block < w'.heap.size
abbrev rsRec4_0 := (And.intro @xBox_r (And.intro @loadK_some (And.intro @loadsK_s (And.intro @loadsK_n (And.intro @loadsR_s (And.intro @loadsR_n (And.intro @storesK_s (And.intro @storesK_n (And.intro @xPick_t (And.intro @xPick_f (And.intro @xGuard_tt (And.intro @xGuard_ff (And.intro @xGuard_tf (And.intro @xGuard_ft (And.intro @xGuard_u 
  (And.intro @xNil_r (And.intro @xIf_t (And.intro @xBin_add' (And.intro @xBin_sub' (And.intro @xBin_mul' (And.intro @xBin_quo' (And.intro @xBin_rem' (And.intro @xIf_f (And.intro @xIf_tt (And.intro @xEx0 (And.intro @xEx1 (And.intro @xEx2 (And.intro @xEx3 (And.intro @xBin_eqs (And.intro @xBin_nes (And.intro @xUn_not (And.intro @xu8_sub (And.intro @xu8_com 
  (And.intro @xu8_neq (And.intro @xu8_lss (And.intro @xu16_sub (And.intro @xu16_com (And.intro @xu16_neq (And.intro @xu16_lss (And.intro @xu32_sub (And.intro @xu32_com (And.intro @xu32_neq (And.intro @xu32_lss (And.intro @xu64_sub (And.intro @xu64_com (And.intro @xu64_neq (And.intro @xu64_lss (And.intro @xi64_lss (And.intro @xi64_neq (And.intro @xi64_neg 
  (And.intro @xMakeFunc_r (And.intro @xSq_r (And.intro @xPur_s (And.intro @xRd_s (And.intro @xRe_s (And.intro @xDet_s (And.intro @xDet_ld (And.intro @xDet_ld2 (And.intro @xDet_ld3 (And.intro @xDet_ld4 (And.intro @xGuard_tt (And.intro @ld_27 (And.intro @lr_27 (And.intro @al_27 (And.intro @st_27 (And.intro @bd_27_0_1_2_3 (And.intro @bd_27_0_2_3 (And.intro @bd_27_0_1 
  (And.intro @bd_27 (And.intro @ln_25 (And.intro @sh_25 (And.intro @sl_25 @sm_25))))))))))))))))))))))))))))))))))))))))))))))))))))))))))))))))))))))))
abbrev rsRec4_1 := (And.intro @setCells_c (And.intro @setCells_n (And.intro @World.setCell_alloc_at (And.intro @World.setCell_alloc_past (And.intro @World.cell?_alloc_at (And.intro @World.cell?_alloc_past (And.intro @World.frozen?_alloc_at (And.intro @World.frozen?_alloc_past 
  (And.intro @World.size_alloc (And.intro @dlt_t (And.intro @dlt_f (And.intro @dle_t (And.intro @dle_f (And.intro @deq_t (And.intro @deq_f (And.intro @dne_t (And.intro @dne_f (And.intro @not_true_eq_false (And.intro @Bool.false_and (And.intro @Bool.true_and (And.intro @Bool.and_true (And.intro @Bool.and_false (And.intro @wrap_in (And.intro @Int.toNat_natCast 
  (And.intro @Nat.mul_one (And.intro @cells_int (And.intro @cells_bool (And.intro @cells_string (And.intro @cells_slice (And.intro @cells_pointer (And.intro @cells_agg (And.intro @one_int (And.intro @one_bool (And.intro @one_string (And.intro @one_slice (And.intro @one_pointer (And.intro @beq_tt (And.intro @beq_ff (And.intro @beq_tf 
  (And.intro @beq_ft (And.intro @cell_sets_b (And.intro @frozen_sets (And.intro @size_sets (And.intro @World.size_drew (And.intro @Nat.zero_add (And.intro @Nat.add_zero (And.intro @cell_drew (And.intro @frozen_drew (And.intro @cell_set_eq (And.intro @cell_set_o (And.intro @cell_set_b (And.intro @World.frozen?_setCell 
  (And.intro @decide_true (And.intro @decide_false (And.intro @not_false_eq_true (And.intro @Bool.not_true @Bool.not_false))))))))))))))))))))))))))))))))))))))))))))))))))))))))
theorem rec_Decode_spec (r : RC) (rest : List (BitVec 8)) (a : Option Addr) (n c : Nat) (w : World) (he : rcErr r = 0) (hr : rest.length ≤ 200000) (hn : n = (rcOut r ++ rest).length) (hnc : n ≤ c) (hrow : RowAt w a (bys (rcOut r ++ rest))) (hnil : a = none → c = 0) :
    Yld Try.prog n_rec_Decode #[.slice a n c] w fun u w' => DecR w w' u r (rcOut r).length := by
  obtain ⟨hok, hd4⟩ := rcErr_0 he
  have hdata : r.data.length ≤ 5000 := by omega
  have hin := rcIn_le hdata
  have hout := rcOut_le hdata
  have hsl := sealV_length (rcIn r)
  have hipos := rcIn_pos r
  refine rec_Decode_of ?_
  unfold rec_Decode
  simp (disch := (first | omega | decide | (simp only [World.size_alloc, World.size_setCell, World.size_drew, size_sets, List.mem_cons, List.not_mem_nil, or_false, not_false_eq_true] <;> omega) | fail)) only [↓rsRec4_0, rsRec4_1, Option.isNone_some, Option.isNone_none, tick_eq, tickV_eq, ne_eq, Int.reduceAdd, Int.reduceSub, Int.reduceMul, Int.reduceEq, Int.reduceLT, Int.reduceLE, Int.reduceToNat, Nat.reduceMul, Nat.reduceAdd, Nat.reduceSub, List.nil_append, List.cons_append, List.getElem?_toArray, List.getElem?_cons_zero, List.getElem?_cons_succ, List.setIfInBounds_toArray, List.set_cons_zero, List.set_cons_succ, Option.map_some, List.not_mem_nil, ←decide_not, eq_self]
  have X0 : Ext [] w (w.alloc (.cells rc0.toArray 27)) := Ext.alloc _ _ _
  have B0 : Blk (w.alloc (.cells rc0.toArray 27)) w.heap.size 27 rc0 := Blk.at rfl
  refine codec_Of_call (Yld.mono (Dec_Of_spec (rcOut r ++ rest) a n c _ hn (by rw [List.length_append]; omega) (hrow.ext0 X0) hnil) ?_)
  rintro u1 y1 ⟨F1, gd, ad, cd, rfl, hgd, D1⟩
  rw [World.size_alloc] at hgd
  have B1 := B0.ext F1 (by simp)
  have X1 := X0.trans F1
  unfold rcOut at D1
  rw [List.append_assoc] at D1
  simp (disch := (first | omega | decide | (simp only [World.size_alloc, World.size_setCell, World.size_drew, size_sets, List.mem_cons, List.not_mem_nil, or_false, not_false_eq_true] <;> omega) | fail)) only [↓rsRec4_0, rsRec4_1, Option.isNone_some, Option.isNone_none, tick_eq, tickV_eq, ne_eq, Int.reduceAdd, Int.reduceSub, Int.reduceMul, Int.reduceEq, Int.reduceLT, Int.reduceLE, Int.reduceToNat, Nat.reduceMul, Nat.reduceAdd, Nat.reduceSub, List.nil_append, List.cons_append, List.getElem?_toArray, List.getElem?_cons_zero, List.getElem?_cons_succ, List.setIfInBounds_toArray, List.set_cons_zero, List.set_cons_succ, Option.map_some, List.not_mem_nil, ←decide_not, eq_self]
  refine codec_Dec_Raw_call (Yld.mono (Dec_Raw_spec D1) ?_)
  intro u2 y2 hR2
  rw [decRaw_enc _ _ (by omega)] at hR2
  obtain ⟨⟨a2, c2, rfl, q1, q2, q3, q4⟩, F2, ad2, cd2, D2⟩ := hR2
  have hgl := D1.blk.lt
  have B2 := B1.ext F2 (by simp; omega)
  have X2 : Ext [] w y2 := X1.new F2 (by simp; omega)
  simp (disch := (first | omega | decide | (simp only [World.size_alloc, World.size_setCell, World.size_drew, size_sets, List.mem_cons, List.not_mem_nil, or_false, not_false_eq_true] <;> omega) | fail)) only [↓rsRec4_0, rsRec4_1, Option.isNone_some, Option.isNone_none, tick_eq, tickV_eq, ne_eq, Int.reduceAdd, Int.reduceSub, Int.reduceMul, Int.reduceEq, Int.reduceLT, Int.reduceLE, Int.reduceToNat, Nat.reduceMul, Nat.reduceAdd, Nat.reduceSub, List.nil_append, List.cons_append, List.getElem?_toArray, List.getElem?_cons_zero, List.getElem?_cons_succ, List.setIfInBounds_toArray, List.set_cons_zero, List.set_cons_succ, Option.map_some, List.not_mem_nil, ←decide_not, eq_self]
  refine codec_Dec_Err_call (Gives.to (Dec_Err_spec D2) fun y3 F3 => ?_)
  simp (disch := (first | omega | decide | (simp only [World.size_alloc, World.size_setCell, World.size_drew, size_sets, List.mem_cons, List.not_mem_nil, or_false, not_false_eq_true] <;> omega) | fail)) only [↓rsRec4_0, rsRec4_1, Option.isNone_some, Option.isNone_none, tick_eq, tickV_eq, ne_eq, Int.reduceAdd, Int.reduceSub, Int.reduceMul, Int.reduceEq, Int.reduceLT, Int.reduceLE, Int.reduceToNat, Nat.reduceMul, Nat.reduceAdd, Nat.reduceSub, List.nil_append, List.cons_append, List.getElem?_toArray, List.getElem?_cons_zero, List.getElem?_cons_succ, List.setIfInBounds_toArray, List.set_cons_zero, List.set_cons_succ, Option.map_some, List.not_mem_nil, ←decide_not, hsl]
  refine codec_Dec_Left_call (Gives.to (Dec_Left_spec (D2.ext0 F3)) fun y4 F4 => ?_)
  have hlen : (rcOut r ++ rest).length = (rcOut r).length + rest.length := List.length_append
  have en : (n : Int) - rest.length = (rcOut r).length := by omega
  simp (disch := (first | omega | decide | (simp only [World.size_alloc, World.size_setCell, World.size_drew, size_sets, List.mem_cons, List.not_mem_nil, or_false, not_false_eq_true] <;> omega) | fail)) only [↓rsRec4_0, rsRec4_1, Option.isNone_some, Option.isNone_none, tick_eq, tickV_eq, ne_eq, Int.reduceAdd, Int.reduceSub, Int.reduceMul, Int.reduceEq, Int.reduceLT, Int.reduceLE, Int.reduceToNat, Nat.reduceMul, Nat.reduceAdd, Nat.reduceSub, List.nil_append, List.cons_append, List.getElem?_toArray, List.getElem?_cons_zero, List.getElem?_cons_succ, List.setIfInBounds_toArray, List.set_cons_zero, List.set_cons_succ, Option.map_some, List.not_mem_nil, ←decide_not, hsl, en]
  have e4 : ((rcIn r).length + 4 : Int) - 4 = (rcIn r).length := by omega
  have X4 := (X2.trans F3).trans F4
  have R4 : RowAt y4 a2 (bys (rcIn r)) := by
    have := ((q3.ext0 F3).ext0 F4).take (rcIn r).length
    rwa [bys, ← List.map_take, show (sealV (rcIn r)).take (rcIn r).length = rcIn r from List.take_left' rfl] at this
  refine rec_parse_call (Yld.mono (parse_spec r a2 _ c2 y4 hok hdata (by omega) R4 q2) ?_)
  rintro u5 y5 ⟨F5, a5, c5, rfl, p1, p2, p3, p4⟩
  have X5 := X4.trans F5
  have B5 := ((B2.ext F3 (by simp)).ext F4 (by simp)).ext F5 (by simp)
  have hz5 := X5.size
  have hz4 := X4.size
  simp (disch := (first | omega | decide | (simp only [World.size_alloc, World.size_setCell, World.size_drew, size_sets, List.mem_cons, List.not_mem_nil, or_false, not_false_eq_true] <;> omega) | fail)) only [↓rsRec4_0, rsRec4_1, Option.isNone_some, Option.isNone_none, tick_eq, tickV_eq, ne_eq, Int.reduceAdd, Int.reduceSub, Int.reduceMul, Int.reduceEq, Int.reduceLT, Int.reduceLE, Int.reduceToNat, Nat.reduceMul, Nat.reduceAdd, Nat.reduceSub, List.nil_append, List.cons_append, List.getElem?_toArray, List.getElem?_cons_zero, List.getElem?_cons_succ, List.setIfInBounds_toArray, List.set_cons_zero, List.set_cons_succ, Option.map_some, List.not_mem_nil, ←decide_not, hsl, en]
  have T6 : Blk (y5.alloc (.cells (rcC r a5 c5).toArray 27)) y5.heap.size 27 (rcC r a5 c5) := Blk.at rfl
  refine rec_Encode_call (Yld.mono (rec_Encode_spec r a5 c5 _ hdata (p3.ext0 (Ext.alloc _ _ _)) p2) ?_)
  rintro u7 y7 ⟨F7, a7, c7, rfl, t1, t2, t3, t4⟩
  have X7 := (X5.alloc' _).trans F7
  have eo : rcEnc r = rcOut r := if_pos he
  rw [eo] at t1 t3
  have R8 : RowAt y7 a (bys (rcOut r)) := by
    have := (hrow.ext0 X7).take (rcOut r).length
    rwa [bys, ← List.map_take, List.take_left' rfl] at this
  simp (disch := (first | omega | decide | (simp only [World.size_alloc, World.size_setCell, World.size_drew, size_sets, List.mem_cons, List.not_mem_nil, or_false, not_false_eq_true] <;> omega) | fail)) only [↓rsRec4_0, rsRec4_1, Option.isNone_some, Option.isNone_none, tick_eq, tickV_eq, ne_eq, Int.reduceAdd, Int.reduceSub, Int.reduceMul, Int.reduceEq, Int.reduceLT, Int.reduceLE, Int.reduceToNat, Nat.reduceMul, Nat.reduceAdd, Nat.reduceSub, List.nil_append, List.cons_append, List.getElem?_toArray, List.getElem?_cons_zero, List.getElem?_cons_succ, List.setIfInBounds_toArray, List.set_cons_zero, List.set_cons_succ, Option.map_some, List.not_mem_nil, ←decide_not, hsl, en, he, eo]
  refine bytes_Equal_call (Gives.to (Equal_spec (rcOut r) (rcOut r) a7 a _ _ c7 c y7 rfl (by simp) t3 R8) fun y8 F8 => ?_)
  have hd : decide (rcOut r = rcOut r) = true := decide_eq_true rfl
  have B8 := ((B5.ext (Ext.alloc [] y5 (.cells (rcC r a5 c5).toArray 27)) (by simp)).ext F7 (by simp)).ext F8 (by simp)
  have T8 := (T6.ext F7 (by simp)).ext F8 (by simp)
  have k8 := fun i => T8.cell (i := i)
  have b8 := fun i => B8.cell (i := i)
  have f8 := fun i => B8.frozen (i := i)
  have hne : y5.heap.size ≠ w.heap.size := by have := B5.lt; omega
  have R9 : RowAt y8 a5 (bys r.data) := (((p3.ext0 (Ext.alloc _ _ _)).ext0 F7).ext0 F8)
  have hz8 := F8.size
  have hz7 := F7.size
  rw [World.size_alloc] at hz7
  simp (disch := (first | omega | decide | (simp only [World.size_alloc, World.size_setCell, World.size_drew, size_sets, List.mem_cons, List.not_mem_nil, or_false, not_false_eq_true] <;> omega) | fail)) only [↓rsRec4_0, rsRec4_1, Option.isNone_some, Option.isNone_none, tick_eq, tickV_eq, ne_eq, Int.reduceAdd, Int.reduceSub, Int.reduceMul, Int.reduceEq, Int.reduceLT, Int.reduceLE, Int.reduceToNat, Nat.reduceMul, Nat.reduceAdd, Nat.reduceSub, List.nil_append, List.cons_append, List.getElem?_toArray, List.getElem?_cons_zero, List.getElem?_cons_succ, List.setIfInBounds_toArray, List.set_cons_zero, List.set_cons_succ, Option.map_some, List.not_mem_nil, ←decide_not, hsl, en, he, eo, hd, k8, b8, f8]
  refine ⟨(((((X7.trans F8).set' (.inr (by omega))).set' (.inr (by omega))).set' (.inr (by omega))).set' (.inr (by omega))).set' (.inr (by omega)), a5, c5, rfl, p1, p2, ?_, fun x hx => ⟨?_, ?_⟩⟩
  · refine R9.ext (M := [w.heap.size]) ((((Ext.set.set' (.inl (by simp))).set' (.inl (by simp))).set' (.inl (by simp))).set' (.inl (by simp))) fun b o e => ?_
    have := (p4 _ e).1
    have := B2.lt
    have hz34 := (F3.trans F4).size
    simp at *
    omega
  · have := (p4 x hx).1; omega
  · have := (p4 x hx).2; simp; omega
theorem rec_Decode_cut (r : RC) (a : Option Addr) (k n c : Nat) (w : World) (he : rcErr r = 0) (hk : k < (rcOut r).length) (hn : n = k) (hrow : RowAt w a (bys ((rcOut r).take k))) (hnil : a = none → c = 0) :
    Gives Try.prog n_rec_Decode #[.slice a n c] w (.tuple #[.agg rc0.toArray, i64 0, i64 3]) := by
  obtain ⟨hok, hd4⟩ := rcErr_0 he
  have hdata : r.data.length ≤ 5000 := by omega
  have hin := rcIn_le hdata
  have hout := rcOut_le hdata
  have hsl := sealV_length (rcIn r)
  refine rec_Decode_of ?_
  unfold rec_Decode
  simp (disch := (first | omega | decide | (simp only [World.size_alloc, World.size_setCell, World.size_drew, size_sets, List.mem_cons, List.not_mem_nil, or_false, not_false_eq_true] <;> omega) | fail)) only [↓rsRec4_0, rsRec4_1, Option.isNone_some, Option.isNone_none, tick_eq, tickV_eq, ne_eq, Int.reduceAdd, Int.reduceSub, Int.reduceMul, Int.reduceEq, Int.reduceLT, Int.reduceLE, Int.reduceToNat, Nat.reduceMul, Nat.reduceAdd, Nat.reduceSub, List.nil_append, List.cons_append, List.getElem?_toArray, List.getElem?_cons_zero, List.getElem?_cons_succ, List.setIfInBounds_toArray, List.set_cons_zero, List.set_cons_succ, Option.map_some, List.not_mem_nil, ←decide_not, eq_self]
  have X0 : Ext [] w (w.alloc (.cells rc0.toArray 27)) := Ext.alloc _ _ _
  have B0 : Blk (w.alloc (.cells rc0.toArray 27)) w.heap.size 27 rc0 := Blk.at rfl
  have hl : ((rcOut r).take k).length = k := by rw [List.length_take]; omega
  refine codec_Of_call (Yld.mono (Dec_Of_spec ((rcOut r).take k) a n c _ (by rw [hl]; exact hn) (by omega) (hrow.ext0 X0) hnil) ?_)
  rintro u1 y1 ⟨F1, gd, ad, cd, rfl, hgd, D1⟩
  rw [World.size_alloc] at hgd
  have B1 := B0.ext F1 (by simp)
  have X1 := X0.trans F1
  simp (disch := (first | omega | decide | (simp only [World.size_alloc, World.size_setCell, World.size_drew, size_sets, List.mem_cons, List.not_mem_nil, or_false, not_false_eq_true] <;> omega) | fail)) only [↓rsRec4_0, rsRec4_1, Option.isNone_some, Option.isNone_none, tick_eq, tickV_eq, ne_eq, Int.reduceAdd, Int.reduceSub, Int.reduceMul, Int.reduceEq, Int.reduceLT, Int.reduceLE, Int.reduceToNat, Nat.reduceMul, Nat.reduceAdd, Nat.reduceSub, List.nil_append, List.cons_append, List.getElem?_toArray, List.getElem?_cons_zero, List.getElem?_cons_succ, List.setIfInBounds_toArray, List.set_cons_zero, List.set_cons_succ, Option.map_some, List.not_mem_nil, ←decide_not, eq_self]
  refine codec_Dec_Raw_call (Yld.mono (Dec_Raw_spec D1) ?_)
  intro u2 y2 hR2
  rw [show (rcOut r).take k = (uintB (BitVec.ofNat 64 (sealV (rcIn r)).length) ++ sealV (rcIn r)).take k from rfl, decRaw_cut _ (by omega) hk] at hR2
  obtain ⟨⟨a2, c2, rfl, q1, q2, q3, q4⟩, F2, ad2, cd2, D2⟩ := hR2
  have hgl := D1.blk.lt
  have B2 := B1.ext F2 (by simp; omega)
  have X2 : Ext [] w y2 := X1.new F2 (by simp; omega)
  simp (disch := (first | omega | decide | (simp only [World.size_alloc, World.size_setCell, World.size_drew, size_sets, List.mem_cons, List.not_mem_nil, or_false, not_false_eq_true] <;> omega) | fail)) only [↓rsRec4_0, rsRec4_1, Option.isNone_some, Option.isNone_none, tick_eq, tickV_eq, ne_eq, Int.reduceAdd, Int.reduceSub, Int.reduceMul, Int.reduceEq, Int.reduceLT, Int.reduceLE, Int.reduceToNat, Nat.reduceMul, Nat.reduceAdd, Nat.reduceSub, List.nil_append, List.cons_append, List.getElem?_toArray, List.getElem?_cons_zero, List.getElem?_cons_succ, List.setIfInBounds_toArray, List.set_cons_zero, List.set_cons_succ, Option.map_some, List.not_mem_nil, ←decide_not, eq_self]
  refine codec_Dec_Err_call (Gives.to (Dec_Err_spec D2) fun y3 F3 => ?_)
  simp (disch := (first | omega | decide | (simp only [World.size_alloc, World.size_setCell, World.size_drew, size_sets, List.mem_cons, List.not_mem_nil, or_false, not_false_eq_true] <;> omega) | fail)) only [↓rsRec4_0, rsRec4_1, Option.isNone_some, Option.isNone_none, tick_eq, tickV_eq, ne_eq, Int.reduceAdd, Int.reduceSub, Int.reduceMul, Int.reduceEq, Int.reduceLT, Int.reduceLE, Int.reduceToNat, Nat.reduceMul, Nat.reduceAdd, Nat.reduceSub, List.nil_append, List.cons_append, List.getElem?_toArray, List.getElem?_cons_zero, List.getElem?_cons_succ, List.setIfInBounds_toArray, List.set_cons_zero, List.set_cons_succ, Option.map_some, List.not_mem_nil, ←decide_not, eq_self]
  refine codec_Dec_Err_call (Gives.to (Dec_Err_spec (D2.ext0 F3)) fun y4 F4 => ?_)
  have B4 := (B2.ext F3 (by simp)).ext F4 (by simp)
  have b4 := fun i => B4.cell (i := i)
  have f4 := fun i => B4.frozen (i := i)
  simp (disch := (first | omega | decide | (simp only [World.size_alloc, World.size_setCell, World.size_drew, size_sets, List.mem_cons, List.not_mem_nil, or_false, not_false_eq_true] <;> omega) | fail)) only [↓rsRec4_0, rsRec4_1, Option.isNone_some, Option.isNone_none, tick_eq, tickV_eq, ne_eq, Int.reduceAdd, Int.reduceSub, Int.reduceMul, Int.reduceEq, Int.reduceLT, Int.reduceLE, Int.reduceToNat, Nat.reduceMul, Nat.reduceAdd, Nat.reduceSub, List.nil_append, List.cons_append, List.getElem?_toArray, List.getElem?_cons_zero, List.getElem?_cons_succ, List.setIfInBounds_toArray, List.set_cons_zero, List.set_cons_succ, Option.map_some, List.not_mem_nil, ←decide_not, b4, f4]
  refine ⟨by trivial, ((((((X2.trans F3).trans F4).set' (.inr (Nat.le_refl _))).set' (.inr (Nat.le_refl _))).set' (.inr (Nat.le_refl _))).set' (.inr (Nat.le_refl _))).set' (.inr (Nat.le_refl _))⟩
abbrev rsRec4_2 := (And.intro @xBox_r (And.intro @loadK_some (And.intro @loadsK_s (And.intro @loadsK_n (And.intro @loadsR_s (And.intro @loadsR_n (And.intro @storesK_s (And.intro @storesK_n (And.intro @xPick_t (And.intro @xPick_f (And.intro @xGuard_tt (And.intro @xGuard_ff (And.intro @xGuard_tf (And.intro @xGuard_ft (And.intro @xGuard_u 
  (And.intro @xNil_r (And.intro @xIf_t (And.intro @xBin_add' (And.intro @xBin_sub' (And.intro @xBin_mul' (And.intro @xBin_quo' (And.intro @xBin_rem' (And.intro @xIf_f (And.intro @xIf_tt (And.intro @xEx0 (And.intro @xEx1 (And.intro @xEx2 (And.intro @xEx3 (And.intro @xBin_eqs (And.intro @xBin_nes (And.intro @xUn_not (And.intro @xu8_eql (And.intro @xu16_eql 
  (And.intro @xu32_eql (And.intro @xu64_eql (And.intro @xi64_eql (And.intro @xMakeFunc_r (And.intro @xSq_r (And.intro @xPur_s (And.intro @xRd_s (And.intro @xRe_s (And.intro @xDet_s (And.intro @xDet_ld (And.intro @xDet_ld2 (And.intro @xDet_ld3 (And.intro @xDet_ld4 (And.intro @xGuard_tt (And.intro @ld_3 (And.intro @ld_22 (And.intro @ld_24 (And.intro @ld_25 
  (And.intro @fa_27_0 (And.intro @fa_27_1 (And.intro @fa_27_2 (And.intro @fa_27_3 (And.intro @es_24 @ns_24))))))))))))))))))))))))))))))))))))))))))))))))))))))))
theorem rec_Same_spec (r : RC) (a a' : Option Addr) (c c' : Nat) (w : World) (h : RowAt w a (bys r.data)) (h' : RowAt w a' (bys r.data)) : Gives Try.prog n_rec_Same #[rcV r a c, rcV r a' c'] w (.bool true) := by
  refine rec_Same_of ?_
  unfold rec_Same
  simp (disch := (first | omega | decide | (simp only [World.size_alloc, World.size_setCell, World.size_drew, size_sets, List.mem_cons, List.not_mem_nil, or_false, not_false_eq_true] <;> omega) | fail)) only [↓rsRec4_2, rsRec4_1, Option.isNone_some, Option.isNone_none, tick_eq, tickV_eq, ne_eq, Int.reduceAdd, Int.reduceSub, Int.reduceMul, Int.reduceEq, Int.reduceLT, Int.reduceLE, Int.reduceToNat, Nat.reduceMul, Nat.reduceAdd, Nat.reduceSub, List.nil_append, List.cons_append, List.getElem?_toArray, List.getElem?_cons_zero, List.getElem?_cons_succ, List.setIfInBounds_toArray, List.set_cons_zero, List.set_cons_succ, Option.map_some, List.not_mem_nil, ←decide_not, eq_self]
  refine bytes_Equal_call (Gives.to (Equal_spec r.data r.data a a' _ _ c c' _ rfl rfl ((h.ext0 (Ext.alloc _ _ _)).ext0 (Ext.alloc _ _ _)) ((h'.ext0 (Ext.alloc _ _ _)).ext0 (Ext.alloc _ _ _))) fun y F => ?_)
  have hd : decide (r.data = r.data) = true := decide_eq_true rfl
  simp (disch := (first | omega | decide | (simp only [World.size_alloc, World.size_setCell, World.size_drew, size_sets, List.mem_cons, List.not_mem_nil, or_false, not_false_eq_true] <;> omega) | fail)) only [↓rsRec4_2, rsRec4_1, Option.isNone_some, Option.isNone_none, tick_eq, tickV_eq, ne_eq, Int.reduceAdd, Int.reduceSub, Int.reduceMul, Int.reduceEq, Int.reduceLT, Int.reduceLE, Int.reduceToNat, Nat.reduceMul, Nat.reduceAdd, Nat.reduceSub, List.nil_append, List.cons_append, List.getElem?_toArray, List.getElem?_cons_zero, List.getElem?_cons_succ, List.setIfInBounds_toArray, List.set_cons_zero, List.set_cons_succ, Option.map_some, List.not_mem_nil, ←decide_not, hd]
  exact ⟨by trivial, by (repeat (first | with_reducible exact Ext.refl _ _ | with_reducible assumption | with_reducible refine Ext.alloc' ?_ _ | with_reducible refine Ext.drew' ?_ | with_reducible refine Ext.set' ?_ ?_ | exact .inr (by first | omega | (simp only [World.size_alloc, World.size_drew, World.size_setCell] <;> omega)) | refine Ext.trans ?_ (by with_reducible assumption)))⟩
abbrev rsRec4_3 := (And.intro @xBox_r (And.intro @loadK_some (And.intro @loadsK_s (And.intro @loadsK_n (And.intro @loadsR_s (And.intro @loadsR_n (And.intro @storesK_s (And.intro @storesK_n (And.intro @xPick_t (And.intro @xPick_f (And.intro @xGuard_tt (And.intro @xGuard_ff (And.intro @xGuard_tf (And.intro @xGuard_ft (And.intro @xGuard_u 
  (And.intro @xNil_r (And.intro @xIf_t (And.intro @xBin_add' (And.intro @xBin_sub' (And.intro @xBin_mul' (And.intro @xBin_quo' (And.intro @xBin_rem' (And.intro @xIf_f (And.intro @xIf_tt (And.intro @xEx0 (And.intro @xEx1 (And.intro @xEx2 (And.intro @xEx3 (And.intro @xBin_eqs (And.intro @xBin_nes (And.intro @xUn_not (And.intro @xu8_eql (And.intro @xu16_eql 
  (And.intro @xu32_eql (And.intro @xu64_eql (And.intro @xi64_eql (And.intro @xMakeFunc_r (And.intro @xSq_r (And.intro @xPur_s (And.intro @xRd_s (And.intro @xRe_s (And.intro @xDet_s (And.intro @xDet_ld (And.intro @xDet_ld2 (And.intro @xDet_ld3 (And.intro @xDet_ld4 (And.intro @xGuard_tt (And.intro @ld_3 (And.intro @ld_22 (And.intro @ld_25 (And.intro @fa_34_0 
  (And.intro @fa_34_1 (And.intro @fa_36_0 (And.intro @fa_36_1 (And.intro @fa_36_2 @fa_36_3)))))))))))))))))))))))))))))))))))))))))))))))))))))))
theorem rSame_spec (r : RC) (a a' : Option Addr) (c c' : Nat) (w : World) (h : RowAt w a (bys r.data)) (h' : RowAt w a' (bys r.data)) : Gives Try.prog n_loamref8_Same #[rcV r a c, rcV r a' c'] w (.bool true) := by
  refine loamref8_Same_of ?_
  unfold loamref8_Same
  have s1 := strB (c := c) rfl ((h.ext0 (Ext.alloc [] w (.cells (rcC r a c).toArray 36))).ext0 (Ext.alloc [] _ (.cells (rcC r a' c').toArray 36)))
  have s2 := strB (c := c') rfl ((h'.ext0 (Ext.alloc [] w (.cells (rcC r a c).toArray 36))).ext0 (Ext.alloc [] _ (.cells (rcC r a' c').toArray 36)))
  have hd : decide (strOf r.data = strOf r.data) = true := decide_eq_true rfl
  simp (disch := (first | omega | decide | (simp only [World.size_alloc, World.size_setCell, World.size_drew, size_sets, List.mem_cons, List.not_mem_nil, or_false, not_false_eq_true] <;> omega) | fail)) only [↓rsRec4_3, rsRec4_1, Option.isNone_some, Option.isNone_none, tick_eq, tickV_eq, ne_eq, Int.reduceAdd, Int.reduceSub, Int.reduceMul, Int.reduceEq, Int.reduceLT, Int.reduceLE, Int.reduceToNat, Nat.reduceMul, Nat.reduceAdd, Nat.reduceSub, List.nil_append, List.cons_append, List.getElem?_toArray, List.getElem?_cons_zero, List.getElem?_cons_succ, List.setIfInBounds_toArray, List.set_cons_zero, List.set_cons_succ, Option.map_some, List.not_mem_nil, ←decide_not, s1, s2, hd]
  exact ⟨by trivial, by (repeat (first | with_reducible exact Ext.refl _ _ | with_reducible assumption | with_reducible refine Ext.alloc' ?_ _ | with_reducible refine Ext.drew' ?_ | with_reducible refine Ext.set' ?_ ?_ | exact .inr (by first | omega | (simp only [World.size_alloc, World.size_drew, World.size_setCell] <;> omega)) | refine Ext.trans ?_ (by with_reducible assumption)))⟩
abbrev rsRec4_4 := (And.intro @xBox_r (And.intro @loadK_some (And.intro @loadsK_s (And.intro @loadsK_n (And.intro @loadsR_s (And.intro @loadsR_n (And.intro @storesK_s (And.intro @storesK_n (And.intro @xPick_t (And.intro @xPick_f (And.intro @xGuard_tt (And.intro @xGuard_ff (And.intro @xGuard_tf (And.intro @xGuard_ft (And.intro @xGuard_u 
  (And.intro @xNil_r (And.intro @xIf_t (And.intro @xBin_add' (And.intro @xBin_sub' (And.intro @xBin_mul' (And.intro @xBin_quo' (And.intro @xBin_rem' (And.intro @xIf_f (And.intro @xIf_tt (And.intro @xEx0 (And.intro @xEx1 (And.intro @xEx2 (And.intro @xEx3 (And.intro @xBin_eqs (And.intro @xBin_nes (And.intro @xUn_not (And.intro @xMakeFunc_r (And.intro @xSq_r 
  (And.intro @xPur_s (And.intro @xRd_s (And.intro @xRe_s (And.intro @xDet_s (And.intro @xDet_ld (And.intro @xDet_ld2 (And.intro @xDet_ld3 (And.intro @xDet_ld4 (And.intro @xGuard_tt (And.intro @ld_3 (And.intro @ld_22 (And.intro @ld_25 (And.intro @lr_36 (And.intro @fa_24_0 (And.intro @fa_24_1 (And.intro @fa_27_0 (And.intro @fa_27_1 (And.intro @fa_27_2 (And.intro @fa_27_3 
  (And.intro @al_36 (And.intro @st_36 (And.intro @bd_34_0_1 @bd_36_0_1_2_3)))))))))))))))))))))))))))))))))))))))))))))))))))))))
theorem Of8_spec (r : RC) (a : Option Addr) (c : Nat) (w : World) : Gives Try.prog n_loamlaw8_Of #[rcV r a c] w (rcV r a c) := by
  refine loamlaw8_Of_of ?_
  unfold loamlaw8_Of
  simp (disch := (first | omega | decide | (simp only [World.size_alloc, World.size_setCell, World.size_drew, size_sets, List.mem_cons, List.not_mem_nil, or_false, not_false_eq_true] <;> omega) | fail)) only [↓rsRec4_4, rsRec4_1, Option.isNone_some, Option.isNone_none, tick_eq, tickV_eq, ne_eq, Int.reduceAdd, Int.reduceSub, Int.reduceMul, Int.reduceEq, Int.reduceLT, Int.reduceLE, Int.reduceToNat, Nat.reduceMul, Nat.reduceAdd, Nat.reduceSub, List.nil_append, List.cons_append, List.getElem?_toArray, List.getElem?_cons_zero, List.getElem?_cons_succ, List.setIfInBounds_toArray, List.set_cons_zero, List.set_cons_succ, Option.map_some, List.not_mem_nil, ←decide_not, eq_self]
  exact ⟨by trivial, by (repeat (first | with_reducible exact Ext.refl _ _ | with_reducible assumption | with_reducible refine Ext.alloc' ?_ _ | with_reducible refine Ext.drew' ?_ | with_reducible refine Ext.set' ?_ ?_ | exact .inr (by first | omega | (simp only [World.size_alloc, World.size_drew, World.size_setCell] <;> omega)) | refine Ext.trans ?_ (by with_reducible assumption)))⟩
end Go.Proofs.Ytknineilpenbnaa
