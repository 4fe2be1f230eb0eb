/- The statements on records, walked (sq). -/
import Derived.Test.YtknineilpenbnaaRec4
set_option linter.unusedVariables false
set_option linter.unusedSimpArgs false
set_option maxHeartbeats 4000000
namespace Go.Proofs.Ytknineilpenbnaa
open Go.Sh Go.RowKit Go.ChangeShapes Go.WideShapes Go.ChangeAt

abbrev Arc := RC × Option Addr × Nat
abbrev arcV (x : Arc) : Value := rcV x.1 x.2.1 x.2.2
structure ArcOk (w : World) (x : Arc) : Prop where
  cap : x.1.data.length ≤ x.2.2
  nil : x.2.1 = none → x.2.2 = 0
  row : RowAt w x.2.1 (bys x.1.data)
theorem ArcOk.ext0 {w w' : World} {x : Arc} (h : ArcOk w x) (hx : Ext [] w w') : ArcOk w' x := ⟨h.cap, h.nil, h.row.ext0 hx⟩
theorem list5 {α : Type} {l : List α} (h : l.length = 5) : ∃ a b c d e, l = [a, b, c, d, e] := by
  match l, h with
  | [a, b, c, d, e], _ => exact ⟨a, b, c, d, e, rfl⟩
theorem arc_cells {W : World} {cs : List Value} (hl : cs.length = 5) (hc : ∀ (i : Nat) (d : Leaf) (c : Value), [Leaf.int .i64, .int .u64, .int .i64, .int .i64, .row .u8][i]? = some d → cs[i]? = some c → leafOk W d c) :
    ∃ x : Arc, cs = rcC x.1 x.2.1 x.2.2 ∧ ArcOk W x := by
  obtain ⟨c0, c1, c2, c3, c4, rfl⟩ := list5 hl
  obtain ⟨z0, rfl, _⟩ := hc 0 _ _ rfl rfl
  obtain ⟨z1, rfl, k1⟩ := hc 1 _ _ rfl rfl
  obtain ⟨z2, rfl, _⟩ := hc 2 _ _ rfl rfl
  obtain ⟨z3, rfl, _⟩ := hc 3 _ _ rfl rfl
  obtain ⟨a, n, c, zs, rfl, q1, q2, q3, q4, q5, q6⟩ := hc 4 _ _ rfl rfl
  have B := bytesArg q1 q2 q3 q4 q5 q6
  refine ⟨(⟨z0, BitVec.ofInt 64 z1, z2, z3, zs.map (BitVec.ofInt 8)⟩, a, c), ?_, ⟨by have := B.len; simp only; omega, q4, B.row⟩⟩
  simp only [rcC]
  rw [u64_of (wf_u64 k1).1 (wf_u64 k1).2, ← B.len]
set_option maxRecDepth 100000 in
theorem arc_open {H : Type} {enc : TypeId × Value → H} {W : World} {base : Nat} {v : Value} {d : DataW H} {p : List MemPlace} (hv : Value.okWide Try.prog W .any base 27 v) (h : DataW.Trod enc Try.prog W 0 (fun _ => true) true 27 v d p) : ∃ x : Arc, v = arcV x ∧ ArcOk W x := by
  obtain ⟨cs, rfl, hl, hc⟩ := open_flat (l := [.int .i64, .int .u64, .int .i64, .int .i64, .row .u8]) Try.underlying27 (by kernel_rfl) hv h
  obtain ⟨x, rfl, hx⟩ := arc_cells hl hc
  exact ⟨x, rfl, hx⟩
structure ArcsArg (w : World) (l : List Arc) (a : Option Addr) (n c : Nat) : Prop where
  len : n = l.length
  cap : n ≤ c
  nil : a = none → c = 0
  row : RowAt w a (l.flatMap fun x => rcC x.1 x.2.1 x.2.2)
  each : ∀ x ∈ l, ArcOk w x
set_option maxRecDepth 100000 in
theorem arcs_open {H : Type} {enc : TypeId × Value → H} {W : World} {base : Nat} {v : Value} {d : DataW H} {p : List MemPlace} (hv : Value.okWide Try.prog W .any base 45 v) (h : DataW.Trod enc Try.prog W 0 (fun _ => true) true 45 v d p) :
    ∃ a n c l, v = .slice a n c ∧ ArcsArg W l a n c := by
  obtain ⟨a, n, c, C, rfl, hn, _, hnil, hall, hR⟩ := open_rows (F := 5) (l := [.int .i64, .int .u64, .int .i64, .int .i64, .row .u8]) Try.underlying45 (by kernel_rfl) (by decide) (by kernel_rfl) hv h
  have each : ∀ i, ∃ x : Arc, i < n → C i = rcC x.1 x.2.1 x.2.2 ∧ ArcOk W x := fun i => by
    by_cases hi : i < n
    · obtain ⟨x, h1, h2⟩ := arc_cells (hall i hi).1 (hall i hi).2
      exact ⟨x, fun _ => ⟨h1, h2⟩⟩
    · exact ⟨(⟨0, z64, 0, 0, []⟩, none, 0), fun h => absurd h hi⟩
  have hX : ∃ X : Nat → Arc, ∀ i, i < n → C i = rcC (X i).1 (X i).2.1 (X i).2.2 ∧ ArcOk W (X i) := ⟨fun i => Classical.choose (each i), fun i => Classical.choose_spec (each i)⟩
  obtain ⟨X, hX⟩ := hX
  refine ⟨a, n, c, (List.range n).map X, rfl, by simp, hn, hnil, ?_, fun x hx => ?_⟩
  · rw [flat_map (f := fun x : Arc => rcC x.1 x.2.1 x.2.2) (X := X) fun i hi => (hX i hi).1] at hR
    exact hR
  · obtain ⟨i, hi, rfl⟩ := List.mem_map.1 hx
    exact (hX i (List.mem_range.1 hi)).2
abbrev rk : RC := ⟨1, BitVec.ofNat 64 5, 1, 300, [BitVec.ofNat 8 97, BitVec.ofNat 8 98]⟩
theorem rk_ok : rcErr rk = 0 := by decide
theorem rz_bad : rcErr ⟨0, BitVec.ofNat 64 0, 0, 0, []⟩ = 1 := by decide
abbrev rsRecL_0 := (And.intro @xBox_r (And.intro @loadK_some (And.intro @loadsK_s (And.intro @loadsK_n (And.intro @loadsR_s (And.intro @loadsR_n (And.intro @storesK_s (And.intro @storesK_n (And.intro @xPick_t (And.intro @xPick_f (And.intro @xGuard_tt (And.intro @xGuard_ff (And.intro @xGuard_tf (And.intro @xGuard_ft (And.intro @xGuard_u 
  (And.intro @xNil_r (And.intro @xIf_t (And.intro @xBin_add' (And.intro @xBin_sub' (And.intro @xBin_mul' (And.intro @xBin_quo' (And.intro @xBin_rem' (And.intro @xIf_f (And.intro @xIf_tt (And.intro @xEx0 (And.intro @xEx1 (And.intro @xEx2 (And.intro @xEx3 (And.intro @xBin_eqs (And.intro @xBin_nes (And.intro @xUn_not (And.intro @xu8_add (And.intro @xu8_eql 
  (And.intro @xu16_add (And.intro @xu16_eql (And.intro @xu32_add (And.intro @xu32_eql (And.intro @xu64_add (And.intro @xu64_eql (And.intro @xi64_eql (And.intro @xMakeFunc_r (And.intro @xSq_r (And.intro @xPur_s (And.intro @xRd_s (And.intro @xRe_s (And.intro @xDet_s (And.intro @xDet_ld (And.intro @xDet_ld2 (And.intro @xDet_ld3 (And.intro @xDet_ld4 
  (And.intro @xGuard_tt (And.intro @ld_24 (And.intro @ld_27 (And.intro @fa_27_2 (And.intro @al_27 (And.intro @st_27 (And.intro @bd_24_0_1 (And.intro @bd_24 (And.intro @bd_27_0_1_2_3 (And.intro @bd_27_0_2_3 (And.intro @bd_27_0_1 (And.intro @bd_27 (And.intro @es_24 (And.intro @ns_24 (And.intro @ln_25 (And.intro @bs_25_0 (And.intro @bs_25_1 (And.intro @bs_25_2 @bs_25_4))))))))))))))))))))))))))))))))))))))))))))))))))))))))))))))))))))
abbrev rsRecL_1 := (And.intro @setCells_c (And.intro @setCells_n (And.intro @World.setCell_alloc_at (And.intro @World.setCell_alloc_past (And.intro @World.cell?_alloc_at (And.intro @World.cell?_alloc_past (And.intro @World.frozen?_alloc_at (And.intro @World.frozen?_alloc_past 
  (And.intro @World.size_alloc (And.intro @dlt_t (And.intro @dlt_f (And.intro @dle_t (And.intro @dle_f (And.intro @deq_t (And.intro @deq_f (And.intro @dne_t (And.intro @dne_f (And.intro @not_true_eq_false (And.intro @Bool.false_and (And.intro @Bool.true_and (And.intro @Bool.and_true (And.intro @Bool.and_false (And.intro @wrap_in (And.intro @Int.toNat_natCast 
  (And.intro @Nat.mul_one (And.intro @cells_int (And.intro @cells_bool (And.intro @cells_string (And.intro @cells_slice (And.intro @cells_pointer (And.intro @cells_agg (And.intro @one_int (And.intro @one_bool (And.intro @one_string (And.intro @one_slice (And.intro @one_pointer (And.intro @beq_tt (And.intro @beq_ff (And.intro @beq_tf 
  (And.intro @beq_ft (And.intro @cell_sets_b (And.intro @frozen_sets (And.intro @size_sets (And.intro @World.size_drew (And.intro @Nat.zero_add (And.intro @Nat.add_zero (And.intro @cell_drew (And.intro @frozen_drew (And.intro @cell_set_eq (And.intro @cell_set_o (And.intro @cell_set_b (And.intro @World.frozen?_setCell 
  (And.intro @decide_true (And.intro @decide_false (And.intro @not_false_eq_true (And.intro @Bool.not_true @Bool.not_false))))))))))))))))))))))))))))))))))))))))))))))))))))))))
theorem known8_spec (w : World) : Gives Try.prog n_loamlaw8_known #[] w (.bool true) := by
  refine loamlaw8_known_of ?_
  unfold loamlaw8_known
  simp (disch := (first | omega | decide | (simp only [World.size_alloc, World.size_setCell, World.size_drew, size_sets, List.mem_cons, List.not_mem_nil, or_false, not_false_eq_true] <;> omega) | fail)) only [↓rsRecL_0, rsRecL_1, Option.isNone_some, Option.isNone_none, tick_eq, tickV_eq, ne_eq, Int.reduceAdd, Int.reduceSub, Int.reduceMul, Int.reduceEq, Int.reduceLT, Int.reduceLE, Int.reduceToNat, Nat.reduceMul, Nat.reduceAdd, Nat.reduceSub, List.nil_append, List.cons_append, List.getElem?_toArray, List.getElem?_cons_zero, List.getElem?_cons_succ, List.setIfInBounds_toArray, List.set_cons_zero, List.set_cons_succ, Option.map_some, List.not_mem_nil, ←decide_not, eq_self]
  refine xConv_bytes (e := 5) (cs := bys rk.data) (by kernel_rfl) (by kernel_rfl) fun w1 F1 R1 hw1 => ?_
  simp (disch := (first | omega | decide | (simp only [World.size_alloc, World.size_setCell, World.size_drew, size_sets, List.mem_cons, List.not_mem_nil, or_false, not_false_eq_true] <;> omega) | fail)) only [↓rsRecL_0, rsRecL_1, Option.isNone_some, Option.isNone_none, tick_eq, tickV_eq, ne_eq, Int.reduceAdd, Int.reduceSub, Int.reduceMul, Int.reduceEq, Int.reduceLT, Int.reduceLE, Int.reduceToNat, Nat.reduceMul, Nat.reduceAdd, Nat.reduceSub, List.nil_append, List.cons_append, List.getElem?_toArray, List.getElem?_cons_zero, List.getElem?_cons_succ, List.setIfInBounds_toArray, List.set_cons_zero, List.set_cons_succ, Option.map_some, List.not_mem_nil, ←decide_not, eq_self]
  have T2 : Blk (w1.alloc (.cells (rcC rk (some ⟨w.heap.size, 0, none⟩) 2).toArray 27)) w1.heap.size 27 (rcC rk (some ⟨w.heap.size, 0, none⟩) 2) := Blk.at rfl
  have X2 : Ext [] w (w1.alloc (.cells (rcC rk (some ⟨w.heap.size, 0, none⟩) 2).toArray 27)) := F1.alloc' _
  have R2 := R1.ext0 (Ext.alloc [] w1 (.cells (rcC rk (some ⟨w.heap.size, 0, none⟩) 2).toArray 27))
  refine rec_Encode_call (Yld.mono (rec_Encode_spec rk (some ⟨w.heap.size, 0, none⟩) 2 _ (by decide) R2 (fun h => by cases h)) ?_)
  rintro u3 w3 ⟨F3, a3, c3, rfl, q1, q2, q3, q4⟩
  have ek : rcEnc rk = rcOut rk := if_pos rk_ok
  rw [ek] at q1 q3
  have X3 := X2.trans F3
  have T3 := T2.ext F3 (by simp)
  have hout := rcOut_le (r := rk) (by decide)
  have e0 := rk_ok
  simp (disch := (first | omega | decide | (simp only [World.size_alloc, World.size_setCell, World.size_drew, size_sets, List.mem_cons, List.not_mem_nil, or_false, not_false_eq_true] <;> omega) | fail)) only [↓rsRecL_0, rsRecL_1, Option.isNone_some, Option.isNone_none, tick_eq, tickV_eq, ne_eq, Int.reduceAdd, Int.reduceSub, Int.reduceMul, Int.reduceEq, Int.reduceLT, Int.reduceLE, Int.reduceToNat, Nat.reduceMul, Nat.reduceAdd, Nat.reduceSub, List.nil_append, List.cons_append, List.getElem?_toArray, List.getElem?_cons_zero, List.getElem?_cons_succ, List.setIfInBounds_toArray, List.set_cons_zero, List.set_cons_succ, Option.map_some, List.not_mem_nil, ←decide_not, ek, e0]
  refine appB (l := []) (m := rcOut rk) (Own.lit (m := 0) (by decide) rfl) rfl (q3.ext0 (Ext.alloc [] w3 _)) q2 q1 (by simp; omega) fun v4 w4 O4 S4 => ?_
  have X4 : Ext [] w3 w4 := S4.new (Ext.alloc [] w3 _) (by simp [blk, Value.ownBlock])
  rw [List.nil_append] at O4
  simp (disch := (first | omega | decide | (simp only [World.size_alloc, World.size_setCell, World.size_drew, size_sets, List.mem_cons, List.not_mem_nil, or_false, not_false_eq_true] <;> omega) | fail)) only [↓rsRecL_0, rsRecL_1, Option.isNone_some, Option.isNone_none, tick_eq, tickV_eq, ne_eq, Int.reduceAdd, Int.reduceSub, Int.reduceMul, Int.reduceEq, Int.reduceLT, Int.reduceLE, Int.reduceToNat, Nat.reduceMul, Nat.reduceAdd, Nat.reduceSub, List.nil_append, List.cons_append, List.getElem?_toArray, List.getElem?_cons_zero, List.getElem?_cons_succ, List.setIfInBounds_toArray, List.set_cons_zero, List.set_cons_succ, Option.map_some, List.not_mem_nil, ←decide_not, ek, e0]
  refine appBl (m := [BitVec.ofNat 8 9]) O4 rfl rfl (by simp; omega) fun v5 w5 O5 S5 => ?_
  have hup4 : ∀ b ∈ blk v4, w3.heap.size ≤ b := fun b hb => by
    rcases S4.at' b hb with h | h
    · simp [blk, Value.ownBlock] at h; omega
    · simp at h; omega
  have X5 : Ext [] w3 w5 := S5.new X4 hup4
  obtain ⟨a5, c5, rfl, p1, p2, p3, p4, _⟩ := O5.slice
  simp (disch := (first | omega | decide | (simp only [World.size_alloc, World.size_setCell, World.size_drew, size_sets, List.mem_cons, List.not_mem_nil, or_false, not_false_eq_true] <;> omega) | fail)) only [↓rsRecL_0, rsRecL_1, Option.isNone_some, Option.isNone_none, tick_eq, tickV_eq, ne_eq, Int.reduceAdd, Int.reduceSub, Int.reduceMul, Int.reduceEq, Int.reduceLT, Int.reduceLE, Int.reduceToNat, Nat.reduceMul, Nat.reduceAdd, Nat.reduceSub, List.nil_append, List.cons_append, List.getElem?_toArray, List.getElem?_cons_zero, List.getElem?_cons_succ, List.setIfInBounds_toArray, List.set_cons_zero, List.set_cons_succ, Option.map_some, List.not_mem_nil, ←decide_not, ek, e0]
  refine rec_Decode_call (Yld.mono (rec_Decode_spec rk [BitVec.ofNat 8 9] a5 _ c5 w5 rk_ok (by decide) rfl p1 p4 p3) ?_)
  rintro u6 w6 ⟨F6, a6, c6, rfl, t1, t2, t3, t4⟩
  simp (disch := (first | omega | decide | (simp only [World.size_alloc, World.size_setCell, World.size_drew, size_sets, List.mem_cons, List.not_mem_nil, or_false, not_false_eq_true] <;> omega) | fail)) only [↓rsRecL_0, rsRecL_1, Option.isNone_some, Option.isNone_none, tick_eq, tickV_eq, ne_eq, Int.reduceAdd, Int.reduceSub, Int.reduceMul, Int.reduceEq, Int.reduceLT, Int.reduceLE, Int.reduceToNat, Nat.reduceMul, Nat.reduceAdd, Nat.reduceSub, List.nil_append, List.cons_append, List.getElem?_toArray, List.getElem?_cons_zero, List.getElem?_cons_succ, List.setIfInBounds_toArray, List.set_cons_zero, List.set_cons_succ, Option.map_some, List.not_mem_nil, ←decide_not, ek, e0]
  have T7 : Blk (w6.alloc (.cells (rcC rk a6 c6).toArray 27)) w6.heap.size 27 (rcC rk a6 c6) := Blk.at rfl
  refine rec_Encode_call (Yld.mono (rec_Encode_spec ⟨0, BitVec.ofNat 64 0, 0, 0, []⟩ none 0 _ (by decide) RowAt.nil (fun _ => rfl)) ?_)
  rintro u8 w8 ⟨F8, a8, c8', rfl, _, _, _, _⟩
  have e1 := rz_bad
  have T8 := T7.ext F8 (by simp)
  have X38 := (((X5.trans F6).alloc' (.cells (rcC rk a6 c6).toArray 27)).trans F8)
  have T38 := T3.ext X38 (by simp)
  have k1 := fun i => T8.cell (i := i)
  have k2 := fun i => T38.cell (i := i)
  simp (disch := (first | omega | decide | (simp only [World.size_alloc, World.size_setCell, World.size_drew, size_sets, List.mem_cons, List.not_mem_nil, or_false, not_false_eq_true] <;> omega) | fail)) only [↓rsRecL_0, rsRecL_1, Option.isNone_some, Option.isNone_none, tick_eq, tickV_eq, ne_eq, Int.reduceAdd, Int.reduceSub, Int.reduceMul, Int.reduceEq, Int.reduceLT, Int.reduceLE, Int.reduceToNat, Nat.reduceMul, Nat.reduceAdd, Nat.reduceSub, List.nil_append, List.cons_append, List.getElem?_toArray, List.getElem?_cons_zero, List.getElem?_cons_succ, List.setIfInBounds_toArray, List.set_cons_zero, List.set_cons_succ, Option.map_some, List.not_mem_nil, ←decide_not, ek, e0, e1, k1, k2]
  refine rec_Same_call (Gives.to (rec_Same_spec rk a6 (some ⟨w.heap.size, 0, none⟩) c6 2 w8 ((t3.ext0 (Ext.alloc _ _ _)).ext0 F8) (R2.ext0 (F3.trans X38))) fun w9 F9 => ?_)
  have k3 := fun i => (T8.ext F9 (by simp)).cell (i := i)
  have k4 := fun i => (T38.ext F9 (by simp)).cell (i := i)
  simp (disch := (first | omega | decide | (simp only [World.size_alloc, World.size_setCell, World.size_drew, size_sets, List.mem_cons, List.not_mem_nil, or_false, not_false_eq_true] <;> omega) | fail)) only [↓rsRecL_0, rsRecL_1, Option.isNone_some, Option.isNone_none, tick_eq, tickV_eq, ne_eq, Int.reduceAdd, Int.reduceSub, Int.reduceMul, Int.reduceEq, Int.reduceLT, Int.reduceLE, Int.reduceToNat, Nat.reduceMul, Nat.reduceAdd, Nat.reduceSub, List.nil_append, List.cons_append, List.getElem?_toArray, List.getElem?_cons_zero, List.getElem?_cons_succ, List.setIfInBounds_toArray, List.set_cons_zero, List.set_cons_succ, Option.map_some, List.not_mem_nil, ←decide_not, ek, e0, e1, k1, k2, k3, k4]
  exact ⟨by trivial, (X3.trans X38).trans F9⟩
abbrev rsRecL_2 := (And.intro @xBox_r (And.intro @loadK_some (And.intro @loadsK_s (And.intro @loadsK_n (And.intro @loadsR_s (And.intro @loadsR_n (And.intro @storesK_s (And.intro @storesK_n (And.intro @xPick_t (And.intro @xPick_f (And.intro @xGuard_tt (And.intro @xGuard_ff (And.intro @xGuard_tf (And.intro @xGuard_ft (And.intro @xGuard_u 
  (And.intro @xNil_r (And.intro @xIf_t (And.intro @xBin_add' (And.intro @xBin_sub' (And.intro @xBin_mul' (And.intro @xBin_quo' (And.intro @xBin_rem' (And.intro @xIf_f (And.intro @xIf_tt (And.intro @xEx0 (And.intro @xEx1 (And.intro @xEx2 (And.intro @xEx3 (And.intro @xBin_eqs (And.intro @xBin_nes (And.intro @xUn_not (And.intro @xu8_com (And.intro @xu8_eql 
  (And.intro @xu8_neq (And.intro @xu8_gtr (And.intro @xu16_com (And.intro @xu16_eql (And.intro @xu16_neq (And.intro @xu16_gtr (And.intro @xu32_com (And.intro @xu32_eql (And.intro @xu32_neq (And.intro @xu32_gtr (And.intro @xu64_com (And.intro @xu64_eql (And.intro @xu64_neq (And.intro @xu64_gtr (And.intro @xi64_gtr (And.intro @xi64_eql (And.intro @xi64_neq 
  (And.intro @xi64_neg (And.intro @xMakeFunc_r (And.intro @xSq_r (And.intro @xPur_s (And.intro @xRd_s (And.intro @xRe_s (And.intro @xDet_s (And.intro @xDet_ld (And.intro @xDet_ld2 (And.intro @xDet_ld3 (And.intro @xDet_ld4 (And.intro @xGuard_tt (And.intro @ld_25 (And.intro @ld_27 (And.intro @fa_27_3 (And.intro @al_27 (And.intro @st_27 @ln_25)))))))))))))))))))))))))))))))))))))))))))))))))))))))))))))))))))
theorem RecordBack_spec (x : Arc) (w : World) (hA : ArcOk w x) : Gives Try.prog n_loamlaw8_RecordBack #[arcV x] w (.bool true) := by
  obtain ⟨r, a, c⟩ := x
  obtain ⟨hcap, hnil, hrow⟩ := hA
  simp only at hcap hnil hrow
  refine loamlaw8_RecordBack_of ?_
  unfold loamlaw8_RecordBack
  simp (disch := (first | omega | decide | (simp only [World.size_alloc, World.size_setCell, World.size_drew, size_sets, List.mem_cons, List.not_mem_nil, or_false, not_false_eq_true] <;> omega) | fail)) only [↓rsRecL_2, rsRecL_1, Option.isNone_some, Option.isNone_none, tick_eq, tickV_eq, ne_eq, Int.reduceAdd, Int.reduceSub, Int.reduceMul, Int.reduceEq, Int.reduceLT, Int.reduceLE, Int.reduceToNat, Nat.reduceMul, Nat.reduceAdd, Nat.reduceSub, List.nil_append, List.cons_append, List.getElem?_toArray, List.getElem?_cons_zero, List.getElem?_cons_succ, List.setIfInBounds_toArray, List.set_cons_zero, List.set_cons_succ, Option.map_some, List.not_mem_nil, ←decide_not, eq_self]
  refine loamlaw8_known_call (Gives.to (known8_spec _) fun w1 E1 => ?_)
  have z1 := E1.size
  try simp only [World.size_alloc, World.size_setCell, World.size_drew] at z1
  have e1_0 : ∀ o, w1.cell? ⟨w.heap.size, o, none⟩ = _ := fun o => E1.cell_o (by first | omega | (simp only [World.size_alloc, World.size_setCell, World.size_drew, size_sets] <;> omega))
  have T1 : Blk w1 w.heap.size 27 (rcC r a c) := (Blk.at rfl).ext E1 (by simp)
  have X1 : Ext [] w w1 := (Ext.alloc [] w _).trans E1
  by_cases h5 : 5000 < r.data.length
  · simp (disch := (first | omega | decide | (simp only [World.size_alloc, World.size_setCell, World.size_drew, size_sets, List.mem_cons, List.not_mem_nil, or_false, not_false_eq_true] <;> omega) | fail)) only [↓rsRecL_2, rsRecL_1, Option.isNone_some, Option.isNone_none, tick_eq, tickV_eq, ne_eq, Int.reduceAdd, Int.reduceSub, Int.reduceMul, Int.reduceEq, Int.reduceLT, Int.reduceLE, Int.reduceToNat, Nat.reduceMul, Nat.reduceAdd, Nat.reduceSub, List.nil_append, List.cons_append, List.getElem?_toArray, List.getElem?_cons_zero, List.getElem?_cons_succ, List.setIfInBounds_toArray, List.set_cons_zero, List.set_cons_succ, Option.map_some, List.not_mem_nil, ←decide_not, e1_0]
    exact ⟨by trivial, X1⟩
  simp (disch := (first | omega | decide | (simp only [World.size_alloc, World.size_setCell, World.size_drew, size_sets, List.mem_cons, List.not_mem_nil, or_false, not_false_eq_true] <;> omega) | fail)) only [↓rsRecL_2, rsRecL_1, Option.isNone_some, Option.isNone_none, tick_eq, tickV_eq, ne_eq, Int.reduceAdd, Int.reduceSub, Int.reduceMul, Int.reduceEq, Int.reduceLT, Int.reduceLE, Int.reduceToNat, Nat.reduceMul, Nat.reduceAdd, Nat.reduceSub, List.nil_append, List.cons_append, List.getElem?_toArray, List.getElem?_cons_zero, List.getElem?_cons_succ, List.setIfInBounds_toArray, List.set_cons_zero, List.set_cons_succ, Option.map_some, List.not_mem_nil, ←decide_not, e1_0]
  refine rec_Encode_call (Yld.mono (rec_Encode_spec r a c _ (by omega) (hrow.ext0 X1) hnil) ?_)
  rintro u2 w2 ⟨F2, a2, c2, rfl, q1, q2, q3, q4⟩
  have X2 := X1.trans F2
  have k2 := fun i => (T1.ext F2 (by simp)).cell (i := i)
  simp (disch := (first | omega | decide | (simp only [World.size_alloc, World.size_setCell, World.size_drew, size_sets, List.mem_cons, List.not_mem_nil, or_false, not_false_eq_true] <;> omega) | fail)) only [↓rsRecL_2, rsRecL_1, Option.isNone_some, Option.isNone_none, tick_eq, tickV_eq, ne_eq, Int.reduceAdd, Int.reduceSub, Int.reduceMul, Int.reduceEq, Int.reduceLT, Int.reduceLE, Int.reduceToNat, Nat.reduceMul, Nat.reduceAdd, Nat.reduceSub, List.nil_append, List.cons_append, List.getElem?_toArray, List.getElem?_cons_zero, List.getElem?_cons_succ, List.setIfInBounds_toArray, List.set_cons_zero, List.set_cons_succ, Option.map_some, List.not_mem_nil, ←decide_not, e1_0, k2]
  refine loamlaw8_Of_call (Gives.to (Of8_spec r a c _) fun w3 F3 => ?_)
  have X3 := X2.trans F3
  refine loamref8_Encode_call (Yld.mono (rRec_Encode_spec r a c _ (by omega) hcap (hrow.ext0 X3) hnil) ?_)
  rintro u4 w4 ⟨F4, a4, c4, rfl, p1, p2, p3, p4⟩
  have X4 := X3.trans F4
  have T4 := ((T1.ext F2 (by simp)).ext F3 (by simp)).ext F4 (by simp)
  have d1 : decide (¬ rcErr r = rcErr r) = false := decide_eq_false (fun h => h rfl)
  have s1 := strB (c := c2) rfl ((q3.ext0 F3).ext0 F4)
  have s2 := strB (c := c4) rfl p3
  have d2 : decide (strOf (rcEnc r) ≠ strOf (rcEnc r)) = false := decide_eq_false (fun h => h rfl)
  by_cases he : rcErr r = 0
  · have d3 : decide (¬ rcErr r = 0) = false := decide_eq_false (fun h => h he)
    have eo : rcEnc r = rcOut r := if_pos he
    have R4 := (q3.ext0 F3).ext0 F4
    rw [eo] at q1 R4
    simp (disch := (first | omega | decide | (simp only [World.size_alloc, World.size_setCell, World.size_drew, size_sets, List.mem_cons, List.not_mem_nil, or_false, not_false_eq_true] <;> omega) | fail)) only [↓rsRecL_2, rsRecL_1, Option.isNone_some, Option.isNone_none, tick_eq, tickV_eq, ne_eq, Int.reduceAdd, Int.reduceSub, Int.reduceMul, Int.reduceEq, Int.reduceLT, Int.reduceLE, Int.reduceToNat, Nat.reduceMul, Nat.reduceAdd, Nat.reduceSub, List.nil_append, List.cons_append, List.getElem?_toArray, List.getElem?_cons_zero, List.getElem?_cons_succ, List.setIfInBounds_toArray, List.set_cons_zero, List.set_cons_succ, Option.map_some, List.not_mem_nil, ←decide_not, e1_0, k2, d1, s1, s2, d2, d3]
    rw [eo]
    refine rec_Decode_call (Yld.mono (rec_Decode_spec r [] a2 _ c2 w4 he (by simp) (by simp) q1 (by simpa using R4) q2) ?_)
    rintro u5 w5 ⟨F5, a5, c5, rfl, t1, t2, t3, t4⟩
    have X5 := X4.trans F5
    have T5 := (T4.ext F5 (by simp)).ext (Ext.alloc [] w5 (.cells (rcC r a5 c5).toArray 27)) (by simp)
    have V5 : Blk (w5.alloc (.cells (rcC r a5 c5).toArray 27)) w5.heap.size 27 (rcC r a5 c5) := Blk.at rfl
    have X6 := (X5.alloc' (.cells (rcC r a5 c5).toArray 27)).drew'
    have R6 := (t3.ext0 (Ext.alloc [] w5 (.cells (rcC r a5 c5).toArray 27))).ext0 (Ext.drew [] _)
    have k5 := fun i => (T5.ext (Ext.drew [] _) (by simp)).cell (i := i)
    have v5 := fun i => (V5.ext (Ext.drew [] _) (by simp)).cell (i := i)
    simp (disch := (first | omega | decide | (simp only [World.size_alloc, World.size_setCell, World.size_drew, size_sets, List.mem_cons, List.not_mem_nil, or_false, not_false_eq_true] <;> omega) | fail)) only [↓rsRecL_2, rsRecL_1, Option.isNone_some, Option.isNone_none, tick_eq, tickV_eq, ne_eq, Int.reduceAdd, Int.reduceSub, Int.reduceMul, Int.reduceEq, Int.reduceLT, Int.reduceLE, Int.reduceToNat, Nat.reduceMul, Nat.reduceAdd, Nat.reduceSub, List.nil_append, List.cons_append, List.getElem?_toArray, List.getElem?_cons_zero, List.getElem?_cons_succ, List.setIfInBounds_toArray, List.set_cons_zero, List.set_cons_succ, Option.map_some, List.not_mem_nil, ←decide_not, e1_0, k2, d1, s1, s2, d2, d3, k5, v5]
    refine rec_Same_call (Gives.to (rec_Same_spec r a5 a c5 c _ R6 (hrow.ext0 X6)) fun w7 F7 => ?_)
    have k7 := fun i => ((T5.ext (Ext.drew [] _) (by simp)).ext F7 (by simp)).cell (i := i)
    have v7 := fun i => ((V5.ext (Ext.drew [] _) (by simp)).ext F7 (by simp)).cell (i := i)
    simp (disch := (first | omega | decide | (simp only [World.size_alloc, World.size_setCell, World.size_drew, size_sets, List.mem_cons, List.not_mem_nil, or_false, not_false_eq_true] <;> omega) | fail)) only [↓rsRecL_2, rsRecL_1, Option.isNone_some, Option.isNone_none, tick_eq, tickV_eq, ne_eq, Int.reduceAdd, Int.reduceSub, Int.reduceMul, Int.reduceEq, Int.reduceLT, Int.reduceLE, Int.reduceToNat, Nat.reduceMul, Nat.reduceAdd, Nat.reduceSub, List.nil_append, List.cons_append, List.getElem?_toArray, List.getElem?_cons_zero, List.getElem?_cons_succ, List.setIfInBounds_toArray, List.set_cons_zero, List.set_cons_succ, Option.map_some, List.not_mem_nil, ←decide_not, e1_0, k2, d1, s1, s2, d2, d3, k5, v5, k7, v7]
    refine loamlaw8_Of_call (Gives.to (Of8_spec r a5 c5 _) fun w8 F8 => ?_)
    have k8 := fun i => (((T5.ext (Ext.drew [] _) (by simp)).ext F7 (by simp)).ext F8 (by simp)).cell (i := i)
    simp (disch := (first | omega | decide | (simp only [World.size_alloc, World.size_setCell, World.size_drew, size_sets, List.mem_cons, List.not_mem_nil, or_false, not_false_eq_true] <;> omega) | fail)) only [↓rsRecL_2, rsRecL_1, Option.isNone_some, Option.isNone_none, tick_eq, tickV_eq, ne_eq, Int.reduceAdd, Int.reduceSub, Int.reduceMul, Int.reduceEq, Int.reduceLT, Int.reduceLE, Int.reduceToNat, Nat.reduceMul, Nat.reduceAdd, Nat.reduceSub, List.nil_append, List.cons_append, List.getElem?_toArray, List.getElem?_cons_zero, List.getElem?_cons_succ, List.setIfInBounds_toArray, List.set_cons_zero, List.set_cons_succ, Option.map_some, List.not_mem_nil, ←decide_not, e1_0, k2, d1, s1, s2, d2, d3, k5, v5, k7, v7, k8]
    refine loamlaw8_Of_call (Gives.to (Of8_spec r a c _) fun w9 F9 => ?_)
    simp (disch := (first | omega | decide | (simp only [World.size_alloc, World.size_setCell, World.size_drew, size_sets, List.mem_cons, List.not_mem_nil, or_false, not_false_eq_true] <;> omega) | fail)) only [↓rsRecL_2, rsRecL_1, Option.isNone_some, Option.isNone_none, tick_eq, tickV_eq, ne_eq, Int.reduceAdd, Int.reduceSub, Int.reduceMul, Int.reduceEq, Int.reduceLT, Int.reduceLE, Int.reduceToNat, Nat.reduceMul, Nat.reduceAdd, Nat.reduceSub, List.nil_append, List.cons_append, List.getElem?_toArray, List.getElem?_cons_zero, List.getElem?_cons_succ, List.setIfInBounds_toArray, List.set_cons_zero, List.set_cons_succ, Option.map_some, List.not_mem_nil, ←decide_not, e1_0, k2, d1, s1, s2, d2, d3, k5, v5, k7, v7, k8]
    refine loamref8_Same_call (Gives.to (rSame_spec r a5 a c5 c _ (((R6.ext0 F7).ext0 F8).ext0 F9) (hrow.ext0 (((X6.trans F7).trans F8).trans F9))) fun w10 F10 => ?_)
    simp (disch := (first | omega | decide | (simp only [World.size_alloc, World.size_setCell, World.size_drew, size_sets, List.mem_cons, List.not_mem_nil, or_false, not_false_eq_true] <;> omega) | fail)) only [↓rsRecL_2, rsRecL_1, Option.isNone_some, Option.isNone_none, tick_eq, tickV_eq, ne_eq, Int.reduceAdd, Int.reduceSub, Int.reduceMul, Int.reduceEq, Int.reduceLT, Int.reduceLE, Int.reduceToNat, Nat.reduceMul, Nat.reduceAdd, Nat.reduceSub, List.nil_append, List.cons_append, List.getElem?_toArray, List.getElem?_cons_zero, List.getElem?_cons_succ, List.setIfInBounds_toArray, List.set_cons_zero, List.set_cons_succ, Option.map_some, List.not_mem_nil, ←decide_not, e1_0, k2, d1, s1, s2, d2, d3, k5, v5, k7, v7, k8]
    exact ⟨by trivial, (((X6.trans F7).trans F8).trans F9).trans F10⟩
  · have d3 : decide (¬ rcErr r = 0) = true := decide_eq_true he
    simp (disch := (first | omega | decide | (simp only [World.size_alloc, World.size_setCell, World.size_drew, size_sets, List.mem_cons, List.not_mem_nil, or_false, not_false_eq_true] <;> omega) | fail)) only [↓rsRecL_2, rsRecL_1, Option.isNone_some, Option.isNone_none, tick_eq, tickV_eq, ne_eq, Int.reduceAdd, Int.reduceSub, Int.reduceMul, Int.reduceEq, Int.reduceLT, Int.reduceLE, Int.reduceToNat, Nat.reduceMul, Nat.reduceAdd, Nat.reduceSub, List.nil_append, List.cons_append, List.getElem?_toArray, List.getElem?_cons_zero, List.getElem?_cons_succ, List.setIfInBounds_toArray, List.set_cons_zero, List.set_cons_succ, Option.map_some, List.not_mem_nil, ←decide_not, e1_0, k2, d1, s1, s2, d2, d3]
    exact ⟨by trivial, X4⟩
abbrev rsRecL_3 := (And.intro @xBox_r (And.intro @loadK_some (And.intro @loadsK_s (And.intro @loadsK_n (And.intro @loadsR_s (And.intro @loadsR_n (And.intro @storesK_s (And.intro @storesK_n (And.intro @xPick_t (And.intro @xPick_f (And.intro @xGuard_tt (And.intro @xGuard_ff (And.intro @xGuard_tf (And.intro @xGuard_ft (And.intro @xGuard_u 
  (And.intro @xNil_r (And.intro @xIf_t (And.intro @xBin_add' (And.intro @xBin_sub' (And.intro @xBin_mul' (And.intro @xBin_quo' (And.intro @xBin_rem' (And.intro @xIf_f (And.intro @xIf_tt (And.intro @xEx0 (And.intro @xEx1 (And.intro @xEx2 (And.intro @xEx3 (And.intro @xBin_eqs (And.intro @xBin_nes (And.intro @xUn_not (And.intro @xu8_com (And.intro @xu8_eql 
  (And.intro @xu8_neq (And.intro @xu8_lss (And.intro @xu8_gtr (And.intro @xu16_com (And.intro @xu16_eql (And.intro @xu16_neq (And.intro @xu16_lss (And.intro @xu16_gtr (And.intro @xu32_com (And.intro @xu32_eql (And.intro @xu32_neq (And.intro @xu32_lss (And.intro @xu32_gtr (And.intro @xu64_com (And.intro @xu64_eql (And.intro @xu64_neq (And.intro @xu64_lss 
  (And.intro @xu64_gtr (And.intro @xi64_lss (And.intro @xi64_gtr (And.intro @xi64_eql (And.intro @xi64_neq (And.intro @xi64_neg (And.intro @xMakeFunc_r (And.intro @xSq_r (And.intro @xPur_s (And.intro @xRd_s (And.intro @xRe_s (And.intro @xDet_s (And.intro @xDet_ld (And.intro @xDet_ld2 (And.intro @xDet_ld3 (And.intro @xDet_ld4 (And.intro @xGuard_tt 
  (And.intro @bd_24_0_1 (And.intro @bd_24 (And.intro @bd_27_0_1_2_3 (And.intro @bd_27_0_2_3 (And.intro @bd_27_0_1 (And.intro @bd_27 @mk_25)))))))))))))))))))))))))))))))))))))))))))))))))))))))))))))))))))))))))
theorem RecordLimits_spec (n no space : Int) (w : World) : Gives Try.prog n_loamlaw8_RecordLimits #[i64 n, i64 no, i64 space] w (.bool true) := by
  refine loamlaw8_RecordLimits_of ?_
  unfold loamlaw8_RecordLimits
  refine loamlaw8_known_call (Gives.to (known8_spec _) fun w1 E1 => ?_)
  have z1 := E1.size
  try simp only [World.size_alloc, World.size_setCell, World.size_drew] at z1
  by_cases h1 : n < 4090
  · simp (disch := (first | omega | decide | (simp only [World.size_alloc, World.size_setCell, World.size_drew, size_sets, List.mem_cons, List.not_mem_nil, or_false, not_false_eq_true] <;> omega) | fail)) only [↓rsRecL_3, rsRecL_1, Option.isNone_some, Option.isNone_none, tick_eq, tickV_eq, ne_eq, Int.reduceAdd, Int.reduceSub, Int.reduceMul, Int.reduceEq, Int.reduceLT, Int.reduceLE, Int.reduceToNat, Nat.reduceMul, Nat.reduceAdd, Nat.reduceSub, List.nil_append, List.cons_append, List.getElem?_toArray, List.getElem?_cons_zero, List.getElem?_cons_succ, List.setIfInBounds_toArray, List.set_cons_zero, List.set_cons_succ, Option.map_some, List.not_mem_nil, ←decide_not, eq_self]
    exact ⟨by trivial, E1⟩
  by_cases h2 : 4100 < n
  · simp (disch := (first | omega | decide | (simp only [World.size_alloc, World.size_setCell, World.size_drew, size_sets, List.mem_cons, List.not_mem_nil, or_false, not_false_eq_true] <;> omega) | fail)) only [↓rsRecL_3, rsRecL_1, Option.isNone_some, Option.isNone_none, tick_eq, tickV_eq, ne_eq, Int.reduceAdd, Int.reduceSub, Int.reduceMul, Int.reduceEq, Int.reduceLT, Int.reduceLE, Int.reduceToNat, Nat.reduceMul, Nat.reduceAdd, Nat.reduceSub, List.nil_append, List.cons_append, List.getElem?_toArray, List.getElem?_cons_zero, List.getElem?_cons_succ, List.setIfInBounds_toArray, List.set_cons_zero, List.set_cons_succ, Option.map_some, List.not_mem_nil, ←decide_not, eq_self]
    exact ⟨by trivial, E1⟩
  simp (disch := (first | omega | decide | (simp only [World.size_alloc, World.size_setCell, World.size_drew, size_sets, List.mem_cons, List.not_mem_nil, or_false, not_false_eq_true] <;> omega) | fail)) only [↓rsRecL_3, rsRecL_1, Option.isNone_some, Option.isNone_none, tick_eq, tickV_eq, ne_eq, Int.reduceAdd, Int.reduceSub, Int.reduceMul, Int.reduceEq, Int.reduceLT, Int.reduceLE, Int.reduceToNat, Nat.reduceMul, Nat.reduceAdd, Nat.reduceSub, List.nil_append, List.cons_append, List.getElem?_toArray, List.getElem?_cons_zero, List.getElem?_cons_succ, List.setIfInBounds_toArray, List.set_cons_zero, List.set_cons_succ, Option.map_some, List.not_mem_nil, ←decide_not, eq_self]
  have hR : RowAt (w1.alloc (.cells (List.replicate n.toNat (c8 0)).toArray 5)) (some ⟨w1.heap.size, 0, none⟩) (bys (List.replicate n.toNat (BitVec.ofNat 8 0))) := by
    have := (Blk.new (e := 5) w1 (List.replicate n.toNat (c8 0))).row
    simpa [bys] using this
  have hln : (List.replicate n.toNat (BitVec.ofNat 8 0)).length = n.toNat := by simp
  have XA : Ext [] w (w1.alloc (.cells (List.replicate n.toNat (c8 0)).toArray 5)) := E1.alloc' _
  generalize (w1.alloc (.cells (List.replicate n.toNat (c8 0)).toArray 5)) = wA at *
  generalize hD : List.replicate n.toNat (BitVec.ofNat 8 0) = D at *
  rw [← hln]
  refine rec_Encode_call (Yld.mono (rec_Encode_spec ⟨1, BitVec.ofNat 64 0, space, no, D⟩ _ _ _ (by simp only; omega) hR (fun h => by cases h)) ?_)
  rintro u2 w2 ⟨F2, a2, c2, rfl, q1, q2, q3, q4⟩
  have X2 := XA.trans F2
  generalize hr : (⟨1, BitVec.ofNat 64 0, space, no, D⟩ : RC) = r at *
  have hrf : r.kind = 1 ∧ r.sp = space ∧ r.no = no ∧ r.data = D := by subst hr; exact ⟨rfl, rfl, rfl, rfl⟩
  obtain ⟨f1, f2, f3, f4⟩ := hrf
  have hiff : RcOk r ↔ 0 ≤ space ∧ space ≤ 1 ∧ 0 ≤ no ∧ no ≤ 65535 := by
    unfold RcOk
    rw [f1, f2, f3]
    omega
  by_cases hok : RcOk r
  · have h3 := hiff.1 hok
    have hcase : (decide (¬ space = 0) = false ∧ decide (¬ space = 0) = false) ∨ (decide (¬ space = 0) = true ∧ decide (¬ space = 1) = false) := by
      rcases (show space = 0 ∨ space = 1 by omega) with h | h <;> simp [h]
    by_cases h4 : 4096 < n
    · have e : rcErr r = 3 := by rw [rcErr, if_pos hok, if_pos (by rw [f4]; omega)]
      rcases hcase with ⟨d1, d2⟩ | ⟨d1, d2⟩
      · simp (disch := (first | omega | decide | (simp only [World.size_alloc, World.size_setCell, World.size_drew, size_sets, List.mem_cons, List.not_mem_nil, or_false, not_false_eq_true] <;> omega) | fail)) only [↓rsRecL_3, rsRecL_1, Option.isNone_some, Option.isNone_none, tick_eq, tickV_eq, ne_eq, Int.reduceAdd, Int.reduceSub, Int.reduceMul, Int.reduceEq, Int.reduceLT, Int.reduceLE, Int.reduceToNat, Nat.reduceMul, Nat.reduceAdd, Nat.reduceSub, List.nil_append, List.cons_append, List.getElem?_toArray, List.getElem?_cons_zero, List.getElem?_cons_succ, List.setIfInBounds_toArray, List.set_cons_zero, List.set_cons_succ, Option.map_some, List.not_mem_nil, ←decide_not, e, d1, d2]
        exact ⟨by trivial, X2⟩
      · simp (disch := (first | omega | decide | (simp only [World.size_alloc, World.size_setCell, World.size_drew, size_sets, List.mem_cons, List.not_mem_nil, or_false, not_false_eq_true] <;> omega) | fail)) only [↓rsRecL_3, rsRecL_1, Option.isNone_some, Option.isNone_none, tick_eq, tickV_eq, ne_eq, Int.reduceAdd, Int.reduceSub, Int.reduceMul, Int.reduceEq, Int.reduceLT, Int.reduceLE, Int.reduceToNat, Nat.reduceMul, Nat.reduceAdd, Nat.reduceSub, List.nil_append, List.cons_append, List.getElem?_toArray, List.getElem?_cons_zero, List.getElem?_cons_succ, List.setIfInBounds_toArray, List.set_cons_zero, List.set_cons_succ, Option.map_some, List.not_mem_nil, ←decide_not, e, d1, d2]
        exact ⟨by trivial, X2⟩
    · have e : rcErr r = 0 := by rw [rcErr, if_pos hok, if_neg (by rw [f4]; omega)]
      rcases hcase with ⟨d1, d2⟩ | ⟨d1, d2⟩
      · simp (disch := (first | omega | decide | (simp only [World.size_alloc, World.size_setCell, World.size_drew, size_sets, List.mem_cons, List.not_mem_nil, or_false, not_false_eq_true] <;> omega) | fail)) only [↓rsRecL_3, rsRecL_1, Option.isNone_some, Option.isNone_none, tick_eq, tickV_eq, ne_eq, Int.reduceAdd, Int.reduceSub, Int.reduceMul, Int.reduceEq, Int.reduceLT, Int.reduceLE, Int.reduceToNat, Nat.reduceMul, Nat.reduceAdd, Nat.reduceSub, List.nil_append, List.cons_append, List.getElem?_toArray, List.getElem?_cons_zero, List.getElem?_cons_succ, List.setIfInBounds_toArray, List.set_cons_zero, List.set_cons_succ, Option.map_some, List.not_mem_nil, ←decide_not, e, d1, d2]
        exact ⟨by trivial, X2⟩
      · simp (disch := (first | omega | decide | (simp only [World.size_alloc, World.size_setCell, World.size_drew, size_sets, List.mem_cons, List.not_mem_nil, or_false, not_false_eq_true] <;> omega) | fail)) only [↓rsRecL_3, rsRecL_1, Option.isNone_some, Option.isNone_none, tick_eq, tickV_eq, ne_eq, Int.reduceAdd, Int.reduceSub, Int.reduceMul, Int.reduceEq, Int.reduceLT, Int.reduceLE, Int.reduceToNat, Nat.reduceMul, Nat.reduceAdd, Nat.reduceSub, List.nil_append, List.cons_append, List.getElem?_toArray, List.getElem?_cons_zero, List.getElem?_cons_succ, List.setIfInBounds_toArray, List.set_cons_zero, List.set_cons_succ, Option.map_some, List.not_mem_nil, ←decide_not, e, d1, d2]
        exact ⟨by trivial, X2⟩
  · have e : rcErr r = 1 := by rw [rcErr, if_neg hok]
    by_cases hs : space = 0 ∨ space = 1
    · have hcase : (decide (¬ space = 0) = false ∧ decide (¬ space = 0) = false) ∨ (decide (¬ space = 0) = true ∧ decide (¬ space = 1) = false) := by
        rcases hs with h | h <;> simp [h]
      have hn : no < 0 ∨ 65535 < no := by
        by_cases hh : 0 ≤ no ∧ no ≤ 65535
        · exact absurd (hiff.2 ⟨by omega, by omega, hh.1, hh.2⟩) hok
        · omega
      rcases hcase with ⟨d1, d2⟩ | ⟨d1, d2⟩
      · rcases hn with h | h
        · simp (disch := (first | omega | decide | (simp only [World.size_alloc, World.size_setCell, World.size_drew, size_sets, List.mem_cons, List.not_mem_nil, or_false, not_false_eq_true] <;> omega) | fail)) only [↓rsRecL_3, rsRecL_1, Option.isNone_some, Option.isNone_none, tick_eq, tickV_eq, ne_eq, Int.reduceAdd, Int.reduceSub, Int.reduceMul, Int.reduceEq, Int.reduceLT, Int.reduceLE, Int.reduceToNat, Nat.reduceMul, Nat.reduceAdd, Nat.reduceSub, List.nil_append, List.cons_append, List.getElem?_toArray, List.getElem?_cons_zero, List.getElem?_cons_succ, List.setIfInBounds_toArray, List.set_cons_zero, List.set_cons_succ, Option.map_some, List.not_mem_nil, ←decide_not, e, d1, d2]
          exact ⟨by trivial, X2⟩
        · simp (disch := (first | omega | decide | (simp only [World.size_alloc, World.size_setCell, World.size_drew, size_sets, List.mem_cons, List.not_mem_nil, or_false, not_false_eq_true] <;> omega) | fail)) only [↓rsRecL_3, rsRecL_1, Option.isNone_some, Option.isNone_none, tick_eq, tickV_eq, ne_eq, Int.reduceAdd, Int.reduceSub, Int.reduceMul, Int.reduceEq, Int.reduceLT, Int.reduceLE, Int.reduceToNat, Nat.reduceMul, Nat.reduceAdd, Nat.reduceSub, List.nil_append, List.cons_append, List.getElem?_toArray, List.getElem?_cons_zero, List.getElem?_cons_succ, List.setIfInBounds_toArray, List.set_cons_zero, List.set_cons_succ, Option.map_some, List.not_mem_nil, ←decide_not, e, d1, d2]
          exact ⟨by trivial, X2⟩
      · rcases hn with h | h
        · simp (disch := (first | omega | decide | (simp only [World.size_alloc, World.size_setCell, World.size_drew, size_sets, List.mem_cons, List.not_mem_nil, or_false, not_false_eq_true] <;> omega) | fail)) only [↓rsRecL_3, rsRecL_1, Option.isNone_some, Option.isNone_none, tick_eq, tickV_eq, ne_eq, Int.reduceAdd, Int.reduceSub, Int.reduceMul, Int.reduceEq, Int.reduceLT, Int.reduceLE, Int.reduceToNat, Nat.reduceMul, Nat.reduceAdd, Nat.reduceSub, List.nil_append, List.cons_append, List.getElem?_toArray, List.getElem?_cons_zero, List.getElem?_cons_succ, List.setIfInBounds_toArray, List.set_cons_zero, List.set_cons_succ, Option.map_some, List.not_mem_nil, ←decide_not, e, d1, d2]
          exact ⟨by trivial, X2⟩
        · simp (disch := (first | omega | decide | (simp only [World.size_alloc, World.size_setCell, World.size_drew, size_sets, List.mem_cons, List.not_mem_nil, or_false, not_false_eq_true] <;> omega) | fail)) only [↓rsRecL_3, rsRecL_1, Option.isNone_some, Option.isNone_none, tick_eq, tickV_eq, ne_eq, Int.reduceAdd, Int.reduceSub, Int.reduceMul, Int.reduceEq, Int.reduceLT, Int.reduceLE, Int.reduceToNat, Nat.reduceMul, Nat.reduceAdd, Nat.reduceSub, List.nil_append, List.cons_append, List.getElem?_toArray, List.getElem?_cons_zero, List.getElem?_cons_succ, List.setIfInBounds_toArray, List.set_cons_zero, List.set_cons_succ, Option.map_some, List.not_mem_nil, ←decide_not, e, d1, d2]
          exact ⟨by trivial, X2⟩
    · have d1 : decide (¬ space = 0) = true := decide_eq_true (by omega)
      have d2 : decide (¬ space = 1) = true := decide_eq_true (by omega)
      simp (disch := (first | omega | decide | (simp only [World.size_alloc, World.size_setCell, World.size_drew, size_sets, List.mem_cons, List.not_mem_nil, or_false, not_false_eq_true] <;> omega) | fail)) only [↓rsRecL_3, rsRecL_1, Option.isNone_some, Option.isNone_none, tick_eq, tickV_eq, ne_eq, Int.reduceAdd, Int.reduceSub, Int.reduceMul, Int.reduceEq, Int.reduceLT, Int.reduceLE, Int.reduceToNat, Nat.reduceMul, Nat.reduceAdd, Nat.reduceSub, List.nil_append, List.cons_append, List.getElem?_toArray, List.getElem?_cons_zero, List.getElem?_cons_succ, List.setIfInBounds_toArray, List.set_cons_zero, List.set_cons_succ, Option.map_some, List.not_mem_nil, ←decide_not, e, d1, d2]
      exact ⟨by trivial, X2⟩
abbrev rsRecL_4 := (And.intro @xBox_r (And.intro @loadK_some (And.intro @loadsK_s (And.intro @loadsK_n (And.intro @loadsR_s (And.intro @loadsR_n (And.intro @storesK_s (And.intro @storesK_n (And.intro @xPick_t (And.intro @xPick_f (And.intro @xGuard_tt (And.intro @xGuard_ff (And.intro @xGuard_tf (And.intro @xGuard_ft (And.intro @xGuard_u 
  (And.intro @xNil_r (And.intro @xIf_t (And.intro @xBin_add' (And.intro @xBin_sub' (And.intro @xBin_mul' (And.intro @xBin_quo' (And.intro @xBin_rem' (And.intro @xIf_f (And.intro @xIf_tt (And.intro @xEx0 (And.intro @xEx1 (And.intro @xEx2 (And.intro @xEx3 (And.intro @xBin_eqs (And.intro @xBin_nes (And.intro @xUn_not (And.intro @xu8_rem (And.intro @xu8_com 
  (And.intro @xu8_eql (And.intro @xu8_neq (And.intro @xu8_lss (And.intro @xu8_gtr (And.intro @xu16_rem (And.intro @xu16_com (And.intro @xu16_eql (And.intro @xu16_neq (And.intro @xu16_lss (And.intro @xu16_gtr (And.intro @xu32_rem (And.intro @xu32_com (And.intro @xu32_eql (And.intro @xu32_neq (And.intro @xu32_lss (And.intro @xu32_gtr (And.intro @xu64_rem 
  (And.intro @xu64_com (And.intro @xu64_eql (And.intro @xu64_neq (And.intro @xu64_lss (And.intro @xu64_gtr (And.intro @xi64_lss (And.intro @xi64_gtr (And.intro @xi64_eql (And.intro @xi64_neq (And.intro @xi64_neg (And.intro @xMakeFunc_r (And.intro @xSq_r (And.intro @xPur_s (And.intro @xRd_s (And.intro @xRe_s (And.intro @xDet_s (And.intro @xDet_ld 
  (And.intro @xDet_ld2 (And.intro @xDet_ld3 (And.intro @xDet_ld4 (And.intro @xGuard_tt (And.intro @ld_25 (And.intro @ld_27 (And.intro @fa_27_3 (And.intro @al_27 (And.intro @st_27 (And.intro @ln_25 (And.intro @bs_25_0 (And.intro @bs_25_1 (And.intro @bs_25_2 (And.intro @bs_25_4 (And.intro @sh_25 (And.intro @sl_25 @sm_25)))))))))))))))))))))))))))))))))))))))))))))))))))))))))))))))))))))))))))))))))))
theorem RecordCuts_spec (x : Arc) (cut : Int) (m : List (BitVec 8)) (a' : Option Addr) (n' c' : Nat) (w : World) (hA : ArcOk w x) (hM : BytesArg w m a' n' c') : Gives Try.prog n_loamlaw8_RecordCuts #[arcV x, i64 cut, .slice a' n' c'] w (.bool true) := by
  obtain ⟨r, a, c⟩ := x
  obtain ⟨hcap, hnil, hrow⟩ := hA
  simp only at hcap hnil hrow
  have hn' := hM.len
  subst hn'
  refine loamlaw8_RecordCuts_of ?_
  unfold loamlaw8_RecordCuts
  simp (disch := (first | omega | decide | (simp only [World.size_alloc, World.size_setCell, World.size_drew, size_sets, List.mem_cons, List.not_mem_nil, or_false, not_false_eq_true] <;> omega) | fail)) only [↓rsRecL_4, rsRecL_1, Option.isNone_some, Option.isNone_none, tick_eq, tickV_eq, ne_eq, Int.reduceAdd, Int.reduceSub, Int.reduceMul, Int.reduceEq, Int.reduceLT, Int.reduceLE, Int.reduceToNat, Nat.reduceMul, Nat.reduceAdd, Nat.reduceSub, List.nil_append, List.cons_append, List.getElem?_toArray, List.getElem?_cons_zero, List.getElem?_cons_succ, List.setIfInBounds_toArray, List.set_cons_zero, List.set_cons_succ, Option.map_some, List.not_mem_nil, ←decide_not, eq_self]
  refine loamlaw8_known_call (Gives.to (known8_spec _) fun w1 E1 => ?_)
  have z1 := E1.size
  try simp only [World.size_alloc, World.size_setCell, World.size_drew] at z1
  have e1_0 : ∀ o, w1.cell? ⟨w.heap.size, o, none⟩ = _ := fun o => E1.cell_o (by first | omega | (simp only [World.size_alloc, World.size_setCell, World.size_drew, size_sets] <;> omega))
  have T1 : Blk w1 w.heap.size 27 (rcC r a c) := (Blk.at rfl).ext E1 (by simp)
  have X1 : Ext [] w w1 := (Ext.alloc [] w _).trans E1
  by_cases h5 : 500 < r.data.length
  · simp (disch := (first | omega | decide | (simp only [World.size_alloc, World.size_setCell, World.size_drew, size_sets, List.mem_cons, List.not_mem_nil, or_false, not_false_eq_true] <;> omega) | fail)) only [↓rsRecL_4, rsRecL_1, Option.isNone_some, Option.isNone_none, tick_eq, tickV_eq, ne_eq, Int.reduceAdd, Int.reduceSub, Int.reduceMul, Int.reduceEq, Int.reduceLT, Int.reduceLE, Int.reduceToNat, Nat.reduceMul, Nat.reduceAdd, Nat.reduceSub, List.nil_append, List.cons_append, List.getElem?_toArray, List.getElem?_cons_zero, List.getElem?_cons_succ, List.setIfInBounds_toArray, List.set_cons_zero, List.set_cons_succ, Option.map_some, List.not_mem_nil, ←decide_not, e1_0]
    exact ⟨by trivial, X1⟩
  by_cases h6 : 100 < m.length
  · simp (disch := (first | omega | decide | (simp only [World.size_alloc, World.size_setCell, World.size_drew, size_sets, List.mem_cons, List.not_mem_nil, or_false, not_false_eq_true] <;> omega) | fail)) only [↓rsRecL_4, rsRecL_1, Option.isNone_some, Option.isNone_none, tick_eq, tickV_eq, ne_eq, Int.reduceAdd, Int.reduceSub, Int.reduceMul, Int.reduceEq, Int.reduceLT, Int.reduceLE, Int.reduceToNat, Nat.reduceMul, Nat.reduceAdd, Nat.reduceSub, List.nil_append, List.cons_append, List.getElem?_toArray, List.getElem?_cons_zero, List.getElem?_cons_succ, List.setIfInBounds_toArray, List.set_cons_zero, List.set_cons_succ, Option.map_some, List.not_mem_nil, ←decide_not, e1_0]
    exact ⟨by trivial, X1⟩
  by_cases h7 : cut < 0
  · simp (disch := (first | omega | decide | (simp only [World.size_alloc, World.size_setCell, World.size_drew, size_sets, List.mem_cons, List.not_mem_nil, or_false, not_false_eq_true] <;> omega) | fail)) only [↓rsRecL_4, rsRecL_1, Option.isNone_some, Option.isNone_none, tick_eq, tickV_eq, ne_eq, Int.reduceAdd, Int.reduceSub, Int.reduceMul, Int.reduceEq, Int.reduceLT, Int.reduceLE, Int.reduceToNat, Nat.reduceMul, Nat.reduceAdd, Nat.reduceSub, List.nil_append, List.cons_append, List.getElem?_toArray, List.getElem?_cons_zero, List.getElem?_cons_succ, List.setIfInBounds_toArray, List.set_cons_zero, List.set_cons_succ, Option.map_some, List.not_mem_nil, ←decide_not, e1_0]
    exact ⟨by trivial, X1⟩
  simp (disch := (first | omega | decide | (simp only [World.size_alloc, World.size_setCell, World.size_drew, size_sets, List.mem_cons, List.not_mem_nil, or_false, not_false_eq_true] <;> omega) | fail)) only [↓rsRecL_4, rsRecL_1, Option.isNone_some, Option.isNone_none, tick_eq, tickV_eq, ne_eq, Int.reduceAdd, Int.reduceSub, Int.reduceMul, Int.reduceEq, Int.reduceLT, Int.reduceLE, Int.reduceToNat, Nat.reduceMul, Nat.reduceAdd, Nat.reduceSub, List.nil_append, List.cons_append, List.getElem?_toArray, List.getElem?_cons_zero, List.getElem?_cons_succ, List.setIfInBounds_toArray, List.set_cons_zero, List.set_cons_succ, Option.map_some, List.not_mem_nil, ←decide_not, e1_0]
  refine rec_Encode_call (Yld.mono (rec_Encode_spec r a c _ (by omega) (hrow.ext0 X1) hnil) ?_)
  rintro u2 w2 ⟨F2, a2, c2, rfl, q1, q2, q3, q4⟩
  have X2 := X1.trans F2
  by_cases he : rcErr r = 0
  · have d3 : decide (¬ rcErr r = 0) = false := decide_eq_false (fun h => h he)
    have eo : rcEnc r = rcOut r := if_pos he
    rw [eo] at q1 q3
    rw [eo]
    have hpos := rcOut_pos r
    have hout := rcOut_le (r := r) (by omega)
    obtain ⟨k, hk⟩ : ∃ k : Nat, cut % ((rcOut r).length : Int) = k := ⟨(cut % ((rcOut r).length : Int)).toNat, by have := Int.emod_nonneg cut (b := ((rcOut r).length : Int)) (by omega); omega⟩
    have hkl : k < (rcOut r).length := by have := Int.emod_lt_of_pos cut (b := ((rcOut r).length : Int)) (by omega); omega
    simp (disch := (first | omega | decide | (simp only [World.size_alloc, World.size_setCell, World.size_drew, size_sets, List.mem_cons, List.not_mem_nil, or_false, not_false_eq_true] <;> omega) | fail)) only [↓rsRecL_4, rsRecL_1, Option.isNone_some, Option.isNone_none, tick_eq, tickV_eq, ne_eq, Int.reduceAdd, Int.reduceSub, Int.reduceMul, Int.reduceEq, Int.reduceLT, Int.reduceLE, Int.reduceToNat, Nat.reduceMul, Nat.reduceAdd, Nat.reduceSub, List.nil_append, List.cons_append, List.getElem?_toArray, List.getElem?_cons_zero, List.getElem?_cons_succ, List.setIfInBounds_toArray, List.set_cons_zero, List.set_cons_succ, Option.map_some, List.not_mem_nil, ←decide_not, e1_0, d3, hk]
    have R3 : RowAt w2 a2 (bys ((rcOut r).take k)) := by have := q3.take k; rwa [← List.map_take] at this
    refine rec_Decode_call (Gives.to (rec_Decode_cut r a2 k _ c2 w2 he hkl rfl R3 q2) fun w4 F4 => ?_)
    have X4 := X2.trans F4
    have q4' := (q3.ext0 F4).ext0 (Ext.alloc [] w4 (.cells rc0.toArray 27))
    simp (disch := (first | omega | decide | (simp only [World.size_alloc, World.size_setCell, World.size_drew, size_sets, List.mem_cons, List.not_mem_nil, or_false, not_false_eq_true] <;> omega) | fail)) only [↓rsRecL_4, rsRecL_1, Option.isNone_some, Option.isNone_none, tick_eq, tickV_eq, ne_eq, Int.reduceAdd, Int.reduceSub, Int.reduceMul, Int.reduceEq, Int.reduceLT, Int.reduceLE, Int.reduceToNat, Nat.reduceMul, Nat.reduceAdd, Nat.reduceSub, List.nil_append, List.cons_append, List.getElem?_toArray, List.getElem?_cons_zero, List.getElem?_cons_succ, List.setIfInBounds_toArray, List.set_cons_zero, List.set_cons_succ, Option.map_some, List.not_mem_nil, ←decide_not, e1_0, d3, hk]
    refine appB (l := []) (m := rcOut r) (by have := Own.lit (w := w4.alloc (.cells rc0.toArray 27)) (e := 5) (m := 0) (cs := []) (by decide) rfl; rw [World.size_alloc] at this; exact this) rfl (q4'.ext0 (Ext.alloc [] _ _)) q2 q1 (by simp; omega) fun v5 w5 O5 S5 => ?_
    have X5 : Ext [] w2 w5 := S5.new ((F4.alloc' _).alloc' _) (by have := F4.size; simp [blk, Value.ownBlock]; omega)
    have hup : ∀ b ∈ blk v5, w2.heap.size ≤ b := S5.up (by have := F4.size; simp; omega) (by have := F4.size; simp [blk, Value.ownBlock]; omega)
    rw [List.nil_append] at O5
    simp (disch := (first | omega | decide | (simp only [World.size_alloc, World.size_setCell, World.size_drew, size_sets, List.mem_cons, List.not_mem_nil, or_false, not_false_eq_true] <;> omega) | fail)) only [↓rsRecL_4, rsRecL_1, Option.isNone_some, Option.isNone_none, tick_eq, tickV_eq, ne_eq, Int.reduceAdd, Int.reduceSub, Int.reduceMul, Int.reduceEq, Int.reduceLT, Int.reduceLE, Int.reduceToNat, Nat.reduceMul, Nat.reduceAdd, Nat.reduceSub, List.nil_append, List.cons_append, List.getElem?_toArray, List.getElem?_cons_zero, List.getElem?_cons_succ, List.setIfInBounds_toArray, List.set_cons_zero, List.set_cons_succ, Option.map_some, List.not_mem_nil, ←decide_not, e1_0, d3, hk]
    refine appB (l := rcOut r) (m := m) O5 rfl (hM.row.ext0 (X2.trans X5)) hM.nil hM.cap (by omega) fun v6 w6 O6 S6 => ?_
    have X6 : Ext [] w2 w6 := S6.new X5 hup
    obtain ⟨a6, c6, rfl, p1, p2, p3, p4, _⟩ := O6.slice
    simp (disch := (first | omega | decide | (simp only [World.size_alloc, World.size_setCell, World.size_drew, size_sets, List.mem_cons, List.not_mem_nil, or_false, not_false_eq_true] <;> omega) | fail)) only [↓rsRecL_4, rsRecL_1, Option.isNone_some, Option.isNone_none, tick_eq, tickV_eq, ne_eq, Int.reduceAdd, Int.reduceSub, Int.reduceMul, Int.reduceEq, Int.reduceLT, Int.reduceLE, Int.reduceToNat, Nat.reduceMul, Nat.reduceAdd, Nat.reduceSub, List.nil_append, List.cons_append, List.getElem?_toArray, List.getElem?_cons_zero, List.getElem?_cons_succ, List.setIfInBounds_toArray, List.set_cons_zero, List.set_cons_succ, Option.map_some, List.not_mem_nil, ←decide_not, e1_0, d3, hk]
    refine rec_Decode_call (Yld.mono (rec_Decode_spec r m a6 _ c6 w6 he (by omega) rfl p1 p4 p3) ?_)
    rintro u7 w7 ⟨F7, a7, c7, rfl, t1, t2, t3, t4⟩
    have T8 := ((T1.ext (F2.trans (X6.trans F7)) (by simp))).ext (Ext.alloc [] w7 (.cells (rcC r a7 c7).toArray 27)) (by simp)
    have V8 : Blk (w7.alloc (.cells (rcC r a7 c7).toArray 27)) w7.heap.size 27 (rcC r a7 c7) := Blk.at rfl
    have k8 := fun i => T8.cell (i := i)
    have v8 := fun i => V8.cell (i := i)
    have X8 := ((X2.trans X6).trans F7).alloc' (.cells (rcC r a7 c7).toArray 27)
    simp (disch := (first | omega | decide | (simp only [World.size_alloc, World.size_setCell, World.size_drew, size_sets, List.mem_cons, List.not_mem_nil, or_false, not_false_eq_true] <;> omega) | fail)) only [↓rsRecL_4, rsRecL_1, Option.isNone_some, Option.isNone_none, tick_eq, tickV_eq, ne_eq, Int.reduceAdd, Int.reduceSub, Int.reduceMul, Int.reduceEq, Int.reduceLT, Int.reduceLE, Int.reduceToNat, Nat.reduceMul, Nat.reduceAdd, Nat.reduceSub, List.nil_append, List.cons_append, List.getElem?_toArray, List.getElem?_cons_zero, List.getElem?_cons_succ, List.setIfInBounds_toArray, List.set_cons_zero, List.set_cons_succ, Option.map_some, List.not_mem_nil, ←decide_not, e1_0, d3, hk, k8, v8]
    refine rec_Same_call (Gives.to (rec_Same_spec r a7 a c7 c _ (t3.ext0 (Ext.alloc _ _ _)) (hrow.ext0 X8)) fun w9 F9 => ?_)
    simp (disch := (first | omega | decide | (simp only [World.size_alloc, World.size_setCell, World.size_drew, size_sets, List.mem_cons, List.not_mem_nil, or_false, not_false_eq_true] <;> omega) | fail)) only [↓rsRecL_4, rsRecL_1, Option.isNone_some, Option.isNone_none, tick_eq, tickV_eq, ne_eq, Int.reduceAdd, Int.reduceSub, Int.reduceMul, Int.reduceEq, Int.reduceLT, Int.reduceLE, Int.reduceToNat, Nat.reduceMul, Nat.reduceAdd, Nat.reduceSub, List.nil_append, List.cons_append, List.getElem?_toArray, List.getElem?_cons_zero, List.getElem?_cons_succ, List.setIfInBounds_toArray, List.set_cons_zero, List.set_cons_succ, Option.map_some, List.not_mem_nil, ←decide_not, e1_0, d3, hk, k8, v8]
    exact ⟨by trivial, X8.trans F9⟩
  · have d3 : decide (¬ rcErr r = 0) = true := decide_eq_true he
    simp (disch := (first | omega | decide | (simp only [World.size_alloc, World.size_setCell, World.size_drew, size_sets, List.mem_cons, List.not_mem_nil, or_false, not_false_eq_true] <;> omega) | fail)) only [↓rsRecL_4, rsRecL_1, Option.isNone_some, Option.isNone_none, tick_eq, tickV_eq, ne_eq, Int.reduceAdd, Int.reduceSub, Int.reduceMul, Int.reduceEq, Int.reduceLT, Int.reduceLE, Int.reduceToNat, Nat.reduceMul, Nat.reduceAdd, Nat.reduceSub, List.nil_append, List.cons_append, List.getElem?_toArray, List.getElem?_cons_zero, List.getElem?_cons_succ, List.setIfInBounds_toArray, List.set_cons_zero, List.set_cons_succ, Option.map_some, List.not_mem_nil, ←decide_not, e1_0, d3]
    exact ⟨by trivial, X2⟩
end Go.Proofs.Ytknineilpenbnaa
