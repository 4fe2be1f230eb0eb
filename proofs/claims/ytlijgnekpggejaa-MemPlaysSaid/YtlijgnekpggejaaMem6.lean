/- The statement on any calls on words, walked (sq). -/
import Derived.Test.YtlijgnekpggejaaMem5
set_option linter.unusedVariables false
set_option linter.unusedSimpArgs false
set_option maxHeartbeats 4000000
namespace Go.Proofs.Ytlijgnekpggejaa
open Go.Sh Go.RowKit Go.ChangeShapes Go.WideShapes Go.ChangeAt

structure AC where
  op : Int
  to : Int
  src : Int
  n : Int
  w : BitVec 64
  b : List (BitVec 8)
abbrev Act := AC × Option Addr × Nat
abbrev acC (x : Act) : List Value := [i64 x.1.op, i64 x.1.to, i64 x.1.src, i64 x.1.n, u64 x.1.w, .slice x.2.1 x.1.b.length x.2.2]
structure ActOk (w : World) (x : Act) : Prop where
  row : RowAt w x.2.1 (bys x.1.b)
theorem list6 {α : Type} {l : List α} (h : l.length = 6) : ∃ a b c d e f, l = [a, b, c, d, e, f] := by
  match l, h with
  | [a, b, c, d, e, f], _ => exact ⟨a, b, c, d, e, f, rfl⟩
theorem ac_cells {W : World} {cs : List Value} (hl : cs.length = 6) (hc : ∀ (i : Nat) (d : Leaf) (c : Value), [Leaf.int .i64, .int .i64, .int .i64, .int .i64, .int .u64, .row .u8][i]? = some d → cs[i]? = some c → leafOk W d c) :
    ∃ x : Act, cs = acC x ∧ ActOk W x := by
  obtain ⟨c0, c1, c2, c3, c4, c5, rfl⟩ := list6 hl
  obtain ⟨z0, rfl, _⟩ := hc 0 _ _ rfl rfl
  obtain ⟨z1, rfl, _⟩ := hc 1 _ _ rfl rfl
  obtain ⟨z2, rfl, _⟩ := hc 2 _ _ rfl rfl
  obtain ⟨z3, rfl, _⟩ := hc 3 _ _ rfl rfl
  obtain ⟨z4, rfl, k4⟩ := hc 4 _ _ rfl rfl
  obtain ⟨a, n, c, zs, rfl, q1, q2, q3, q4, q5, q6⟩ := hc 5 _ _ rfl rfl
  have B := bytesArg q1 q2 q3 q4 q5 q6
  refine ⟨(⟨z0, z1, z2, z3, BitVec.ofInt 64 z4, zs.map (BitVec.ofInt 8)⟩, a, c), ?_, ⟨B.row⟩⟩
  simp only [acC]
  rw [u64_of (wf_u64 k4).1 (wf_u64 k4).2, ← B.len]
structure ActsArg (w : World) (l : List Act) (a : Option Addr) (n c : Nat) : Prop where
  len : n = l.length
  row : RowAt w a (l.flatMap acC)
  each : ∀ x ∈ l, ActOk w x
set_option maxRecDepth 100000 in
theorem acts_open {H : Type} {enc : TypeId × Value → H} {W : World} {base : Nat} {v : Value} {d : DataW H} {p : List MemPlace} (hv : Value.okWide Try.prog W .any base 65 v) (h : DataW.Trod enc Try.prog W 0 (fun _ => true) true 65 v d p) :
    ∃ a n c l, v = .slice a n c ∧ ActsArg W l a n c := by
  obtain ⟨a, n, c, C, rfl, hn, _, hnil, hall, hR⟩ := open_rows (F := 6) (l := [.int .i64, .int .i64, .int .i64, .int .i64, .int .u64, .row .u8]) Try.underlying65 (by kernel_rfl) (by decide) (by kernel_rfl) hv h
  have each : ∀ i, ∃ x : Act, i < n → C i = acC x ∧ ActOk W x := fun i => by
    by_cases hi : i < n
    · obtain ⟨x, h1, h2⟩ := ac_cells (hall i hi).1 (hall i hi).2
      exact ⟨x, fun _ => ⟨h1, h2⟩⟩
    · exact ⟨(⟨0, 0, 0, 0, 0, []⟩, none, 0), fun h => absurd h hi⟩
  have hX : ∃ X : Nat → Act, ∀ i, i < n → C i = acC (X i) ∧ ActOk W (X i) := ⟨fun i => Classical.choose (each i), fun i => Classical.choose_spec (each i)⟩
  obtain ⟨X, hX⟩ := hX
  refine ⟨a, n, c, (List.range n).map X, rfl, by simp, ?_, fun x hx => ?_⟩
  · rw [flat_map (f := acC) (X := X) fun i hi => (hX i hi).1] at hR
    exact hR
  · obtain ⟨i, hi, rfl⟩ := List.mem_map.1 hx
    exact (hX i (List.mem_range.1 hi)).2
theorem mem_blt {w : World} {base g : Nat} {a : Option Addr} {c : Nat} {ws : List (BitVec 64)} (h : MemIs w base g a c ws) (hw : ws ≠ []) : ∀ x ∈ blkOf a, x < w.heap.size := by
  rcases h.own with e | ⟨gs, rest, rfl, _, hB, _⟩
  · exact absurd e hw
  · simp [blkOf, hB.lt]
theorem mv_succ {ws : List (BitVec 64)} {to src n k : Nat} (h1 : to + n ≤ ws.length) (h2 : src + n ≤ ws.length) (hk : k < n) : (moveW ws to src k).set (to + k) (ws.getD (src + k) c0) = moveW ws to src (k + 1) := by
  apply List.ext_getElem?
  intro i
  rw [List.getElem?_set, moveW_length (by omega) (by omega)]
  by_cases hi : to + k = i
  · subst hi
    rw [if_pos rfl, if_pos (by omega), moveW_in (by omega) (by omega) (by omega) (by omega), show src + (to + k) - to = src + k by omega, List.getD_eq_getElem?_getD, List.getElem?_eq_getElem (by omega)]
    rfl
  · rw [if_neg hi]
    by_cases h3 : to ≤ i ∧ i < to + k
    · rw [moveW_in (by omega) (by omega) h3.1 h3.2, moveW_in (by omega) (by omega) (by omega) (by omega)]
    · rw [moveW_out (by omega) (by omega) h3, moveW_out (by omega) (by omega) (by omega)]
/-- words, and the row that they are -/
def MSt (w0 : World) (n : Nat) (p v : Value) (w : World) : Prop :=
  ∃ base g a c ws, p = ptr g ∧ ws.length = n ∧ MemIs w base g a c ws ∧ OwnU w v ws ∧ Ext [] w0 w ∧ w0.heap.size ≤ base ∧ (∀ x ∈ blk v, w0.heap.size ≤ x) ∧ (ws ≠ [] → ∀ x ∈ blk v, x ∉ blkOf a) ∧ g ∉ blk v
theorem MSt.ext0 {w0 w w' : World} {n : Nat} {p v : Value} (h : MSt w0 n p v w) (hx : Ext [] w w') : MSt w0 n p v w' := by
  obtain ⟨base, g, a, c, ws, h1, h2, M, O, X, h3, h4, h5, h6⟩ := h
  exact ⟨base, g, a, c, ws, h1, h2, M.ext0 hx, O.ext0 hx, X.trans hx, h3, h4, h5, h6⟩
section
variable {w0 w : World} {n j : Nat} {p v : Value} {K : K1} {nxt : List Value → World → Prop}
abbrev rsMem6_0 := (And.intro @xBox_r (And.intro @loadK_some (And.intro @loadsK_s (And.intro @loadsK_n (And.intro @loadsR_s (And.intro @loadsR_n (And.intro @storesK_s (And.intro @storesK_n (And.intro @xPick_t (And.intro @xPick_f (And.intro @xGuard_tt (And.intro @xGuard_ff (And.intro @xGuard_tf (And.intro @xGuard_ft (And.intro @xGuard_u 
  (And.intro @xNil_r (And.intro @xIf_t (And.intro @xBin_add' (And.intro @xBin_sub' (And.intro @xBin_mul' (And.intro @xBin_quo' (And.intro @xBin_rem' (And.intro @xIf_f (And.intro @xIf_tt (And.intro @xEx0 (And.intro @xEx1 (And.intro @xEx2 (And.intro @xEx3 (And.intro @xBin_eqs (And.intro @xBin_nes (And.intro @xUn_not (And.intro @xu8_add (And.intro @xu8_com 
  (And.intro @xu8_eql (And.intro @xu8_neq (And.intro @xu16_add (And.intro @xu16_com (And.intro @xu16_eql (And.intro @xu16_neq (And.intro @xu32_add (And.intro @xu32_com (And.intro @xu32_eql (And.intro @xu32_neq (And.intro @xu64_add (And.intro @xu64_com (And.intro @xu64_eql (And.intro @xu64_neq (And.intro @xi64_eql (And.intro @xi64_neq (And.intro @xi64_neg 
  (And.intro @xMakeFunc_r (And.intro @xSq_r (And.intro @xPur_s (And.intro @xRd_s (And.intro @xRe_s (And.intro @xDet_s (And.intro @xDet_ld (And.intro @xDet_ld2 (And.intro @xDet_ld3 (And.intro @xDet_ld4 (And.intro @xGuard_tt (And.intro @eb_4 @nb_4))))))))))))))))))))))))))))))))))))))))))))))))))))))))))))))
abbrev rsMem6_1 := (And.intro @setCells_c (And.intro @setCells_n (And.intro @World.setCell_alloc_at (And.intro @World.setCell_alloc_past (And.intro @World.cell?_alloc_at (And.intro @World.cell?_alloc_past (And.intro @World.frozen?_alloc_at (And.intro @World.frozen?_alloc_past 
  (And.intro @World.size_alloc (And.intro @dlt_t (And.intro @dlt_f (And.intro @dle_t (And.intro @dle_f (And.intro @deq_t (And.intro @deq_f (And.intro @dne_t (And.intro @dne_f (And.intro @not_true_eq_false (And.intro @Bool.false_and (And.intro @Bool.true_and (And.intro @Bool.and_true (And.intro @Bool.and_false (And.intro @wrap_in (And.intro @Int.toNat_natCast 
  (And.intro @Nat.mul_one (And.intro @cells_int (And.intro @cells_bool (And.intro @cells_string (And.intro @cells_slice (And.intro @cells_pointer (And.intro @cells_agg (And.intro @one_int (And.intro @one_bool (And.intro @one_string (And.intro @one_slice (And.intro @one_pointer (And.intro @beq_tt (And.intro @beq_ff (And.intro @beq_tf 
  (And.intro @beq_ft (And.intro @cell_sets_b (And.intro @frozen_sets (And.intro @size_sets (And.intro @World.size_drew (And.intro @Nat.zero_add (And.intro @Nat.add_zero (And.intro @cell_drew (And.intro @frozen_drew (And.intro @cell_set_eq (And.intro @cell_set_o (And.intro @cell_set_b (And.intro @World.frozen?_setCell 
  (And.intro @decide_true (And.intro @decide_false (And.intro @not_false_eq_true (And.intro @Bool.not_true @Bool.not_false))))))))))))))))))))))))))))))))))))))))))))))))))))))))
theorem playTail {er : Int} {ok : Bool} (h : (er = 0 ∧ ok = true) ∨ (er = 1 ∧ ok = false)) (S : MSt w0 n p v w) (hj : j ≤ 1000) (hnx : ∀ w', MSt w0 n p v w' → nxt [p, v, i64 ((j + 1 : Nat) : Int)] w') :
    loamlaw13_MemPlays_j1 K nxt p v (i64 (j : Int)) (i64 er) (.bool ok) w := by
  have S' := S
  obtain ⟨base, g, a, c, ws, rfl, hn, M, O, X, h3, h4, h5, h6⟩ := S'
  obtain ⟨r, cr, rfl, hcr, _, hnr, hrr, _⟩ := O.slice
  have e2 : ((j : Int) + 1) = ((j + 1 : Nat) : Int) := by omega
  unfold loamlaw13_MemPlays_j1
  rcases h with ⟨rfl, rfl⟩ | ⟨rfl, rfl⟩
  · simp (disch := (first | omega | decide | (simp only [World.size_alloc, World.size_setCell, World.size_drew, size_sets, List.mem_cons, List.not_mem_nil, or_false, not_false_eq_true] <;> omega) | fail)) only [↓rsMem6_0, rsMem6_1, Option.isNone_some, Option.isNone_none, tick_eq, tickV_eq, ne_eq, Int.reduceAdd, Int.reduceSub, Int.reduceMul, Int.reduceEq, Int.reduceLT, Int.reduceLE, Int.reduceToNat, Nat.reduceMul, Nat.reduceAdd, Nat.reduceSub, List.nil_append, List.cons_append, List.getElem?_toArray, List.getElem?_cons_zero, List.getElem?_cons_succ, List.setIfInBounds_toArray, List.set_cons_zero, List.set_cons_succ, Option.map_some, List.not_mem_nil, ←decide_not, eq_self]
    refine loamlaw13_same_call (Gives.to (same13_spec M hrr) fun w2 F2 => ?_)
    simp (disch := (first | omega | decide | (simp only [World.size_alloc, World.size_setCell, World.size_drew, size_sets, List.mem_cons, List.not_mem_nil, or_false, not_false_eq_true] <;> omega) | fail)) only [↓rsMem6_0, rsMem6_1, Option.isNone_some, Option.isNone_none, tick_eq, tickV_eq, ne_eq, Int.reduceAdd, Int.reduceSub, Int.reduceMul, Int.reduceEq, Int.reduceLT, Int.reduceLE, Int.reduceToNat, Nat.reduceMul, Nat.reduceAdd, Nat.reduceSub, List.nil_append, List.cons_append, List.getElem?_toArray, List.getElem?_cons_zero, List.getElem?_cons_succ, List.setIfInBounds_toArray, List.set_cons_zero, List.set_cons_succ, Option.map_some, List.not_mem_nil, ←decide_not, eq_self]
    rw [e2]
    exact hnx _ (S.ext0 F2)
  · simp (disch := (first | omega | decide | (simp only [World.size_alloc, World.size_setCell, World.size_drew, size_sets, List.mem_cons, List.not_mem_nil, or_false, not_false_eq_true] <;> omega) | fail)) only [↓rsMem6_0, rsMem6_1, Option.isNone_some, Option.isNone_none, tick_eq, tickV_eq, ne_eq, Int.reduceAdd, Int.reduceSub, Int.reduceMul, Int.reduceEq, Int.reduceLT, Int.reduceLE, Int.reduceToNat, Nat.reduceMul, Nat.reduceAdd, Nat.reduceSub, List.nil_append, List.cons_append, List.getElem?_toArray, List.getElem?_cons_zero, List.getElem?_cons_succ, List.setIfInBounds_toArray, List.set_cons_zero, List.set_cons_succ, Option.map_some, List.not_mem_nil, ←decide_not, eq_self]
    refine loamlaw13_same_call (Gives.to (same13_spec M hrr) fun w2 F2 => ?_)
    simp (disch := (first | omega | decide | (simp only [World.size_alloc, World.size_setCell, World.size_drew, size_sets, List.mem_cons, List.not_mem_nil, or_false, not_false_eq_true] <;> omega) | fail)) only [↓rsMem6_0, rsMem6_1, Option.isNone_some, Option.isNone_none, tick_eq, tickV_eq, ne_eq, Int.reduceAdd, Int.reduceSub, Int.reduceMul, Int.reduceEq, Int.reduceLT, Int.reduceLE, Int.reduceToNat, Nat.reduceMul, Nat.reduceAdd, Nat.reduceSub, List.nil_append, List.cons_append, List.getElem?_toArray, List.getElem?_cons_zero, List.getElem?_cons_succ, List.setIfInBounds_toArray, List.set_cons_zero, List.set_cons_succ, Option.map_some, List.not_mem_nil, ←decide_not, eq_self]
    rw [e2]
    exact hnx _ (S.ext0 F2)
end
abbrev rsMem6_2 := (And.intro @xBox_r (And.intro @loadK_some (And.intro @loadsK_s (And.intro @loadsK_n (And.intro @loadsR_s (And.intro @loadsR_n (And.intro @storesK_s (And.intro @storesK_n (And.intro @xPick_t (And.intro @xPick_f (And.intro @xGuard_tt (And.intro @xGuard_ff (And.intro @xGuard_tf (And.intro @xGuard_ft (And.intro @xGuard_u 
  (And.intro @xNil_r (And.intro @xIf_t (And.intro @xBin_add' (And.intro @xBin_sub' (And.intro @xBin_mul' (And.intro @xBin_quo' (And.intro @xBin_rem' (And.intro @xIf_f (And.intro @xIf_tt (And.intro @xEx0 (And.intro @xEx1 (And.intro @xEx2 (And.intro @xEx3 (And.intro @xBin_eqs (And.intro @xBin_nes (And.intro @xUn_not (And.intro @xu8_add (And.intro @xu8_com 
  (And.intro @xu16_add (And.intro @xu16_com (And.intro @xu32_add (And.intro @xu32_com (And.intro @xu64_add (And.intro @xu64_com (And.intro @xMakeFunc_r (And.intro @xSq_r (And.intro @xPur_s (And.intro @xRd_s (And.intro @xRe_s (And.intro @xDet_s (And.intro @xDet_ld (And.intro @xDet_ld2 (And.intro @xDet_ld3 (And.intro @xDet_ld4 (And.intro @xGuard_tt 
  (And.intro @ld_58 (And.intro @fa_78_0 (And.intro @ln_58 (And.intro @sh_58 (And.intro @sm_58 @sb_58)))))))))))))))))))))))))))))))))))))))))))))))))))))))
theorem Move_nil {w : World} {base g : Nat} {a : Option Addr} {c : Nat} (h : MemIs w base g a c []) : Gives Try.prog n_mem_Mem_Move #[ptr g, i64 0, i64 0, i64 0] w (i64 0) := by
  refine mem_Mem_Move_of ?_
  unfold mem_Mem_Move
  have hd : w.cell? ⟨g, 0, none⟩ = some (.slice a 0 c) := h.hd
  have hv : decide (among 0 0 0) = true := by decide
  simp (disch := (first | omega | decide | (simp only [World.size_alloc, World.size_setCell, World.size_drew, size_sets, List.mem_cons, List.not_mem_nil, or_false, not_false_eq_true] <;> omega) | fail)) only [↓rsMem6_2, rsMem6_1, Option.isNone_some, Option.isNone_none, tick_eq, tickV_eq, ne_eq, Int.reduceAdd, Int.reduceSub, Int.reduceMul, Int.reduceEq, Int.reduceLT, Int.reduceLE, Int.reduceToNat, Nat.reduceMul, Nat.reduceAdd, Nat.reduceSub, List.nil_append, List.cons_append, List.getElem?_toArray, List.getElem?_cons_zero, List.getElem?_cons_succ, List.setIfInBounds_toArray, List.set_cons_zero, List.set_cons_succ, Option.map_some, List.not_mem_nil, ←decide_not, hd]
  refine mem_in_call (Gives.to (min_spec 0 0 0 w (by omega) (by omega)) fun w1 F1 => ?_)
  rw [hv]
  have hd1 : w1.cell? ⟨g, 0, none⟩ = some (.slice a 0 c) := (h.ext0 F1).hd
  simp (disch := (first | omega | decide | (simp only [World.size_alloc, World.size_setCell, World.size_drew, size_sets, List.mem_cons, List.not_mem_nil, or_false, not_false_eq_true] <;> omega) | fail)) only [↓rsMem6_2, rsMem6_1, Option.isNone_some, Option.isNone_none, tick_eq, tickV_eq, ne_eq, Int.reduceAdd, Int.reduceSub, Int.reduceMul, Int.reduceEq, Int.reduceLT, Int.reduceLE, Int.reduceToNat, Nat.reduceMul, Nat.reduceAdd, Nat.reduceSub, List.nil_append, List.cons_append, List.getElem?_toArray, List.getElem?_cons_zero, List.getElem?_cons_succ, List.setIfInBounds_toArray, List.set_cons_zero, List.set_cons_succ, Option.map_some, List.not_mem_nil, ←decide_not, hd, hd1]
  refine mem_in_call (Gives.to (min_spec 0 0 0 w1 (by omega) (by omega)) fun w2 F2 => ?_)
  rw [hv]
  have hd2 : w2.cell? ⟨g, 0, none⟩ = some (.slice a 0 c) := ((h.ext0 F1).ext0 F2).hd
  have hgl := ((h.ext0 F1).ext0 F2).lt
  simp (disch := (first | omega | decide | (simp only [World.size_alloc, World.size_setCell, World.size_drew, size_sets, List.mem_cons, List.not_mem_nil, or_false, not_false_eq_true] <;> omega) | fail)) only [↓rsMem6_2, rsMem6_1, Option.isNone_some, Option.isNone_none, tick_eq, tickV_eq, ne_eq, Int.reduceAdd, Int.reduceSub, Int.reduceMul, Int.reduceEq, Int.reduceLT, Int.reduceLE, Int.reduceToNat, Nat.reduceMul, Nat.reduceAdd, Nat.reduceSub, List.nil_append, List.cons_append, List.getElem?_toArray, List.getElem?_cons_zero, List.getElem?_cons_succ, List.setIfInBounds_toArray, List.set_cons_zero, List.set_cons_succ, Option.map_some, List.not_mem_nil, ←decide_not, hd, hd1]
  refine xDraw_ext [] [] ?_
  simp (disch := (first | omega | decide | (simp only [World.size_alloc, World.size_setCell, World.size_drew, size_sets, List.mem_cons, List.not_mem_nil, or_false, not_false_eq_true] <;> omega) | fail)) only [↓rsMem6_2, rsMem6_1, Option.isNone_some, Option.isNone_none, tick_eq, tickV_eq, ne_eq, Int.reduceAdd, Int.reduceSub, Int.reduceMul, Int.reduceEq, Int.reduceLT, Int.reduceLE, Int.reduceToNat, Nat.reduceMul, Nat.reduceAdd, Nat.reduceSub, List.nil_append, List.cons_append, List.getElem?_toArray, List.getElem?_cons_zero, List.getElem?_cons_succ, List.setIfInBounds_toArray, List.set_cons_zero, List.set_cons_succ, Option.map_some, List.not_mem_nil, ←decide_not, hd, hd1, hd2]
  refine xEnd_i fun v2 hw2 => ?_
  have E3 : Ext [] w2 v2 := (Ext.drew [] w2).trans hw2.ext
  rw [xCopy_none (e := 23) (by kernel_rfl) (by kernel_rfl) (by simp)]
  simp (disch := (first | omega | decide | (simp only [World.size_alloc, World.size_setCell, World.size_drew, size_sets, List.mem_cons, List.not_mem_nil, or_false, not_false_eq_true] <;> omega) | fail)) only [↓rsMem6_2, rsMem6_1, Option.isNone_some, Option.isNone_none, tick_eq, tickV_eq, ne_eq, Int.reduceAdd, Int.reduceSub, Int.reduceMul, Int.reduceEq, Int.reduceLT, Int.reduceLE, Int.reduceToNat, Nat.reduceMul, Nat.reduceAdd, Nat.reduceSub, List.nil_append, List.cons_append, List.getElem?_toArray, List.getElem?_cons_zero, List.getElem?_cons_succ, List.setIfInBounds_toArray, List.set_cons_zero, List.set_cons_succ, Option.map_some, List.not_mem_nil, ←decide_not, hd, hd1, hd2]
  exact ⟨by trivial, (F1.trans F2).trans E3⟩
abbrev rsMem6_3 := (And.intro @xBox_r (And.intro @loadK_some (And.intro @loadsK_s (And.intro @loadsK_n (And.intro @loadsR_s (And.intro @loadsR_n (And.intro @storesK_s (And.intro @storesK_n (And.intro @xPick_t (And.intro @xPick_f (And.intro @xGuard_tt (And.intro @xGuard_ff (And.intro @xGuard_tf (And.intro @xGuard_ft (And.intro @xGuard_u 
  (And.intro @xNil_r (And.intro @xIf_t (And.intro @xBin_add' (And.intro @xBin_sub' (And.intro @xBin_mul' (And.intro @xBin_quo' (And.intro @xBin_rem' (And.intro @xIf_f (And.intro @xIf_tt (And.intro @xEx0 (And.intro @xEx1 (And.intro @xEx2 (And.intro @xEx3 (And.intro @xBin_eqs (And.intro @xBin_nes (And.intro @xUn_not (And.intro @xu8_add (And.intro @xu8_mul 
  (And.intro @xu8_rem (And.intro @xu8_quo (And.intro @xu8_or (And.intro @xu8_andNot (And.intro @xu8_com (And.intro @xu8_shl (And.intro @xu8_lss (And.intro @xu16_add (And.intro @xu16_mul (And.intro @xu16_rem (And.intro @xu16_quo (And.intro @xu16_or (And.intro @xu16_andNot (And.intro @xu16_com (And.intro @xu16_shl (And.intro @xu16_lss (And.intro @xu32_add 
  (And.intro @xu32_mul (And.intro @xu32_rem (And.intro @xu32_quo (And.intro @xu32_or (And.intro @xu32_andNot (And.intro @xu32_com (And.intro @xu32_shl (And.intro @xu32_lss (And.intro @xu64_add (And.intro @xu64_mul (And.intro @xu64_rem (And.intro @xu64_quo (And.intro @xu64_or (And.intro @xu64_andNot (And.intro @xu64_com (And.intro @xu64_shl 
  (And.intro @xu64_lss (And.intro @xi64_lss (And.intro @xi64_or (And.intro @xi64_shl (And.intro @xMakeFunc_r (And.intro @xSq_r (And.intro @xPur_s (And.intro @xRd_s (And.intro @xRe_s (And.intro @xDet_s (And.intro @xDet_ld (And.intro @xDet_ld2 (And.intro @xDet_ld3 (And.intro @xDet_ld4 (And.intro @xGuard_tt (And.intro @ld_5 (And.intro @ld_23 (And.intro @ld_58 
  (And.intro @fa_78_0 (And.intro @st_23 (And.intro @cv_5_23 (And.intro @ia_22 (And.intro @ia_58 (And.intro @ln_22 @ln_58))))))))))))))))))))))))))))))))))))))))))))))))))))))))))))))))))))))))))))))))))))))))))
theorem SetBytes_nil {w : World} {base g : Nat} {a ab : Option Addr} {c cb : Nat} (h : MemIs w base g a c []) : Gives Try.prog n_mem_Mem_SetBytes #[ptr g, i64 0, .slice ab 0 cb] w (i64 0) := by
  refine mem_Mem_SetBytes_of ?_
  unfold mem_Mem_SetBytes
  have hd : w.cell? ⟨g, 0, none⟩ = some (.slice a 0 c) := h.hd
  have hv : decide (among 0 0 0) = true := by decide
  simp (disch := (first | omega | decide | (simp only [World.size_alloc, World.size_setCell, World.size_drew, size_sets, List.mem_cons, List.not_mem_nil, or_false, not_false_eq_true] <;> omega) | fail)) only [↓rsMem6_3, rsMem6_1, Option.isNone_some, Option.isNone_none, tick_eq, tickV_eq, ne_eq, Int.reduceAdd, Int.reduceSub, Int.reduceMul, Int.reduceEq, Int.reduceLT, Int.reduceLE, Int.reduceToNat, Nat.reduceMul, Nat.reduceAdd, Nat.reduceSub, List.nil_append, List.cons_append, List.getElem?_toArray, List.getElem?_cons_zero, List.getElem?_cons_succ, List.setIfInBounds_toArray, List.set_cons_zero, List.set_cons_succ, Option.map_some, List.not_mem_nil, ←decide_not, hd]
  refine mem_in_call (Gives.to (min_spec 0 0 0 w (by omega) (by omega)) fun w1 F1 => ?_)
  rw [hv]
  simp (disch := (first | omega | decide | (simp only [World.size_alloc, World.size_setCell, World.size_drew, size_sets, List.mem_cons, List.not_mem_nil, or_false, not_false_eq_true] <;> omega) | fail)) only [↓rsMem6_3, rsMem6_1, Option.isNone_some, Option.isNone_none, tick_eq, tickV_eq, ne_eq, Int.reduceAdd, Int.reduceSub, Int.reduceMul, Int.reduceEq, Int.reduceLT, Int.reduceLE, Int.reduceToNat, Nat.reduceMul, Nat.reduceAdd, Nat.reduceSub, List.nil_append, List.cons_append, List.getElem?_toArray, List.getElem?_cons_zero, List.getElem?_cons_succ, List.setIfInBounds_toArray, List.set_cons_zero, List.set_cons_succ, Option.map_some, List.not_mem_nil, ←decide_not, hd]
  refine xLoop_n 0 (fun k => [i64 (k : Int)]) (fun _ w' => Ext [] w w') rfl F1 (fun k hk => absurd hk (by omega)) ?_
  rintro u v1 hu F nxt
  simp only [List.map_cons, List.map_nil, List.cons.injEq, and_true] at hu
  rw [hu]
  unfold mem_Mem_SetBytes_l1
  simp (disch := (first | omega | decide | (simp only [World.size_alloc, World.size_setCell, World.size_drew, size_sets, List.mem_cons, List.not_mem_nil, or_false, not_false_eq_true] <;> omega) | fail)) only [↓rsMem6_3, rsMem6_1, Option.isNone_some, Option.isNone_none, tick_eq, tickV_eq, ne_eq, Int.reduceAdd, Int.reduceSub, Int.reduceMul, Int.reduceEq, Int.reduceLT, Int.reduceLE, Int.reduceToNat, Nat.reduceMul, Nat.reduceAdd, Nat.reduceSub, List.nil_append, List.cons_append, List.getElem?_toArray, List.getElem?_cons_zero, List.getElem?_cons_succ, List.setIfInBounds_toArray, List.set_cons_zero, List.set_cons_succ, Option.map_some, List.not_mem_nil, ←decide_not, hd]
  exact ⟨by trivial, F⟩
end Go.Proofs.Ytlijgnekpggejaa
