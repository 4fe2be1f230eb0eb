/- What the functions on words compute. -/
import Derived.Test.YtknineilpenbnaaDoorMemV
set_option linter.unusedVariables false
set_option linter.unusedSimpArgs false
set_option maxHeartbeats 4000000
namespace Go.Proofs.YtknineilpenbnaaDoor
open Go.Sh Go.RowKit

abbrev ptr (g : Nat) : Value := .pointer (some ⟨g, 0, none⟩)
def blkOf : Option Addr → List Nat
  | some a => [a.block]
  | none => []
/-- words of one's own -/
def OwnW (w : World) (base : Nat) (a : Option Addr) (c : Nat) (ws : List (BitVec 64)) : Prop :=
  ws = [] ∨ ∃ gs rest, a = some ⟨gs, 0, none⟩ ∧ base ≤ gs ∧ Blk w gs 69 (wrds ws ++ rest) ∧ c ≤ (wrds ws ++ rest).length
structure MemIs (w : World) (base g : Nat) (a : Option Addr) (c : Nat) (ws : List (BitVec 64)) : Prop where
  lo : base ≤ g
  hd : w.cell? ⟨g, 0, none⟩ = some (.slice a ws.length c)
  len : ws.length ≤ 8192
  cap : ws.length ≤ c
  nil : a = none → c = 0
  own : OwnW w base a c ws
  apart : ws ≠ [] → g ∉ blkOf a
  up : ∀ x ∈ blkOf a, base ≤ x
theorem MemIs.lt {w : World} {base g : Nat} {a : Option Addr} {c : Nat} {ws : List (BitVec 64)} (h : MemIs w base g a c ws) : g < w.heap.size := World.block_lt_of_cell? w ⟨g, 0, none⟩ h.hd
theorem OwnW.row {w : World} {base : Nat} {a : Option Addr} {c : Nat} {ws : List (BitVec 64)} (h : OwnW w base a c ws) : RowAt w a (wrds ws) := by
  rcases h with rfl | ⟨gs, rest, rfl, _, hB, _⟩
  · exact RowAt.nil
  · have := hB.row.take (wrds ws).length
    rwa [List.take_left' rfl] at this
theorem OwnW.ext {w w' : World} {base : Nat} {a : Option Addr} {c : Nat} {ws : List (BitVec 64)} {M : List Nat} (h : OwnW w base a c ws) (hx : Ext M w w') (hm : ws ≠ [] → ∀ g ∈ blkOf a, g ∉ M) : OwnW w' base a c ws := by
  rcases h with rfl | ⟨gs, rest, rfl, hb, hB, hc⟩
  · exact .inl rfl
  · by_cases hw : ws = []
    · exact .inl hw
    · exact .inr ⟨gs, rest, rfl, hb, hB.ext hx (hm hw gs (by simp [blkOf])), hc⟩
theorem MemIs.ext {w w' : World} {base g : Nat} {a : Option Addr} {c : Nat} {ws : List (BitVec 64)} {M : List Nat} (h : MemIs w base g a c ws) (hx : Ext M w w') (hg : g ∉ M) (hm : ws ≠ [] → ∀ g ∈ blkOf a, g ∉ M) : MemIs w' base g a c ws :=
  ⟨h.lo, by rw [hx.cell (a := ⟨g, 0, none⟩) h.lt hg]; exact h.hd, h.len, h.cap, h.nil, h.own.ext hx hm, h.apart, h.up⟩
theorem MemIs.ext0 {w w' : World} {base g : Nat} {a : Option Addr} {c : Nat} {ws : List (BitVec 64)} (h : MemIs w base g a c ws) (hx : Ext [] w w') : MemIs w' base g a c ws := h.ext hx (by simp) (by simp)

abbrev rsMem_0 := (And.intro @xBox_r (And.intro @loadK_some (And.intro @loadsK_s (And.intro @loadsK_n (And.intro @loadsR_s (And.intro @loadsR_n (And.intro @storesK_s (And.intro @storesK_n (And.intro @xPick_t (And.intro @xPick_f (And.intro @xGuard_tt (And.intro @xGuard_ff (And.intro @xGuard_tf (And.intro @xGuard_ft (And.intro @xGuard_u 
  (And.intro @xNil_r (And.intro @xIf_t (And.intro @xBin_add' (And.intro @xBin_sub' (And.intro @xBin_mul' (And.intro @xBin_quo' (And.intro @xBin_rem' (And.intro @xIf_f (And.intro @xIf_tt (And.intro @xEx0 (And.intro @xEx1 (And.intro @xEx2 (And.intro @xEx3 (And.intro @xBin_eqs (And.intro @xBin_nes (And.intro @xUn_not (And.intro @xu8_sub (And.intro @xu8_leq 
  (And.intro @xu8_geq (And.intro @xu16_sub (And.intro @xu16_leq (And.intro @xu16_geq (And.intro @xu32_sub (And.intro @xu32_leq (And.intro @xu32_geq (And.intro @xu64_sub (And.intro @xu64_leq (And.intro @xu64_geq (And.intro @xi64_leq (And.intro @xi64_geq (And.intro @xMakeFunc_r (And.intro @xSq_r (And.intro @xPur_s (And.intro @xRd_s (And.intro @xRe_s 
  (And.intro @xDet_s (And.intro @xDet_ld (And.intro @xDet_ld2 (And.intro @xDet_ld3 (And.intro @xDet_ld4 @xGuard_tt)))))))))))))))))))))))))))))))))))))))))))))))))))))))
abbrev rsMem_1 := (And.intro @setCells_c (And.intro @setCells_n (And.intro @World.setCell_alloc_at (And.intro @World.setCell_alloc_past (And.intro @World.cell?_alloc_at (And.intro @World.cell?_alloc_past (And.intro @World.frozen?_alloc_at (And.intro @World.frozen?_alloc_past 
  (And.intro @World.size_alloc (And.intro @dlt_t (And.intro @dlt_f (And.intro @dle_t (And.intro @dle_f (And.intro @deq_t (And.intro @deq_f (And.intro @dne_t (And.intro @dne_f (And.intro @not_true_eq_false (And.intro @Bool.false_and (And.intro @Bool.true_and (And.intro @Bool.and_true (And.intro @Bool.and_false (And.intro @wrap_in (And.intro @Int.toNat_natCast 
  (And.intro @Nat.mul_one (And.intro @cells_int (And.intro @cells_bool (And.intro @cells_string (And.intro @cells_slice (And.intro @cells_pointer (And.intro @cells_agg (And.intro @one_int (And.intro @one_bool (And.intro @one_string (And.intro @one_slice (And.intro @one_pointer (And.intro @beq_tt (And.intro @beq_ff (And.intro @beq_tf 
  (And.intro @beq_ft (And.intro @cell_sets_b (And.intro @frozen_sets (And.intro @size_sets (And.intro @World.size_drew (And.intro @Nat.zero_add (And.intro @Nat.add_zero (And.intro @cell_drew (And.intro @frozen_drew (And.intro @cell_set_eq (And.intro @cell_set_o (And.intro @cell_set_b (And.intro @World.frozen?_setCell 
  (And.intro @decide_true (And.intro @decide_false (And.intro @not_false_eq_true (And.intro @Bool.not_true @Bool.not_false))))))))))))))))))))))))))))))))))))))))))))))))))))))))
theorem min_spec (a n all : Int) (w : World) (h0 : 0 ≤ all) (h1 : all ≤ 1000000) : Gives Tryd.prog n_mem_in #[i64 a, i64 n, i64 all] w (.bool (decide (among a n all))) := by
  refine mem_in_of ?_
  unfold mem_in
  simp (disch := (first | omega | decide | (simp only [World.size_alloc, World.size_setCell, World.size_drew, size_sets, List.mem_cons, List.not_mem_nil, or_false, not_false_eq_true] <;> omega) | fail)) only [↓rsMem_0, rsMem_1, Option.isNone_some, Option.isNone_none, tick_eq, tickV_eq, ne_eq, Int.reduceAdd, Int.reduceSub, Int.reduceMul, Int.reduceEq, Int.reduceLT, Int.reduceLE, Int.reduceToNat, Nat.reduceMul, Nat.reduceAdd, Nat.reduceSub, List.nil_append, List.cons_append, List.getElem?_toArray, List.getElem?_cons_zero, List.getElem?_cons_succ, List.setIfInBounds_toArray, List.set_cons_zero, List.set_cons_succ, Option.map_some, List.not_mem_nil, ←decide_not, eq_self]
  by_cases g1 : ¬ 0 ≤ a
  · have hv : decide (among a n all) = false := decide_eq_false (by unfold among; omega)
    simp (disch := (first | omega | decide | (simp only [World.size_alloc, World.size_setCell, World.size_drew, size_sets, List.mem_cons, List.not_mem_nil, or_false, not_false_eq_true] <;> omega) | fail)) only [↓rsMem_0, rsMem_1, Option.isNone_some, Option.isNone_none, tick_eq, tickV_eq, ne_eq, Int.reduceAdd, Int.reduceSub, Int.reduceMul, Int.reduceEq, Int.reduceLT, Int.reduceLE, Int.reduceToNat, Nat.reduceMul, Nat.reduceAdd, Nat.reduceSub, List.nil_append, List.cons_append, List.getElem?_toArray, List.getElem?_cons_zero, List.getElem?_cons_succ, List.setIfInBounds_toArray, List.set_cons_zero, List.set_cons_succ, Option.map_some, List.not_mem_nil, ←decide_not, eq_self, g1, hv]
    exact ⟨by trivial, by (repeat (first | with_reducible exact Ext.refl _ _ | with_reducible assumption | with_reducible refine Ext.alloc' ?_ _ | with_reducible refine Ext.drew' ?_ | with_reducible refine Ext.set' ?_ ?_ | exact .inr (by first | omega | (simp only [World.size_alloc, World.size_drew, World.size_setCell] <;> omega)) | refine Ext.trans ?_ (by with_reducible assumption)))⟩
  replace g1 := Decidable.not_not.1 g1
  by_cases g2 : ¬ 0 ≤ n
  · have hv : decide (among a n all) = false := decide_eq_false (by unfold among; omega)
    simp (disch := (first | omega | decide | (simp only [World.size_alloc, World.size_setCell, World.size_drew, size_sets, List.mem_cons, List.not_mem_nil, or_false, not_false_eq_true] <;> omega) | fail)) only [↓rsMem_0, rsMem_1, Option.isNone_some, Option.isNone_none, tick_eq, tickV_eq, ne_eq, Int.reduceAdd, Int.reduceSub, Int.reduceMul, Int.reduceEq, Int.reduceLT, Int.reduceLE, Int.reduceToNat, Nat.reduceMul, Nat.reduceAdd, Nat.reduceSub, List.nil_append, List.cons_append, List.getElem?_toArray, List.getElem?_cons_zero, List.getElem?_cons_succ, List.setIfInBounds_toArray, List.set_cons_zero, List.set_cons_succ, Option.map_some, List.not_mem_nil, ←decide_not, eq_true g1, g2, hv]
    exact ⟨by trivial, by (repeat (first | with_reducible exact Ext.refl _ _ | with_reducible assumption | with_reducible refine Ext.alloc' ?_ _ | with_reducible refine Ext.drew' ?_ | with_reducible refine Ext.set' ?_ ?_ | exact .inr (by first | omega | (simp only [World.size_alloc, World.size_drew, World.size_setCell] <;> omega)) | refine Ext.trans ?_ (by with_reducible assumption)))⟩
  replace g2 := Decidable.not_not.1 g2
  by_cases g3 : ¬ n ≤ all
  · have hv : decide (among a n all) = false := decide_eq_false (by unfold among; omega)
    simp (disch := (first | omega | decide | (simp only [World.size_alloc, World.size_setCell, World.size_drew, size_sets, List.mem_cons, List.not_mem_nil, or_false, not_false_eq_true] <;> omega) | fail)) only [↓rsMem_0, rsMem_1, Option.isNone_some, Option.isNone_none, tick_eq, tickV_eq, ne_eq, Int.reduceAdd, Int.reduceSub, Int.reduceMul, Int.reduceEq, Int.reduceLT, Int.reduceLE, Int.reduceToNat, Nat.reduceMul, Nat.reduceAdd, Nat.reduceSub, List.nil_append, List.cons_append, List.getElem?_toArray, List.getElem?_cons_zero, List.getElem?_cons_succ, List.setIfInBounds_toArray, List.set_cons_zero, List.set_cons_succ, Option.map_some, List.not_mem_nil, ←decide_not, eq_true g1, eq_true g2, g3, hv]
    exact ⟨by trivial, by (repeat (first | with_reducible exact Ext.refl _ _ | with_reducible assumption | with_reducible refine Ext.alloc' ?_ _ | with_reducible refine Ext.drew' ?_ | with_reducible refine Ext.set' ?_ ?_ | exact .inr (by first | omega | (simp only [World.size_alloc, World.size_drew, World.size_setCell] <;> omega)) | refine Ext.trans ?_ (by with_reducible assumption)))⟩
  replace g3 := Decidable.not_not.1 g3
  by_cases g4 : ¬ a ≤ all - n
  · have hv : decide (among a n all) = false := decide_eq_false (by unfold among; omega)
    simp (disch := (first | omega | decide | (simp only [World.size_alloc, World.size_setCell, World.size_drew, size_sets, List.mem_cons, List.not_mem_nil, or_false, not_false_eq_true] <;> omega) | fail)) only [↓rsMem_0, rsMem_1, Option.isNone_some, Option.isNone_none, tick_eq, tickV_eq, ne_eq, Int.reduceAdd, Int.reduceSub, Int.reduceMul, Int.reduceEq, Int.reduceLT, Int.reduceLE, Int.reduceToNat, Nat.reduceMul, Nat.reduceAdd, Nat.reduceSub, List.nil_append, List.cons_append, List.getElem?_toArray, List.getElem?_cons_zero, List.getElem?_cons_succ, List.setIfInBounds_toArray, List.set_cons_zero, List.set_cons_succ, Option.map_some, List.not_mem_nil, ←decide_not, eq_true g1, eq_true g2, eq_true g3, g4, hv]
    exact ⟨by trivial, by (repeat (first | with_reducible exact Ext.refl _ _ | with_reducible assumption | with_reducible refine Ext.alloc' ?_ _ | with_reducible refine Ext.drew' ?_ | with_reducible refine Ext.set' ?_ ?_ | exact .inr (by first | omega | (simp only [World.size_alloc, World.size_drew, World.size_setCell] <;> omega)) | refine Ext.trans ?_ (by with_reducible assumption)))⟩
  replace g4 := Decidable.not_not.1 g4
  have hv : decide (among a n all) = true := decide_eq_true (by unfold among; omega)
  simp (disch := (first | omega | decide | (simp only [World.size_alloc, World.size_setCell, World.size_drew, size_sets, List.mem_cons, List.not_mem_nil, or_false, not_false_eq_true] <;> omega) | fail)) only [↓rsMem_0, rsMem_1, Option.isNone_some, Option.isNone_none, tick_eq, tickV_eq, ne_eq, Int.reduceAdd, Int.reduceSub, Int.reduceMul, Int.reduceEq, Int.reduceLT, Int.reduceLE, Int.reduceToNat, Nat.reduceMul, Nat.reduceAdd, Nat.reduceSub, List.nil_append, List.cons_append, List.getElem?_toArray, List.getElem?_cons_zero, List.getElem?_cons_succ, List.setIfInBounds_toArray, List.set_cons_zero, List.set_cons_succ, Option.map_some, List.not_mem_nil, ←decide_not, eq_true g1, eq_true g2, eq_true g3, eq_true g4, hv]
  exact ⟨by trivial, by (repeat (first | with_reducible exact Ext.refl _ _ | with_reducible assumption | with_reducible refine Ext.alloc' ?_ _ | with_reducible refine Ext.drew' ?_ | with_reducible refine Ext.set' ?_ ?_ | exact .inr (by first | omega | (simp only [World.size_alloc, World.size_drew, World.size_setCell] <;> omega)) | refine Ext.trans ?_ (by with_reducible assumption)))⟩
def NewOk (w w' : World) (u : Value) (ws : List (BitVec 64)) : Prop := Ext [] w w' ∧ ∃ g a c, u = .tuple #[ptr g, i64 0] ∧ MemIs w' w.heap.size g a c ws
abbrev rsMem_2 := (And.intro @xBox_r (And.intro @loadK_some (And.intro @loadsK_s (And.intro @loadsK_n (And.intro @loadsR_s (And.intro @loadsR_n (And.intro @storesK_s (And.intro @storesK_n (And.intro @xPick_t (And.intro @xPick_f (And.intro @xGuard_tt (And.intro @xGuard_ff (And.intro @xGuard_tf (And.intro @xGuard_ft (And.intro @xGuard_u 
  (And.intro @xNil_r (And.intro @xIf_t (And.intro @xBin_add' (And.intro @xBin_sub' (And.intro @xBin_mul' (And.intro @xBin_quo' (And.intro @xBin_rem' (And.intro @xIf_f (And.intro @xIf_tt (And.intro @xEx0 (And.intro @xEx1 (And.intro @xEx2 (And.intro @xEx3 (And.intro @xBin_eqs (And.intro @xBin_nes (And.intro @xUn_not (And.intro @xu8_lss (And.intro @xu8_gtr 
  (And.intro @xu16_lss (And.intro @xu16_gtr (And.intro @xu32_lss (And.intro @xu32_gtr (And.intro @xu64_lss (And.intro @xu64_gtr (And.intro @xi64_lss (And.intro @xi64_gtr (And.intro @xMakeFunc_r (And.intro @xSq_r (And.intro @xPur_s (And.intro @xRd_s (And.intro @xRe_s (And.intro @xDet_s (And.intro @xDet_ld (And.intro @xDet_ld2 (And.intro @xDet_ld3 
  (And.intro @xDet_ld4 (And.intro @xGuard_tt (And.intro @bd_67_0 @mk_44)))))))))))))))))))))))))))))))))))))))))))))))))))))
theorem New_spec (n : Nat) (w : World) (hn : n ≤ 8192) : Yld Tryd.prog n_mem_New #[i64 n] w fun u w' => NewOk w w' u (List.replicate n c0) := by
  refine mem_New_of ?_
  unfold mem_New
  simp (disch := (first | omega | decide | (simp only [World.size_alloc, World.size_setCell, World.size_drew, size_sets, List.mem_cons, List.not_mem_nil, or_false, not_false_eq_true] <;> omega) | fail)) only [↓rsMem_2, rsMem_1, Option.isNone_some, Option.isNone_none, tick_eq, tickV_eq, ne_eq, Int.reduceAdd, Int.reduceSub, Int.reduceMul, Int.reduceEq, Int.reduceLT, Int.reduceLE, Int.reduceToNat, Nat.reduceMul, Nat.reduceAdd, Nat.reduceSub, List.nil_append, List.cons_append, List.getElem?_toArray, List.getElem?_cons_zero, List.getElem?_cons_succ, List.setIfInBounds_toArray, List.set_cons_zero, List.set_cons_succ, Option.map_some, List.not_mem_nil, ←decide_not, eq_self]
  have hB : Blk (w.alloc (.cells (List.replicate n (c64 0)).toArray 69)) w.heap.size 69 (List.replicate n (c64 0)) := Blk.new w _
  have e : wrds (List.replicate n c0) = List.replicate n (c64 0) := by simp [wrds]
  refine ⟨by (repeat (first | with_reducible exact Ext.refl _ _ | with_reducible assumption | with_reducible refine Ext.alloc' ?_ _ | with_reducible refine Ext.drew' ?_ | with_reducible refine Ext.set' ?_ ?_ | exact .inr (by first | omega | (simp only [World.size_alloc, World.size_drew, World.size_setCell] <;> omega)) | refine Ext.trans ?_ (by with_reducible assumption))), w.heap.size + 1, some ⟨w.heap.size, 0, none⟩, n, rfl, by omega, ?_, by simpa using hn, by simp, (fun h => by cases h), .inr ⟨w.heap.size, [], rfl, Nat.le_refl _, ?_, by simp [wrds]⟩, fun _ => by simp [blkOf], by simp [blkOf]⟩
  · simp (disch := (first | omega | decide | (simp only [World.size_alloc, World.size_setCell, World.size_drew, size_sets, List.mem_cons, List.not_mem_nil, or_false, not_false_eq_true] <;> omega) | fail)) only [↓rsMem_2, rsMem_1, Option.isNone_some, Option.isNone_none, tick_eq, tickV_eq, ne_eq, Int.reduceAdd, Int.reduceSub, Int.reduceMul, Int.reduceEq, Int.reduceLT, Int.reduceLE, Int.reduceToNat, Nat.reduceMul, Nat.reduceAdd, Nat.reduceSub, List.nil_append, List.cons_append, List.getElem?_toArray, List.getElem?_cons_zero, List.getElem?_cons_succ, List.setIfInBounds_toArray, List.set_cons_zero, List.set_cons_succ, Option.map_some, List.not_mem_nil, ←decide_not, eq_self]
    simp
  · rw [List.append_nil, e]
    exact hB.ext (Ext.alloc [] _ _) (by simp)
/-- a row of words that is nobody else's -/
def FreshW (w w' : World) (u : Value) (ws : List (BitVec 64)) : Prop := Ext [] w w' ∧ ∃ a c, u = .slice a ws.length c ∧ ws.length ≤ c ∧ (a = none → c = 0) ∧ OwnW w' w.heap.size a c ws ∧ ∀ x ∈ blkOf a, w.heap.size ≤ x
abbrev rsMem_3 := (And.intro @xBox_r (And.intro @loadK_some (And.intro @loadsK_s (And.intro @loadsK_n (And.intro @loadsR_s (And.intro @loadsR_n (And.intro @storesK_s (And.intro @storesK_n (And.intro @xPick_t (And.intro @xPick_f (And.intro @xGuard_tt (And.intro @xGuard_ff (And.intro @xGuard_tf (And.intro @xGuard_ft (And.intro @xGuard_u 
  (And.intro @xNil_r (And.intro @xIf_t (And.intro @xBin_add' (And.intro @xBin_sub' (And.intro @xBin_mul' (And.intro @xBin_quo' (And.intro @xBin_rem' (And.intro @xIf_f (And.intro @xIf_tt (And.intro @xEx0 (And.intro @xEx1 (And.intro @xEx2 (And.intro @xEx3 (And.intro @xBin_eqs (And.intro @xBin_nes (And.intro @xUn_not (And.intro @xu8_eql (And.intro @xu16_eql 
  (And.intro @xu32_eql (And.intro @xu64_eql (And.intro @xi64_eql (And.intro @xMakeFunc_r (And.intro @xSq_r (And.intro @xPur_s (And.intro @xRd_s (And.intro @xRe_s (And.intro @xDet_s (And.intro @xDet_ld (And.intro @xDet_ld2 (And.intro @xDet_ld3 (And.intro @xDet_ld4 (And.intro @xGuard_tt (And.intro @bs_44_0 @nq_44))))))))))))))))))))))))))))))))))))))))))))))))
theorem Clone_spec (ws : List (BitVec 64)) (a : Option Addr) (c : Nat) (w : World) (hl : ws.length ≤ 1000000) (h : RowAt w a (wrds ws)) (hn : a = none → c = 0) :
    Yld Tryd.prog n_slices_Clone_uint64_uint64 #[.slice a ws.length c] w fun u w' => FreshW w w' u ws := by
  refine slices_Clone_uint64_uint64_of ?_
  unfold slices_Clone_uint64_uint64
  cases a with
  | none =>
    have hw : ws = [] := by rcases h with h | ⟨b, o, h, _⟩; simpa using h; cases h
    subst hw
    simp (disch := (first | omega | decide | (simp only [World.size_alloc, World.size_setCell, World.size_drew, size_sets, List.mem_cons, List.not_mem_nil, or_false, not_false_eq_true] <;> omega) | fail)) only [↓rsMem_3, rsMem_1, Option.isNone_some, Option.isNone_none, tick_eq, tickV_eq, ne_eq, Int.reduceAdd, Int.reduceSub, Int.reduceMul, Int.reduceEq, Int.reduceLT, Int.reduceLE, Int.reduceToNat, Nat.reduceMul, Nat.reduceAdd, Nat.reduceSub, List.nil_append, List.cons_append, List.getElem?_toArray, List.getElem?_cons_zero, List.getElem?_cons_succ, List.setIfInBounds_toArray, List.set_cons_zero, List.set_cons_succ, Option.map_some, List.not_mem_nil, ←decide_not, eq_self]
    exact ⟨by (repeat (first | with_reducible exact Ext.refl _ _ | with_reducible assumption | with_reducible refine Ext.alloc' ?_ _ | with_reducible refine Ext.drew' ?_ | with_reducible refine Ext.set' ?_ ?_ | exact .inr (by first | omega | (simp only [World.size_alloc, World.size_drew, World.size_setCell] <;> omega)) | refine Ext.trans ?_ (by with_reducible assumption))), none, 0, rfl, Nat.le_refl _, fun _ => rfl, .inl rfl, by simp [blkOf]⟩
  | some a =>
    simp (disch := (first | omega | decide | (simp only [World.size_alloc, World.size_setCell, World.size_drew, size_sets, List.mem_cons, List.not_mem_nil, or_false, not_false_eq_true] <;> omega) | fail)) only [↓rsMem_3, rsMem_1, Option.isNone_some, Option.isNone_none, tick_eq, tickV_eq, ne_eq, Int.reduceAdd, Int.reduceSub, Int.reduceMul, Int.reduceEq, Int.reduceLT, Int.reduceLE, Int.reduceToNat, Nat.reduceMul, Nat.reduceAdd, Nat.reduceSub, List.nil_append, List.cons_append, List.getElem?_toArray, List.getElem?_cons_zero, List.getElem?_cons_succ, List.setIfInBounds_toArray, List.set_cons_zero, List.set_cons_succ, Option.map_some, List.not_mem_nil, ←decide_not, eq_self]
    refine xAppend_own (e := 69) (base := w.heap.size) (xs := []) (news := wrds ws) (z := .int .u64 0) (bytes := 8) (by kernel_rfl) (by kernel_rfl) (by rfl) (World.ownsRow_lit w #[] 0 (Nat.le_refl _) (by decide) (by rfl)) (by simp) (h.ext0 (Ext.alloc _ _ _)) hn (by simp [Value.oneCell']) (by omega) (by omega) (by simp) ?_
    intro v' w' hown hgr
    rw [Nat.zero_add, List.nil_append] at hown
    have F2 : Ext [] w w' := grownBy_new (Ext.alloc [] w _) hgr (fun k hk => by simp [Value.ownBlock] at hk; omega)
    obtain ⟨a', c', rfl, _, hc', hn', _⟩ := own_slice hown
    refine ⟨F2, a', c', rfl, hc', hn', ?_, fun x hx => ?_⟩
    rotate_left
    · cases a' with
      | none => simp [blkOf] at hx
      | some y => simp only [blkOf, List.mem_singleton] at hx; subst hx; exact (hown.lt _ rfl).1
    by_cases hw : ws = []
    · exact .inl hw
    · have hpos : 0 < ws.length := List.length_pos_iff.2 hw
      obtain ⟨g, cap, rest, he, hg, hB, hnc, hm, hcl⟩ := own_open hown hpos
      simp only [Value.slice.injEq, true_and] at he
      exact .inr ⟨g, rest, he.1, hg, hB, by rw [he.2, hcl]; exact Nat.le_refl _⟩
abbrev rsMem_4 := (And.intro @xBox_r (And.intro @loadK_some (And.intro @loadsK_s (And.intro @loadsK_n (And.intro @loadsR_s (And.intro @loadsR_n (And.intro @storesK_s (And.intro @storesK_n (And.intro @xPick_t (And.intro @xPick_f (And.intro @xGuard_tt (And.intro @xGuard_ff (And.intro @xGuard_tf (And.intro @xGuard_ft (And.intro @xGuard_u 
  (And.intro @xNil_r (And.intro @xIf_t (And.intro @xBin_add' (And.intro @xBin_sub' (And.intro @xBin_mul' (And.intro @xBin_quo' (And.intro @xBin_rem' (And.intro @xIf_f (And.intro @xIf_tt (And.intro @xEx0 (And.intro @xEx1 (And.intro @xEx2 (And.intro @xEx3 (And.intro @xBin_eqs (And.intro @xBin_nes (And.intro @xUn_not (And.intro @xu8_gtr (And.intro @xu16_gtr 
  (And.intro @xu32_gtr (And.intro @xu64_gtr (And.intro @xi64_gtr (And.intro @xMakeFunc_r (And.intro @xSq_r (And.intro @xPur_s (And.intro @xRd_s (And.intro @xRe_s (And.intro @xDet_s (And.intro @xDet_ld (And.intro @xDet_ld2 (And.intro @xDet_ld3 (And.intro @xDet_ld4 (And.intro @xGuard_tt (And.intro @bd_67_0 @ln_44))))))))))))))))))))))))))))))))))))))))))))))))
theorem Of_spec (ws : List (BitVec 64)) (a : Option Addr) (c : Nat) (w : World) (hl : ws.length ≤ 8192) (h : RowAt w a (wrds ws)) (hn : a = none → c = 0) :
    Yld Tryd.prog n_mem_Of #[.slice a ws.length c] w fun u w' => NewOk w w' u ws := by
  refine mem_Of_of ?_
  unfold mem_Of
  simp (disch := (first | omega | decide | (simp only [World.size_alloc, World.size_setCell, World.size_drew, size_sets, List.mem_cons, List.not_mem_nil, or_false, not_false_eq_true] <;> omega) | fail)) only [↓rsMem_4, rsMem_1, Option.isNone_some, Option.isNone_none, tick_eq, tickV_eq, ne_eq, Int.reduceAdd, Int.reduceSub, Int.reduceMul, Int.reduceEq, Int.reduceLT, Int.reduceLE, Int.reduceToNat, Nat.reduceMul, Nat.reduceAdd, Nat.reduceSub, List.nil_append, List.cons_append, List.getElem?_toArray, List.getElem?_cons_zero, List.getElem?_cons_succ, List.setIfInBounds_toArray, List.set_cons_zero, List.set_cons_succ, Option.map_some, List.not_mem_nil, ←decide_not, eq_self]
  refine slices_Clone_uint64_uint64_call (Yld.mono (Clone_spec ws a c w (by omega) h hn) ?_)
  rintro u w1 ⟨F1, a1, c1, rfl, hc1, hn1, O1, U1⟩
  have z1 := F1.size
  simp (disch := (first | omega | decide | (simp only [World.size_alloc, World.size_setCell, World.size_drew, size_sets, List.mem_cons, List.not_mem_nil, or_false, not_false_eq_true] <;> omega) | fail)) only [↓rsMem_4, rsMem_1, Option.isNone_some, Option.isNone_none, tick_eq, tickV_eq, ne_eq, Int.reduceAdd, Int.reduceSub, Int.reduceMul, Int.reduceEq, Int.reduceLT, Int.reduceLE, Int.reduceToNat, Nat.reduceMul, Nat.reduceAdd, Nat.reduceSub, List.nil_append, List.cons_append, List.getElem?_toArray, List.getElem?_cons_zero, List.getElem?_cons_succ, List.setIfInBounds_toArray, List.set_cons_zero, List.set_cons_succ, Option.map_some, List.not_mem_nil, ←decide_not, eq_self]
  refine ⟨by (repeat (first | with_reducible exact Ext.refl _ _ | with_reducible assumption | with_reducible refine Ext.alloc' ?_ _ | with_reducible refine Ext.drew' ?_ | with_reducible refine Ext.set' ?_ ?_ | exact .inr (by first | omega | (simp only [World.size_alloc, World.size_drew, World.size_setCell] <;> omega)) | refine Ext.trans ?_ (by with_reducible assumption))), w1.heap.size, a1, c1, rfl, z1, ?_, hl, hc1, hn1, O1.ext (Ext.alloc [] _ _) (by simp), fun hw => ?_, U1⟩
  · simp (disch := (first | omega | decide | (simp only [World.size_alloc, World.size_setCell, World.size_drew, size_sets, List.mem_cons, List.not_mem_nil, or_false, not_false_eq_true] <;> omega) | fail)) only [↓rsMem_4, rsMem_1, Option.isNone_some, Option.isNone_none, tick_eq, tickV_eq, ne_eq, Int.reduceAdd, Int.reduceSub, Int.reduceMul, Int.reduceEq, Int.reduceLT, Int.reduceLE, Int.reduceToNat, Nat.reduceMul, Nat.reduceAdd, Nat.reduceSub, List.nil_append, List.cons_append, List.getElem?_toArray, List.getElem?_cons_zero, List.getElem?_cons_succ, List.setIfInBounds_toArray, List.set_cons_zero, List.set_cons_succ, Option.map_some, List.not_mem_nil, ←decide_not, eq_self]
  · rcases O1 with e | ⟨gs, rest, rfl, _, hB, _⟩
    · exact absurd e hw
    · have := hB.lt
      simp [blkOf] <;> omega
section
variable {w : World} {base g : Nat} {a : Option Addr} {c : Nat} {ws : List (BitVec 64)}
abbrev rsMem_5 := (And.intro @xBox_r (And.intro @loadK_some (And.intro @loadsK_s (And.intro @loadsK_n (And.intro @loadsR_s (And.intro @loadsR_n (And.intro @storesK_s (And.intro @storesK_n (And.intro @xPick_t (And.intro @xPick_f (And.intro @xGuard_tt (And.intro @xGuard_ff (And.intro @xGuard_tf (And.intro @xGuard_ft (And.intro @xGuard_u 
  (And.intro @xNil_r (And.intro @xIf_t (And.intro @xBin_add' (And.intro @xBin_sub' (And.intro @xBin_mul' (And.intro @xBin_quo' (And.intro @xBin_rem' (And.intro @xIf_f (And.intro @xIf_tt (And.intro @xEx0 (And.intro @xEx1 (And.intro @xEx2 (And.intro @xEx3 (And.intro @xBin_eqs (And.intro @xBin_nes (And.intro @xUn_not (And.intro @xMakeFunc_r (And.intro @xSq_r 
  (And.intro @xPur_s (And.intro @xRd_s (And.intro @xRe_s (And.intro @xDet_s (And.intro @xDet_ld (And.intro @xDet_ld2 (And.intro @xDet_ld3 (And.intro @xDet_ld4 (And.intro @xGuard_tt (And.intro @ld_44 (And.intro @fa_67_0 @ln_44))))))))))))))))))))))))))))))))))))))))))))
theorem Len_spec (h : MemIs w base g a c ws) : Gives Tryd.prog n_mem_Mem_Len #[ptr g] w (i64 ws.length) := by
  refine mem_Mem_Len_of ?_
  unfold mem_Mem_Len
  simp (disch := (first | omega | decide | (simp only [World.size_alloc, World.size_setCell, World.size_drew, size_sets, List.mem_cons, List.not_mem_nil, or_false, not_false_eq_true] <;> omega) | fail)) only [↓rsMem_5, rsMem_1, Option.isNone_some, Option.isNone_none, tick_eq, tickV_eq, ne_eq, Int.reduceAdd, Int.reduceSub, Int.reduceMul, Int.reduceEq, Int.reduceLT, Int.reduceLE, Int.reduceToNat, Nat.reduceMul, Nat.reduceAdd, Nat.reduceSub, List.nil_append, List.cons_append, List.getElem?_toArray, List.getElem?_cons_zero, List.getElem?_cons_succ, List.setIfInBounds_toArray, List.set_cons_zero, List.set_cons_succ, Option.map_some, List.not_mem_nil, ←decide_not, h.hd]
  exact ⟨by trivial, by (repeat (first | with_reducible exact Ext.refl _ _ | with_reducible assumption | with_reducible refine Ext.alloc' ?_ _ | with_reducible refine Ext.drew' ?_ | with_reducible refine Ext.set' ?_ ?_ | exact .inr (by first | omega | (simp only [World.size_alloc, World.size_drew, World.size_setCell] <;> omega)) | refine Ext.trans ?_ (by with_reducible assumption)))⟩
abbrev rsMem_6 := (And.intro @xBox_r (And.intro @loadK_some (And.intro @loadsK_s (And.intro @loadsK_n (And.intro @loadsR_s (And.intro @loadsR_n (And.intro @storesK_s (And.intro @storesK_n (And.intro @xPick_t (And.intro @xPick_f (And.intro @xGuard_tt (And.intro @xGuard_ff (And.intro @xGuard_tf (And.intro @xGuard_ft (And.intro @xGuard_u 
  (And.intro @xNil_r (And.intro @xIf_t (And.intro @xBin_add' (And.intro @xBin_sub' (And.intro @xBin_mul' (And.intro @xBin_quo' (And.intro @xBin_rem' (And.intro @xIf_f (And.intro @xIf_tt (And.intro @xEx0 (And.intro @xEx1 (And.intro @xEx2 (And.intro @xEx3 (And.intro @xBin_eqs (And.intro @xBin_nes (And.intro @xUn_not (And.intro @xu8_com (And.intro @xu16_com 
  (And.intro @xu32_com (And.intro @xu64_com (And.intro @xMakeFunc_r (And.intro @xSq_r (And.intro @xPur_s (And.intro @xRd_s (And.intro @xRe_s (And.intro @xDet_s (And.intro @xDet_ld (And.intro @xDet_ld2 (And.intro @xDet_ld3 (And.intro @xDet_ld4 (And.intro @xGuard_tt (And.intro @ld_44 (And.intro @ld_69 (And.intro @fa_67_0 (And.intro @ia_44 @ln_44))))))))))))))))))))))))))))))))))))))))))))))))))
theorem Get_ok (i : Nat) (h : MemIs w base g a c ws) (hi : i < ws.length) : Gives Tryd.prog n_mem_Mem_Get #[ptr g, i64 i] w (.tuple #[u64 (ws.getD i c0), i64 0]) := by
  refine mem_Mem_Get_of ?_
  unfold mem_Mem_Get
  have hl := h.len
  simp (disch := (first | omega | decide | (simp only [World.size_alloc, World.size_setCell, World.size_drew, size_sets, List.mem_cons, List.not_mem_nil, or_false, not_false_eq_true] <;> omega) | fail)) only [↓rsMem_6, rsMem_1, Option.isNone_some, Option.isNone_none, tick_eq, tickV_eq, ne_eq, Int.reduceAdd, Int.reduceSub, Int.reduceMul, Int.reduceEq, Int.reduceLT, Int.reduceLE, Int.reduceToNat, Nat.reduceMul, Nat.reduceAdd, Nat.reduceSub, List.nil_append, List.cons_append, List.getElem?_toArray, List.getElem?_cons_zero, List.getElem?_cons_succ, List.setIfInBounds_toArray, List.set_cons_zero, List.set_cons_succ, Option.map_some, List.not_mem_nil, ←decide_not, h.hd]
  refine mem_in_call (Gives.to (min_spec _ _ _ _ (by omega) (by omega)) fun w1 E1 => ?_)
  have z1 := E1.size
  try simp only [World.size_alloc, World.size_setCell, World.size_drew] at z1
  have hv : decide (among (i : Int) 1 ws.length) = true := decide_eq_true (by unfold among; omega)
  have h1 := (h.ext0 E1).hd
  obtain ⟨b, o, rfl, hb, hc⟩ := (h.ext0 E1).own.row.at (i := i) (by simpa using hi)
  simp only [List.getElem_map] at hc
  simp (disch := (first | omega | decide | (simp only [World.size_alloc, World.size_setCell, World.size_drew, size_sets, List.mem_cons, List.not_mem_nil, or_false, not_false_eq_true] <;> omega) | fail)) only [↓rsMem_6, rsMem_1, Option.isNone_some, Option.isNone_none, tick_eq, tickV_eq, ne_eq, Int.reduceAdd, Int.reduceSub, Int.reduceMul, Int.reduceEq, Int.reduceLT, Int.reduceLE, Int.reduceToNat, Nat.reduceMul, Nat.reduceAdd, Nat.reduceSub, List.nil_append, List.cons_append, List.getElem?_toArray, List.getElem?_cons_zero, List.getElem?_cons_succ, List.setIfInBounds_toArray, List.set_cons_zero, List.set_cons_succ, Option.map_some, List.not_mem_nil, ←decide_not, h.hd, hv, h1, hc]
  refine ⟨?_, by (repeat (first | with_reducible exact Ext.refl _ _ | with_reducible assumption | with_reducible refine Ext.alloc' ?_ _ | with_reducible refine Ext.drew' ?_ | with_reducible refine Ext.set' ?_ ?_ | exact .inr (by first | omega | (simp only [World.size_alloc, World.size_drew, World.size_setCell] <;> omega)) | refine Ext.trans ?_ (by with_reducible assumption)))⟩
  rw [List.getD_eq_getElem?_getD, List.getElem?_eq_getElem hi]
  rfl
abbrev rsMem_7 := (And.intro @xBox_r (And.intro @loadK_some (And.intro @loadsK_s (And.intro @loadsK_n (And.intro @loadsR_s (And.intro @loadsR_n (And.intro @storesK_s (And.intro @storesK_n (And.intro @xPick_t (And.intro @xPick_f (And.intro @xGuard_tt (And.intro @xGuard_ff (And.intro @xGuard_tf (And.intro @xGuard_ft (And.intro @xGuard_u 
  (And.intro @xNil_r (And.intro @xIf_t (And.intro @xBin_add' (And.intro @xBin_sub' (And.intro @xBin_mul' (And.intro @xBin_quo' (And.intro @xBin_rem' (And.intro @xIf_f (And.intro @xIf_tt (And.intro @xEx0 (And.intro @xEx1 (And.intro @xEx2 (And.intro @xEx3 (And.intro @xBin_eqs (And.intro @xBin_nes (And.intro @xUn_not (And.intro @xu8_com (And.intro @xu16_com 
  (And.intro @xu32_com (And.intro @xu64_com (And.intro @xMakeFunc_r (And.intro @xSq_r (And.intro @xPur_s (And.intro @xRd_s (And.intro @xRe_s (And.intro @xDet_s (And.intro @xDet_ld (And.intro @xDet_ld2 (And.intro @xDet_ld3 (And.intro @xDet_ld4 (And.intro @xGuard_tt (And.intro @ld_44 (And.intro @fa_67_0 (And.intro @st_69 (And.intro @ia_44 @ln_44))))))))))))))))))))))))))))))))))))))))))))))))))
theorem Set_ok (i : Nat) (v : BitVec 64) (h : MemIs w base g a c ws) (hi : i < ws.length) : Yld Tryd.prog n_mem_Mem_Set #[ptr g, i64 i, u64 v] w fun u w' => u = i64 0 ∧ Ext (blkOf a) w w' ∧ MemIs w' base g a c (ws.set i v) := by
  refine mem_Mem_Set_of ?_
  unfold mem_Mem_Set
  have hl := h.len
  simp (disch := (first | omega | decide | (simp only [World.size_alloc, World.size_setCell, World.size_drew, size_sets, List.mem_cons, List.not_mem_nil, or_false, not_false_eq_true] <;> omega) | fail)) only [↓rsMem_7, rsMem_1, Option.isNone_some, Option.isNone_none, tick_eq, tickV_eq, ne_eq, Int.reduceAdd, Int.reduceSub, Int.reduceMul, Int.reduceEq, Int.reduceLT, Int.reduceLE, Int.reduceToNat, Nat.reduceMul, Nat.reduceAdd, Nat.reduceSub, List.nil_append, List.cons_append, List.getElem?_toArray, List.getElem?_cons_zero, List.getElem?_cons_succ, List.setIfInBounds_toArray, List.set_cons_zero, List.set_cons_succ, Option.map_some, List.not_mem_nil, ←decide_not, h.hd]
  refine mem_in_call (Gives.to (min_spec _ _ _ _ (by omega) (by omega)) fun w1 E1 => ?_)
  have z1 := E1.size
  try simp only [World.size_alloc, World.size_setCell, World.size_drew] at z1
  have hv : decide (among (i : Int) 1 ws.length) = true := decide_eq_true (by unfold among; omega)
  have h1 := h.ext0 E1
  have hw : ws ≠ [] := by intro e; rw [e] at hi; simp at hi
  rcases h1.own with e | ⟨gs, rest, rfl, hb, hB, hc⟩
  · exact absurd e hw
  have c1 : w1.cell? ⟨gs, i, none⟩ = some (u64 ws[i]) := by rw [hB.cell, List.getElem?_append_left (by simpa using hi)]; simp [hi]
  have f1 : w1.frozen? ⟨gs, i, none⟩ = false := hB.frozen
  simp (disch := (first | omega | decide | (simp only [World.size_alloc, World.size_setCell, World.size_drew, size_sets, List.mem_cons, List.not_mem_nil, or_false, not_false_eq_true] <;> omega) | fail)) only [↓rsMem_7, rsMem_1, Option.isNone_some, Option.isNone_none, tick_eq, tickV_eq, ne_eq, Int.reduceAdd, Int.reduceSub, Int.reduceMul, Int.reduceEq, Int.reduceLT, Int.reduceLE, Int.reduceToNat, Nat.reduceMul, Nat.reduceAdd, Nat.reduceSub, List.nil_append, List.cons_append, List.getElem?_toArray, List.getElem?_cons_zero, List.getElem?_cons_succ, List.setIfInBounds_toArray, List.set_cons_zero, List.set_cons_succ, Option.map_some, List.not_mem_nil, ←decide_not, h.hd, hv, h1.hd, c1, f1]
  have B2 := hB.set (i := i) (v := u64 v)
  rw [List.set_append_left _ _ (by simpa using hi)] at B2
  have e2 : (wrds ws).set i (u64 v) = wrds (ws.set i v) := by simp [wrds, List.map_set]
  rw [e2] at B2
  have F2 : Ext [gs] w1 (w1.setCell ⟨gs, i, none⟩ (u64 v)) := Ext.set
  have hg := h1.apart hw
  refine ⟨by trivial, (E1.more (by simp)).trans F2, h1.lo, ?_, by simpa using h1.len, by simpa using h1.cap, h1.nil, .inr ⟨gs, rest, rfl, hb, B2, by simpa using hc⟩, fun _ => hg, h1.up⟩
  have := h1.hd
  rw [F2.cell (a := ⟨g, 0, none⟩) h1.lt hg]
  simpa using this
abbrev rsMem_8 := (And.intro @xBox_r (And.intro @loadK_some (And.intro @loadsK_s (And.intro @loadsK_n (And.intro @loadsR_s (And.intro @loadsR_n (And.intro @storesK_s (And.intro @storesK_n (And.intro @xPick_t (And.intro @xPick_f (And.intro @xGuard_tt (And.intro @xGuard_ff (And.intro @xGuard_tf (And.intro @xGuard_ft (And.intro @xGuard_u 
  (And.intro @xNil_r (And.intro @xIf_t (And.intro @xBin_add' (And.intro @xBin_sub' (And.intro @xBin_mul' (And.intro @xBin_quo' (And.intro @xBin_rem' (And.intro @xIf_f (And.intro @xIf_tt (And.intro @xEx0 (And.intro @xEx1 (And.intro @xEx2 (And.intro @xEx3 (And.intro @xBin_eqs (And.intro @xBin_nes (And.intro @xUn_not (And.intro @xMakeFunc_r (And.intro @xSq_r 
  (And.intro @xPur_s (And.intro @xRd_s (And.intro @xRe_s (And.intro @xDet_s (And.intro @xDet_ld (And.intro @xDet_ld2 (And.intro @xDet_ld3 (And.intro @xDet_ld4 (And.intro @xGuard_tt (And.intro @ln_22 (And.intro @sh_22 @sm_22))))))))))))))))))))))))))))))))))))))))))))
theorem ClipB_spec {b : Option Addr} {n m : Nat} (hm : n ≤ m) : Gives Tryd.prog n_slices_Clip_byte_byte #[.slice b n m] w (.slice b n n) := by
  refine slices_Clip_byte_byte_of ?_
  unfold slices_Clip_byte_byte
  simp (disch := (first | omega | decide | (simp only [World.size_alloc, World.size_setCell, World.size_drew, size_sets, List.mem_cons, List.not_mem_nil, or_false, not_false_eq_true] <;> omega) | fail)) only [↓rsMem_8, rsMem_1, Option.isNone_some, Option.isNone_none, tick_eq, tickV_eq, ne_eq, Int.reduceAdd, Int.reduceSub, Int.reduceMul, Int.reduceEq, Int.reduceLT, Int.reduceLE, Int.reduceToNat, Nat.reduceMul, Nat.reduceAdd, Nat.reduceSub, List.nil_append, List.cons_append, List.getElem?_toArray, List.getElem?_cons_zero, List.getElem?_cons_succ, List.setIfInBounds_toArray, List.set_cons_zero, List.set_cons_succ, Option.map_some, List.not_mem_nil, ←decide_not, eq_self]
  exact ⟨by trivial, by (repeat (first | with_reducible exact Ext.refl _ _ | with_reducible assumption | with_reducible refine Ext.alloc' ?_ _ | with_reducible refine Ext.drew' ?_ | with_reducible refine Ext.set' ?_ ?_ | exact .inr (by first | omega | (simp only [World.size_alloc, World.size_drew, World.size_setCell] <;> omega)) | refine Ext.trans ?_ (by with_reducible assumption)))⟩
abbrev rsMem_9 := (And.intro @xBox_r (And.intro @loadK_some (And.intro @loadsK_s (And.intro @loadsK_n (And.intro @loadsR_s (And.intro @loadsR_n (And.intro @storesK_s (And.intro @storesK_n (And.intro @xPick_t (And.intro @xPick_f (And.intro @xGuard_tt (And.intro @xGuard_ff (And.intro @xGuard_tf (And.intro @xGuard_ft (And.intro @xGuard_u 
  (And.intro @xNil_r (And.intro @xIf_t (And.intro @xBin_add' (And.intro @xBin_sub' (And.intro @xBin_mul' (And.intro @xBin_quo' (And.intro @xBin_rem' (And.intro @xIf_f (And.intro @xIf_tt (And.intro @xEx0 (And.intro @xEx1 (And.intro @xEx2 (And.intro @xEx3 (And.intro @xBin_eqs (And.intro @xBin_nes (And.intro @xUn_not (And.intro @xMakeFunc_r (And.intro @xSq_r 
  (And.intro @xPur_s (And.intro @xRd_s (And.intro @xRe_s (And.intro @xDet_s (And.intro @xDet_ld (And.intro @xDet_ld2 (And.intro @xDet_ld3 (And.intro @xDet_ld4 (And.intro @xGuard_tt (And.intro @ln_44 (And.intro @sh_44 @sm_44))))))))))))))))))))))))))))))))))))))))))))
theorem ClipW_spec {b : Option Addr} {n m : Nat} (hm : n ≤ m) : Gives Tryd.prog n_slices_Clip_uint64_uint64 #[.slice b n m] w (.slice b n n) := by
  refine slices_Clip_uint64_uint64_of ?_
  unfold slices_Clip_uint64_uint64
  simp (disch := (first | omega | decide | (simp only [World.size_alloc, World.size_setCell, World.size_drew, size_sets, List.mem_cons, List.not_mem_nil, or_false, not_false_eq_true] <;> omega) | fail)) only [↓rsMem_9, rsMem_1, Option.isNone_some, Option.isNone_none, tick_eq, tickV_eq, ne_eq, Int.reduceAdd, Int.reduceSub, Int.reduceMul, Int.reduceEq, Int.reduceLT, Int.reduceLE, Int.reduceToNat, Nat.reduceMul, Nat.reduceAdd, Nat.reduceSub, List.nil_append, List.cons_append, List.getElem?_toArray, List.getElem?_cons_zero, List.getElem?_cons_succ, List.setIfInBounds_toArray, List.set_cons_zero, List.set_cons_succ, Option.map_some, List.not_mem_nil, ←decide_not, eq_self]
  exact ⟨by trivial, by (repeat (first | with_reducible exact Ext.refl _ _ | with_reducible assumption | with_reducible refine Ext.alloc' ?_ _ | with_reducible refine Ext.drew' ?_ | with_reducible refine Ext.set' ?_ ?_ | exact .inr (by first | omega | (simp only [World.size_alloc, World.size_drew, World.size_setCell] <;> omega)) | refine Ext.trans ?_ (by with_reducible assumption)))⟩
/-- what a function hands back: a new row of bytes, and no error -/
def BytesR (w w' : World) (u : Value) (l : List (BitVec 8)) : Prop := Ext [] w w' ∧ ∃ a c, u = .tuple #[.slice a l.length c, i64 0] ∧ l.length ≤ c ∧ RowAt w' a (bys l) ∧ ∀ x, a = some x → w.heap.size ≤ x.block
abbrev rsMem_10 := (And.intro @xBox_r (And.intro @loadK_some (And.intro @loadsK_s (And.intro @loadsK_n (And.intro @loadsR_s (And.intro @loadsR_n (And.intro @storesK_s (And.intro @storesK_n (And.intro @xPick_t (And.intro @xPick_f (And.intro @xGuard_tt (And.intro @xGuard_ff (And.intro @xGuard_tf (And.intro @xGuard_ft (And.intro @xGuard_u 
  (And.intro @xNil_r (And.intro @xIf_t (And.intro @xBin_add' (And.intro @xBin_sub' (And.intro @xBin_mul' (And.intro @xBin_quo' (And.intro @xBin_rem' (And.intro @xIf_f (And.intro @xIf_tt (And.intro @xEx0 (And.intro @xEx1 (And.intro @xEx2 (And.intro @xEx3 (And.intro @xBin_eqs (And.intro @xBin_nes (And.intro @xUn_not (And.intro @xu8_add (And.intro @xu8_mul 
  (And.intro @xu8_rem (And.intro @xu8_quo (And.intro @xu8_com (And.intro @xu8_shr (And.intro @xu8_lss (And.intro @xu16_add (And.intro @xu16_mul (And.intro @xu16_rem (And.intro @xu16_quo (And.intro @xu16_com (And.intro @xu16_shr (And.intro @xu16_lss (And.intro @xu32_add (And.intro @xu32_mul (And.intro @xu32_rem (And.intro @xu32_quo (And.intro @xu32_com 
  (And.intro @xu32_shr (And.intro @xu32_lss (And.intro @xu64_add (And.intro @xu64_mul (And.intro @xu64_rem (And.intro @xu64_quo (And.intro @xu64_com (And.intro @xu64_shr (And.intro @xu64_lss (And.intro @xi64_lss (And.intro @xi64_shr (And.intro @xMakeFunc_r (And.intro @xSq_r (And.intro @xPur_s (And.intro @xRd_s (And.intro @xRe_s (And.intro @xDet_s 
  (And.intro @xDet_ld (And.intro @xDet_ld2 (And.intro @xDet_ld3 (And.intro @xDet_ld4 (And.intro @xGuard_tt (And.intro @ld_44 (And.intro @ld_69 (And.intro @fa_67_0 (And.intro @cv_69_5 (And.intro @ia_44 (And.intro @ln_44 (And.intro @bs_22_1 @bs_22_2)))))))))))))))))))))))))))))))))))))))))))))))))))))))))))))))))))))))))))))))
theorem Bytes_ok (at' n : Nat) (h : MemIs w base g a c ws) (hi : at' + n ≤ 8 * ws.length) : Yld Tryd.prog n_mem_Mem_Bytes #[ptr g, i64 at', i64 n] w fun u w' => BytesR w w' u (bytesW ws at' n) := by
  refine mem_Mem_Bytes_of ?_
  unfold mem_Mem_Bytes
  have hl := h.len
  simp (disch := (first | omega | decide | (simp only [World.size_alloc, World.size_setCell, World.size_drew, size_sets, List.mem_cons, List.not_mem_nil, or_false, not_false_eq_true] <;> omega) | fail)) only [↓rsMem_10, rsMem_1, Option.isNone_some, Option.isNone_none, tick_eq, tickV_eq, ne_eq, Int.reduceAdd, Int.reduceSub, Int.reduceMul, Int.reduceEq, Int.reduceLT, Int.reduceLE, Int.reduceToNat, Nat.reduceMul, Nat.reduceAdd, Nat.reduceSub, List.nil_append, List.cons_append, List.getElem?_toArray, List.getElem?_cons_zero, List.getElem?_cons_succ, List.setIfInBounds_toArray, List.set_cons_zero, List.set_cons_succ, Option.map_some, List.not_mem_nil, ←decide_not, h.hd]
  refine mem_in_call (Gives.to (min_spec _ _ _ _ (by omega) (by omega)) fun w1 E1 => ?_)
  have z1 := E1.size
  try simp only [World.size_alloc, World.size_setCell, World.size_drew] at z1
  have hv : decide (among (at' : Int) n (ws.length * 8)) = true := decide_eq_true (by unfold among; omega)
  simp (disch := (first | omega | decide | (simp only [World.size_alloc, World.size_setCell, World.size_drew, size_sets, List.mem_cons, List.not_mem_nil, or_false, not_false_eq_true] <;> omega) | fail)) only [↓rsMem_10, rsMem_1, Option.isNone_some, Option.isNone_none, tick_eq, tickV_eq, ne_eq, Int.reduceAdd, Int.reduceSub, Int.reduceMul, Int.reduceEq, Int.reduceLT, Int.reduceLE, Int.reduceToNat, Nat.reduceMul, Nat.reduceAdd, Nat.reduceSub, List.nil_append, List.cons_append, List.getElem?_toArray, List.getElem?_cons_zero, List.getElem?_cons_succ, List.setIfInBounds_toArray, List.set_cons_zero, List.set_cons_succ, Option.map_some, List.not_mem_nil, ←decide_not, h.hd, hv]
  refine xLoop_r n (fun k vs w' => ∃ u, vs = [u, i64 ((at' : Int) + k)] ∧ Ext [] w w' ∧ w'.ownsRow w.heap.size 5 1 u k (bys (bytesW ws at' k))) ⟨_, by simp, E1, own_nil⟩ ?_ ?_
  · rintro k hk u v1 ⟨s, hu, F1, O1⟩ nxt hnx
    simp only [List.map_cons, List.map_nil, List.cons.injEq, and_true] at hu
    rw [hu.1, hu.2]
    have h1 := h.ext0 F1
    obtain ⟨b, o, rfl, hb, hc⟩ := h1.own.row.at (i := (at' + k) / 8) (by simp; omega)
    simp only [List.getElem_map] at hc
    have t1 : (((at' : Int) + k) / 8).toNat = (at' + k) / 8 := by omega
    have t2 : (8 * (((at' : Int) + k) % 8)).toNat = 8 * ((at' + k) % 8) := by omega
    unfold mem_Mem_Bytes_l1
    have eb : (ws[(at' + k) / 8] >>> (8 * ((at' + k) % 8))).setWidth 8 = byteW ws (at' + k) := by
      unfold byteW
      rw [List.getD_eq_getElem?_getD, List.getElem?_eq_getElem (by omega)]
      rfl
    simp (disch := (first | omega | decide | (simp only [World.size_alloc, World.size_setCell, World.size_drew, size_sets, List.mem_cons, List.not_mem_nil, or_false, not_false_eq_true] <;> omega) | fail)) only [↓rsMem_10, rsMem_1, Option.isNone_some, Option.isNone_none, tick_eq, tickV_eq, ne_eq, Int.reduceAdd, Int.reduceSub, Int.reduceMul, Int.reduceEq, Int.reduceLT, Int.reduceLE, Int.reduceToNat, Nat.reduceMul, Nat.reduceAdd, Nat.reduceSub, List.nil_append, List.cons_append, List.getElem?_toArray, List.getElem?_cons_zero, List.getElem?_cons_succ, List.setIfInBounds_toArray, List.set_cons_zero, List.set_cons_succ, Option.map_some, List.not_mem_nil, ←decide_not, h.hd, hv, h1.hd, t1, hc, t2, eb]
    refine xAppend_own (e := 5) (base := w.heap.size) (news := bys [byteW ws (at' + k)]) (z := .int .u8 0) (bytes := 1) (by kernel_rfl) (by kernel_rfl) (by rfl) (own_ext O1 (Ext.alloc [] v1 _)) (by rfl) (lit_row v1 [byteW ws (at' + k)]) (by simp) bys_ok (by omega) (by omega) (Nat.le_trans F1.size (Ext.alloc [] v1 _).size) ?_
    intro v' w' hown hgr
    have F2 : Ext [] w w' := grownBy_new (F1.trans (Ext.alloc [] v1 _)) hgr (fun g hg => (O1.lt g hg).1)
    simp (disch := (first | omega | decide | (simp only [World.size_alloc, World.size_setCell, World.size_drew, size_sets, List.mem_cons, List.not_mem_nil, or_false, not_false_eq_true] <;> omega) | fail)) only [↓rsMem_10, rsMem_1, Option.isNone_some, Option.isNone_none, tick_eq, tickV_eq, ne_eq, Int.reduceAdd, Int.reduceSub, Int.reduceMul, Int.reduceEq, Int.reduceLT, Int.reduceLE, Int.reduceToNat, Nat.reduceMul, Nat.reduceAdd, Nat.reduceSub, List.nil_append, List.cons_append, List.getElem?_toArray, List.getElem?_cons_zero, List.getElem?_cons_succ, List.setIfInBounds_toArray, List.set_cons_zero, List.set_cons_succ, Option.map_some, List.not_mem_nil, ←decide_not, h.hd, hv, h1.hd, t1, hc, t2, eb]
    refine hnx _ _ ⟨v', by simp [Int.add_assoc], F2, ?_⟩
    unfold bytesW
    rw [List.range_succ, List.map_append]
    simpa [bys, bytesW] using hown
  · rintro u v1 ⟨s, hu, F1, O1⟩ nxt
    simp only [List.map_cons, List.map_nil, List.cons.injEq, and_true] at hu
    rw [hu.1, hu.2]
    obtain ⟨a2, c2, rfl, hl2, hc2, hn2, R2⟩ := own_slice O1
    unfold mem_Mem_Bytes_l1
    simp (disch := (first | omega | decide | (simp only [World.size_alloc, World.size_setCell, World.size_drew, size_sets, List.mem_cons, List.not_mem_nil, or_false, not_false_eq_true] <;> omega) | fail)) only [↓rsMem_10, rsMem_1, Option.isNone_some, Option.isNone_none, tick_eq, tickV_eq, ne_eq, Int.reduceAdd, Int.reduceSub, Int.reduceMul, Int.reduceEq, Int.reduceLT, Int.reduceLE, Int.reduceToNat, Nat.reduceMul, Nat.reduceAdd, Nat.reduceSub, List.nil_append, List.cons_append, List.getElem?_toArray, List.getElem?_cons_zero, List.getElem?_cons_succ, List.setIfInBounds_toArray, List.set_cons_zero, List.set_cons_succ, Option.map_some, List.not_mem_nil, ←decide_not, h.hd, hv]
    refine slices_Clip_byte_byte_call (Gives.to (ClipB_spec hc2) fun w2 F2 => ?_)
    simp (disch := (first | omega | decide | (simp only [World.size_alloc, World.size_setCell, World.size_drew, size_sets, List.mem_cons, List.not_mem_nil, or_false, not_false_eq_true] <;> omega) | fail)) only [↓rsMem_10, rsMem_1, Option.isNone_some, Option.isNone_none, tick_eq, tickV_eq, ne_eq, Int.reduceAdd, Int.reduceSub, Int.reduceMul, Int.reduceEq, Int.reduceLT, Int.reduceLE, Int.reduceToNat, Nat.reduceMul, Nat.reduceAdd, Nat.reduceSub, List.nil_append, List.cons_append, List.getElem?_toArray, List.getElem?_cons_zero, List.getElem?_cons_succ, List.setIfInBounds_toArray, List.set_cons_zero, List.set_cons_succ, Option.map_some, List.not_mem_nil, ←decide_not, h.hd, hv]
    exact ⟨F1.trans F2, a2, n, by rw [bytesW_length], by rw [bytesW_length]; omega, R2.ext0 F2, fun x hx => by subst hx; exact (O1.lt x.block rfl).1⟩
abbrev rsMem_12 := (And.intro @xBox_r (And.intro @loadK_some (And.intro @loadsK_s (And.intro @loadsK_n (And.intro @loadsR_s (And.intro @loadsR_n (And.intro @storesK_s (And.intro @storesK_n (And.intro @xPick_t (And.intro @xPick_f (And.intro @xGuard_tt (And.intro @xGuard_ff (And.intro @xGuard_tf (And.intro @xGuard_ft (And.intro @xGuard_u 
  (And.intro @xNil_r (And.intro @xIf_t (And.intro @xBin_add' (And.intro @xBin_sub' (And.intro @xBin_mul' (And.intro @xBin_quo' (And.intro @xBin_rem' (And.intro @xIf_f (And.intro @xIf_tt (And.intro @xEx0 (And.intro @xEx1 (And.intro @xEx2 (And.intro @xEx3 (And.intro @xBin_eqs (And.intro @xBin_nes (And.intro @xUn_not (And.intro @xMakeFunc_r (And.intro @xSq_r 
  (And.intro @xPur_s (And.intro @xRd_s (And.intro @xRe_s (And.intro @xDet_s (And.intro @xDet_ld (And.intro @xDet_ld2 (And.intro @xDet_ld3 (And.intro @xDet_ld4 (And.intro @xGuard_tt (And.intro @ld_44 @fa_67_0)))))))))))))))))))))))))))))))))))))))))))
theorem Words_spec (h : MemIs w base g a c ws) : Yld Tryd.prog n_mem_Mem_Words #[ptr g] w fun u w' => FreshW w w' u ws := by
  refine mem_Mem_Words_of ?_
  unfold mem_Mem_Words
  have hl := h.len
  simp (disch := (first | omega | decide | (simp only [World.size_alloc, World.size_setCell, World.size_drew, size_sets, List.mem_cons, List.not_mem_nil, or_false, not_false_eq_true] <;> omega) | fail)) only [↓rsMem_12, rsMem_1, Option.isNone_some, Option.isNone_none, tick_eq, tickV_eq, ne_eq, Int.reduceAdd, Int.reduceSub, Int.reduceMul, Int.reduceEq, Int.reduceLT, Int.reduceLE, Int.reduceToNat, Nat.reduceMul, Nat.reduceAdd, Nat.reduceSub, List.nil_append, List.cons_append, List.getElem?_toArray, List.getElem?_cons_zero, List.getElem?_cons_succ, List.setIfInBounds_toArray, List.set_cons_zero, List.set_cons_succ, Option.map_some, List.not_mem_nil, ←decide_not, h.hd]
  refine slices_Clone_uint64_uint64_call (Yld.mono (Clone_spec ws a c w (by omega) h.own.row h.nil) ?_)
  rintro u w1 ⟨F1, a1, c1, rfl, hc1, hn1, O1, U1⟩
  simp (disch := (first | omega | decide | (simp only [World.size_alloc, World.size_setCell, World.size_drew, size_sets, List.mem_cons, List.not_mem_nil, or_false, not_false_eq_true] <;> omega) | fail)) only [↓rsMem_12, rsMem_1, Option.isNone_some, Option.isNone_none, tick_eq, tickV_eq, ne_eq, Int.reduceAdd, Int.reduceSub, Int.reduceMul, Int.reduceEq, Int.reduceLT, Int.reduceLE, Int.reduceToNat, Nat.reduceMul, Nat.reduceAdd, Nat.reduceSub, List.nil_append, List.cons_append, List.getElem?_toArray, List.getElem?_cons_zero, List.getElem?_cons_succ, List.setIfInBounds_toArray, List.set_cons_zero, List.set_cons_succ, Option.map_some, List.not_mem_nil, ←decide_not, h.hd]
  refine slices_Clip_uint64_uint64_call (Gives.to (ClipW_spec hc1) fun w2 F2 => ?_)
  refine ⟨F1.trans F2, a1, ws.length, rfl, Nat.le_refl _, fun e => by have := hn1 e; omega, ?_, U1⟩
  rcases O1.ext F2 (by simp) with e | ⟨gs, rest, rfl, hb, hB, hc⟩
  · exact .inl e
  · exact .inr ⟨gs, rest, rfl, hb, hB, by omega⟩
abbrev rsMem_13 := (And.intro @xBox_r (And.intro @loadK_some (And.intro @loadsK_s (And.intro @loadsK_n (And.intro @loadsR_s (And.intro @loadsR_n (And.intro @storesK_s (And.intro @storesK_n (And.intro @xPick_t (And.intro @xPick_f (And.intro @xGuard_tt (And.intro @xGuard_ff (And.intro @xGuard_tf (And.intro @xGuard_ft (And.intro @xGuard_u 
  (And.intro @xNil_r (And.intro @xIf_t (And.intro @xBin_add' (And.intro @xBin_sub' (And.intro @xBin_mul' (And.intro @xBin_quo' (And.intro @xBin_rem' (And.intro @xIf_f (And.intro @xIf_tt (And.intro @xEx0 (And.intro @xEx1 (And.intro @xEx2 (And.intro @xEx3 (And.intro @xBin_eqs (And.intro @xBin_nes (And.intro @xUn_not (And.intro @xu8_add (And.intro @xu8_mul 
  (And.intro @xu8_rem (And.intro @xu8_quo (And.intro @xu8_or (And.intro @xu8_andNot (And.intro @xu8_com (And.intro @xu8_shl (And.intro @xu8_lss (And.intro @xu16_add (And.intro @xu16_mul (And.intro @xu16_rem (And.intro @xu16_quo (And.intro @xu16_or (And.intro @xu16_andNot (And.intro @xu16_com (And.intro @xu16_shl (And.intro @xu16_lss (And.intro @xu32_add 
  (And.intro @xu32_mul (And.intro @xu32_rem (And.intro @xu32_quo (And.intro @xu32_or (And.intro @xu32_andNot (And.intro @xu32_com (And.intro @xu32_shl (And.intro @xu32_lss (And.intro @xu64_add (And.intro @xu64_mul (And.intro @xu64_rem (And.intro @xu64_quo (And.intro @xu64_or (And.intro @xu64_andNot (And.intro @xu64_com (And.intro @xu64_shl 
  (And.intro @xu64_lss (And.intro @xi64_lss (And.intro @xi64_or (And.intro @xi64_shl (And.intro @xMakeFunc_r (And.intro @xSq_r (And.intro @xPur_s (And.intro @xRd_s (And.intro @xRe_s (And.intro @xDet_s (And.intro @xDet_ld (And.intro @xDet_ld2 (And.intro @xDet_ld3 (And.intro @xDet_ld4 (And.intro @xGuard_tt (And.intro @ld_5 (And.intro @ld_44 (And.intro @ld_69 
  (And.intro @fa_67_0 (And.intro @st_69 (And.intro @cv_5_69 (And.intro @ia_22 (And.intro @ia_44 (And.intro @ln_22 @ln_44))))))))))))))))))))))))))))))))))))))))))))))))))))))))))))))))))))))))))))))))))))))))))
theorem SetBytes_ok (at' : Nat) (l : List (BitVec 8)) (ab : Option Addr) (cb : Nat) (h : MemIs w base g a c ws) (hb : RowAt w ab (bys l)) (hap : ws ≠ [] → l ≠ [] → ∀ b o, ab = some ⟨b, o, none⟩ → b ∉ blkOf a) (hi : at' + l.length ≤ 8 * ws.length) :
    Yld Tryd.prog n_mem_Mem_SetBytes #[ptr g, i64 at', .slice ab l.length cb] w fun u w' => u = i64 0 ∧ Ext (blkOf a) w w' ∧ MemIs w' base g a c (setBytesW ws at' l) := by
  refine mem_Mem_SetBytes_of ?_
  unfold mem_Mem_SetBytes
  have hl := h.len
  simp (disch := (first | omega | decide | (simp only [World.size_alloc, World.size_setCell, World.size_drew, size_sets, List.mem_cons, List.not_mem_nil, or_false, not_false_eq_true] <;> omega) | fail)) only [↓rsMem_13, rsMem_1, Option.isNone_some, Option.isNone_none, tick_eq, tickV_eq, ne_eq, Int.reduceAdd, Int.reduceSub, Int.reduceMul, Int.reduceEq, Int.reduceLT, Int.reduceLE, Int.reduceToNat, Nat.reduceMul, Nat.reduceAdd, Nat.reduceSub, List.nil_append, List.cons_append, List.getElem?_toArray, List.getElem?_cons_zero, List.getElem?_cons_succ, List.setIfInBounds_toArray, List.set_cons_zero, List.set_cons_succ, Option.map_some, List.not_mem_nil, ←decide_not, h.hd]
  refine mem_in_call (Gives.to (min_spec _ _ _ _ (by omega) (by omega)) fun w1 E1 => ?_)
  have z1 := E1.size
  try simp only [World.size_alloc, World.size_setCell, World.size_drew] at z1
  have hv : decide (among (at' : Int) l.length (ws.length * 8)) = true := decide_eq_true (by unfold among; omega)
  simp (disch := (first | omega | decide | (simp only [World.size_alloc, World.size_setCell, World.size_drew, size_sets, List.mem_cons, List.not_mem_nil, or_false, not_false_eq_true] <;> omega) | fail)) only [↓rsMem_13, rsMem_1, Option.isNone_some, Option.isNone_none, tick_eq, tickV_eq, ne_eq, Int.reduceAdd, Int.reduceSub, Int.reduceMul, Int.reduceEq, Int.reduceLT, Int.reduceLE, Int.reduceToNat, Nat.reduceMul, Nat.reduceAdd, Nat.reduceSub, List.nil_append, List.cons_append, List.getElem?_toArray, List.getElem?_cons_zero, List.getElem?_cons_succ, List.setIfInBounds_toArray, List.set_cons_zero, List.set_cons_succ, Option.map_some, List.not_mem_nil, ←decide_not, h.hd, hv]
  refine xLoop_n l.length (fun k => [i64 k]) (fun k w' => Ext (blkOf a) w w' ∧ MemIs w' base g a c (putBs ws at' l k)) ?_ ⟨E1.more (by simp), h.ext0 E1⟩ ?_ ?_
  · rfl
  · rintro k hk u v1 hu ⟨F1, M1⟩ nxt hnx
    simp only [List.map_cons, List.map_nil, List.cons.injEq, and_true] at hu
    rw [hu]
    have hw : ws ≠ [] := by intro e; rw [e, List.length_nil] at hi; omega
    have hlen : (putBs ws at' l k).length = ws.length := putBs_length k
    have hw' : putBs ws at' l k ≠ [] := by intro e; rw [e] at hlen; exact hw (List.eq_nil_of_length_eq_zero (by simpa using hlen.symm))
    have hj : (at' + k) / 8 < (putBs ws at' l k).length := by omega
    obtain ⟨b, o, hab, hbl, hcb⟩ := (hb.ext F1 (hap hw (by intro e; rw [e] at hk; cases hk))).at (i := k) (by simpa using hk)
    simp only [List.getElem_map] at hcb
    have hgn := M1.apart hw'
    rcases M1.own with e | ⟨gs, rest, rfl, hbs, hB, hc⟩
    · exact absurd e hw'
    subst hab
    have c1 : v1.cell? ⟨gs, (at' + k) / 8, none⟩ = some (u64 ((putBs ws at' l k).getD ((at' + k) / 8) c0)) := by
      rw [hB.cell, List.getElem?_append_left (by simpa using hj), List.getElem?_map, List.getD_eq_getElem?_getD]
      simp [hj]
    have f1 : v1.frozen? ⟨gs, (at' + k) / 8, none⟩ = false := hB.frozen
    have t1 : (((at' : Int) + k) / 8).toNat = (at' + k) / 8 := by omega
    have t2 : (8 * (((at' : Int) + k) % 8)).toNat = 8 * ((at' + k) % 8) := by omega
    unfold mem_Mem_SetBytes_l1
    have hm1 := M1.hd
    rw [hlen] at hm1
    simp (disch := (first | omega | decide | (simp only [World.size_alloc, World.size_setCell, World.size_drew, size_sets, List.mem_cons, List.not_mem_nil, or_false, not_false_eq_true] <;> omega) | fail)) only [↓rsMem_13, rsMem_1, Option.isNone_some, Option.isNone_none, tick_eq, tickV_eq, ne_eq, Int.reduceAdd, Int.reduceSub, Int.reduceMul, Int.reduceEq, Int.reduceLT, Int.reduceLE, Int.reduceToNat, Nat.reduceMul, Nat.reduceAdd, Nat.reduceSub, List.nil_append, List.cons_append, List.getElem?_toArray, List.getElem?_cons_zero, List.getElem?_cons_succ, List.setIfInBounds_toArray, List.set_cons_zero, List.set_cons_succ, Option.map_some, List.not_mem_nil, ←decide_not, h.hd, hv, hcb, hm1, t1]
    refine xDraw_ext [] [] ?_
    have hlt := hB.lt
    simp (disch := (first | omega | decide | (simp only [World.size_alloc, World.size_setCell, World.size_drew, size_sets, List.mem_cons, List.not_mem_nil, or_false, not_false_eq_true] <;> omega) | fail)) only [↓rsMem_13, rsMem_1, Option.isNone_some, Option.isNone_none, tick_eq, tickV_eq, ne_eq, Int.reduceAdd, Int.reduceSub, Int.reduceMul, Int.reduceEq, Int.reduceLT, Int.reduceLE, Int.reduceToNat, Nat.reduceMul, Nat.reduceAdd, Nat.reduceSub, List.nil_append, List.cons_append, List.getElem?_toArray, List.getElem?_cons_zero, List.getElem?_cons_succ, List.setIfInBounds_toArray, List.set_cons_zero, List.set_cons_succ, Option.map_some, List.not_mem_nil, ←decide_not, h.hd, hv, hcb, hm1, t1, c1, t2]
    refine xEnd_i fun v2 hw2 => ?_
    have E2 : Ext [] v1 v2 := (Ext.drew [] v1).trans hw2.ext
    have B2 := hB.ext E2 (by simp)
    have c2 : v2.cell? ⟨gs, (at' + k) / 8, none⟩ = some (u64 ((putBs ws at' l k).getD ((at' + k) / 8) c0)) := by rw [E2.cell (a := ⟨gs, (at' + k) / 8, none⟩) hlt (by simp)]; exact c1
    have f2 : v2.frozen? ⟨gs, (at' + k) / 8, none⟩ = false := B2.frozen
    simp (disch := (first | omega | decide | (simp only [World.size_alloc, World.size_setCell, World.size_drew, size_sets, List.mem_cons, List.not_mem_nil, or_false, not_false_eq_true] <;> omega) | fail)) only [↓rsMem_13, rsMem_1, Option.isNone_some, Option.isNone_none, tick_eq, tickV_eq, ne_eq, Int.reduceAdd, Int.reduceSub, Int.reduceMul, Int.reduceEq, Int.reduceLT, Int.reduceLE, Int.reduceToNat, Nat.reduceMul, Nat.reduceAdd, Nat.reduceSub, List.nil_append, List.cons_append, List.getElem?_toArray, List.getElem?_cons_zero, List.getElem?_cons_succ, List.setIfInBounds_toArray, List.set_cons_zero, List.set_cons_succ, Option.map_some, List.not_mem_nil, ←decide_not, h.hd, hv, hcb, hm1, t1, c1, t2, c2, f2]
    have eput : putB (putBs ws at' l k) (at' + k) l[k] = putBs ws at' l (k + 1) := by
      rw [putBs, List.getD_eq_getElem?_getD, List.getElem?_eq_getElem hk]; rfl
    have B3 := B2.set (i := (at' + k) / 8) (v := u64 ((putBs ws at' l k).getD ((at' + k) / 8) c0 &&& ~~~(BitVec.ofNat 64 255 <<< (8 * ((at' + k) % 8))) ||| (l[k].setWidth 64 <<< (8 * ((at' + k) % 8)))))
    rw [List.set_append_left _ _ (by simpa using hj)] at B3
    have e2 : ∀ y, (wrds (putBs ws at' l k)).set ((at' + k) / 8) (u64 y) = wrds ((putBs ws at' l k).set ((at' + k) / 8) y) := fun y => by simp [wrds, List.map_set]
    rw [e2] at B3
    have e3 : (putBs ws at' l k).set ((at' + k) / 8) ((putBs ws at' l k).getD ((at' + k) / 8) c0 &&& ~~~(BitVec.ofNat 64 255 <<< (8 * ((at' + k) % 8))) ||| (l[k].setWidth 64 <<< (8 * ((at' + k) % 8)))) = putBs ws at' l (k + 1) := eput
    rw [e3] at B3
    have F3 : Ext [gs] v2 (v2.setCell ⟨gs, (at' + k) / 8, none⟩ (u64 ((putBs ws at' l k).getD ((at' + k) / 8) c0 &&& ~~~(BitVec.ofNat 64 255 <<< (8 * ((at' + k) % 8))) ||| (l[k].setWidth 64 <<< (8 * ((at' + k) % 8)))))) := Ext.set
    have hlen2 : (putBs ws at' l (k + 1)).length = ws.length := putBs_length (k + 1)
    refine hnx _ ⟨(F1.trans (E2.more (by simp))).trans F3, M1.lo, ?_, by rw [hlen2]; exact hl, by rw [hlen2]; exact h.cap, M1.nil, .inr ⟨gs, rest, rfl, hbs, B3, ?_⟩, fun _ => hgn, M1.up⟩
    · rw [F3.cell (a := ⟨g, 0, none⟩) (Nat.lt_of_lt_of_le M1.lt E2.size) hgn, E2.cell (a := ⟨g, 0, none⟩) M1.lt (by simp), hlen2]
      exact hm1
    · simp only [List.length_append, List.length_map, hlen] at hc
      simp only [List.length_append, List.length_map, hlen2]
      exact hc
  · rintro u v1 hu ⟨F1, M1⟩ nxt
    simp only [List.map_cons, List.map_nil, List.cons.injEq, and_true] at hu
    rw [hu]
    unfold mem_Mem_SetBytes_l1
    simp (disch := (first | omega | decide | (simp only [World.size_alloc, World.size_setCell, World.size_drew, size_sets, List.mem_cons, List.not_mem_nil, or_false, not_false_eq_true] <;> omega) | fail)) only [↓rsMem_13, rsMem_1, Option.isNone_some, Option.isNone_none, tick_eq, tickV_eq, ne_eq, Int.reduceAdd, Int.reduceSub, Int.reduceMul, Int.reduceEq, Int.reduceLT, Int.reduceLE, Int.reduceToNat, Nat.reduceMul, Nat.reduceAdd, Nat.reduceSub, List.nil_append, List.cons_append, List.getElem?_toArray, List.getElem?_cons_zero, List.getElem?_cons_succ, List.setIfInBounds_toArray, List.set_cons_zero, List.set_cons_succ, Option.map_some, List.not_mem_nil, ←decide_not, h.hd, hv]
    exact ⟨by trivial, F1, M1⟩
end
end Go.Proofs.YtknineilpenbnaaDoor
