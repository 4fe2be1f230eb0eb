/- What the functions on words compute. -/
import Derived.Test.YtdpmidgeipibbaaMemV
set_option linter.unusedVariables false
set_option linter.unusedSimpArgs false
set_option maxHeartbeats 4000000
namespace Go.Proofs.Ytdpmidgeipibbaa
open Go.Sh Go.RowKit

abbrev ptr (g : Nat) : Value := .pointer (some ⟨g, 0, none⟩)
def blkOf : Option Addr → List Nat
  | some a => [a.block]
  | none => []
/-- words of one's own -/
def OwnW (w : World) (base : Nat) (a : Option Addr) (c : Nat) (ws : List (BitVec 64)) : Prop :=
  ws = [] ∨ ∃ gs rest, a = some ⟨gs, 0, none⟩ ∧ base ≤ gs ∧ Blk w gs 69 (wrds ws ++ rest) ∧ c ≤ (wrds ws ++ rest).length
structure MemIs (w : World) (base g : Nat) (a : Option Addr) (c : Nat) (ws : List (BitVec 64)) : Prop where
  lo : base ≤ g
  hd : w.cell? ⟨g, 0, none⟩ = some (.slice a ws.length c)
  len : ws.length ≤ 8192
  cap : ws.length ≤ c
  nil : a = none → c = 0
  own : OwnW w base a c ws
  apart : ws ≠ [] → g ∉ blkOf a
  up : ∀ x ∈ blkOf a, base ≤ x
theorem MemIs.lt {w : World} {base g : Nat} {a : Option Addr} {c : Nat} {ws : List (BitVec 64)} (h : MemIs w base g a c ws) : g < w.heap.size := World.block_lt_of_cell? w ⟨g, 0, none⟩ h.hd
theorem OwnW.row {w : World} {base : Nat} {a : Option Addr} {c : Nat} {ws : List (BitVec 64)} (h : OwnW w base a c ws) : RowAt w a (wrds ws) := by
  rcases h with rfl | ⟨gs, rest, rfl, _, hB, _⟩
  · exact RowAt.nil
  · have := hB.row.take (wrds ws).length
    rwa [List.take_left' rfl] at this
theorem OwnW.ext {w w' : World} {base : Nat} {a : Option Addr} {c : Nat} {ws : List (BitVec 64)} {M : List Nat} (h : OwnW w base a c ws) (hx : Ext M w w') (hm : ws ≠ [] → ∀ g ∈ blkOf a, g ∉ M) : OwnW w' base a c ws := by
  rcases h with rfl | ⟨gs, rest, rfl, hb, hB, hc⟩
  · exact .inl rfl
  · by_cases hw : ws = []
    · exact .inl hw
    · exact .inr ⟨gs, rest, rfl, hb, hB.ext hx (hm hw gs (by simp [blkOf])), hc⟩
theorem MemIs.ext {w w' : World} {base g : Nat} {a : Option Addr} {c : Nat} {ws : List (BitVec 64)} {M : List Nat} (h : MemIs w base g a c ws) (hx : Ext M w w') (hg : g ∉ M) (hm : ws ≠ [] → ∀ g ∈ blkOf a, g ∉ M) : MemIs w' base g a c ws :=
  ⟨h.lo, by rw [hx.cell (a := ⟨g, 0, none⟩) h.lt hg]; exact h.hd, h.len, h.cap, h.nil, h.own.ext hx hm, h.apart, h.up⟩
theorem MemIs.ext0 {w w' : World} {base g : Nat} {a : Option Addr} {c : Nat} {ws : List (BitVec 64)} (h : MemIs w base g a c ws) (hx : Ext [] w w') : MemIs w' base g a c ws := h.ext hx (by simp) (by simp)

abbrev rsMem_0 := (And.intro @xBox_r (And.intro @loadK_some (And.intro @loadsK_s (And.intro @loadsK_n (And.intro @loadsR_s (And.intro @loadsR_n (And.intro @storesK_s (And.intro @storesK_n (And.intro @xPick_t (And.intro @xPick_f (And.intro @xGuard_tt (And.intro @xGuard_ff (And.intro @xGuard_tf (And.intro @xGuard_ft (And.intro @xGuard_u 
  (And.intro @xNil_r (And.intro @xIf_t (And.intro @xBin_add' (And.intro @xBin_sub' (And.intro @xBin_mul' (And.intro @xBin_quo' (And.intro @xBin_rem' (And.intro @xIf_f (And.intro @xIf_tt (And.intro @xEx0 (And.intro @xEx1 (And.intro @xEx2 (And.intro @xEx3 (And.intro @xBin_eqs (And.intro @xBin_nes (And.intro @xUn_not (And.intro @xu8_sub (And.intro @xu8_leq 
  (And.intro @xu8_geq (And.intro @xu16_sub (And.intro @xu16_leq (And.intro @xu16_geq (And.intro @xu32_sub (And.intro @xu32_leq (And.intro @xu32_geq (And.intro @xu64_sub (And.intro @xu64_leq (And.intro @xu64_geq (And.intro @xi64_leq (And.intro @xi64_geq (And.intro @xMakeFunc_r (And.intro @xSq_r (And.intro @xPur_s (And.intro @xRd_s (And.intro @xRe_s 
  (And.intro @xDet_s (And.intro @xDet_ld (And.intro @xDet_ld2 (And.intro @xDet_ld3 (And.intro @xDet_ld4 @xGuard_tt)))))))))))))))))))))))))))))))))))))))))))))))))))))))
abbrev rsMem_1 := (And.intro @setCells_c (And.intro @setCells_n (And.intro @World.setCell_alloc_at (And.intro @World.setCell_alloc_past (And.intro @World.cell?_alloc_at (And.intro @World.cell?_alloc_past (And.intro @World.frozen?_alloc_at (And.intro @World.frozen?_alloc_past 
  (And.intro @World.size_alloc (And.intro @dlt_t (And.intro @dlt_f (And.intro @dle_t (And.intro @dle_f (And.intro @deq_t (And.intro @deq_f (And.intro @dne_t (And.intro @dne_f (And.intro @not_true_eq_false (And.intro @Bool.false_and (And.intro @Bool.true_and (And.intro @Bool.and_true (And.intro @Bool.and_false (And.intro @wrap_in (And.intro @Int.toNat_natCast 
  (And.intro @Nat.mul_one (And.intro @cells_int (And.intro @cells_bool (And.intro @cells_string (And.intro @cells_slice (And.intro @cells_pointer (And.intro @cells_agg (And.intro @one_int (And.intro @one_bool (And.intro @one_string (And.intro @one_slice (And.intro @one_pointer (And.intro @beq_tt (And.intro @beq_ff (And.intro @beq_tf 
  (And.intro @beq_ft (And.intro @cell_sets_b (And.intro @frozen_sets (And.intro @size_sets (And.intro @World.size_drew (And.intro @Nat.zero_add (And.intro @Nat.add_zero (And.intro @cell_drew (And.intro @frozen_drew (And.intro @cell_set_eq (And.intro @cell_set_o (And.intro @cell_set_b (And.intro @World.frozen?_setCell 
  (And.intro @decide_true (And.intro @decide_false (And.intro @not_false_eq_true (And.intro @Bool.not_true @Bool.not_false))))))))))))))))))))))))))))))))))))))))))))))))))))))))
theorem min_spec (a n all : Int) (w : World) (h0 : 0 ≤ all) (h1 : all ≤ 1000000) : Gives Try.prog n_mem_in #[i64 a, i64 n, i64 all] w (.bool (decide (among a n all))) := by
  refine mem_in_of ?_
  unfold mem_in
  simp (disch := (first | omega | decide | (simp only [World.size_alloc, World.size_setCell, World.size_drew, size_sets, List.mem_cons, List.not_mem_nil, or_false, not_false_eq_true] <;> omega) | fail)) only [↓rsMem_0, rsMem_1, Option.isNone_some, Option.isNone_none, tick_eq, tickV_eq, ne_eq, Int.reduceAdd, Int.reduceSub, Int.reduceMul, Int.reduceEq, Int.reduceLT, Int.reduceLE, Int.reduceToNat, Nat.reduceMul, Nat.reduceAdd, Nat.reduceSub, List.nil_append, List.cons_append, List.getElem?_toArray, List.getElem?_cons_zero, List.getElem?_cons_succ, List.setIfInBounds_toArray, List.set_cons_zero, List.set_cons_succ, Option.map_some, List.not_mem_nil, ←decide_not, eq_self]
  by_cases g1 : ¬ 0 ≤ a
  · have hv : decide (among a n all) = false := decide_eq_false (by unfold among; omega)
    simp (disch := (first | omega | decide | (simp only [World.size_alloc, World.size_setCell, World.size_drew, size_sets, List.mem_cons, List.not_mem_nil, or_false, not_false_eq_true] <;> omega) | fail)) only [↓rsMem_0, rsMem_1, Option.isNone_some, Option.isNone_none, tick_eq, tickV_eq, ne_eq, Int.reduceAdd, Int.reduceSub, Int.reduceMul, Int.reduceEq, Int.reduceLT, Int.reduceLE, Int.reduceToNat, Nat.reduceMul, Nat.reduceAdd, Nat.reduceSub, List.nil_append, List.cons_append, List.getElem?_toArray, List.getElem?_cons_zero, List.getElem?_cons_succ, List.setIfInBounds_toArray, List.set_cons_zero, List.set_cons_succ, Option.map_some, List.not_mem_nil, ←decide_not, eq_self, g1, hv]
    exact ⟨by trivial, by (repeat (first | with_reducible exact Ext.refl _ _ | with_reducible assumption | with_reducible refine Ext.alloc' ?_ _ | with_reducible refine Ext.drew' ?_ | with_reducible refine Ext.set' ?_ ?_ | exact .inr (by first | omega | (simp only [World.size_alloc, World.size_drew, World.size_setCell] <;> omega)) | refine Ext.trans ?_ (by with_reducible assumption)))⟩
  replace g1 := Decidable.not_not.1 g1
  by_cases g2 : ¬ 0 ≤ n
  · have hv : decide (among a n all) = false := decide_eq_false (by unfold among; omega)
    simp (disch := (first | omega | decide | (simp only [World.size_alloc, World.size_setCell, World.size_drew, size_sets, List.mem_cons, List.not_mem_nil, or_false, not_false_eq_true] <;> omega) | fail)) only [↓rsMem_0, rsMem_1, Option.isNone_some, Option.isNone_none, tick_eq, tickV_eq, ne_eq, Int.reduceAdd, Int.reduceSub, Int.reduceMul, Int.reduceEq, Int.reduceLT, Int.reduceLE, Int.reduceToNat, Nat.reduceMul, Nat.reduceAdd, Nat.reduceSub, List.nil_append, List.cons_append, List.getElem?_toArray, List.getElem?_cons_zero, List.getElem?_cons_succ, List.setIfInBounds_toArray, List.set_cons_zero, List.set_cons_succ, Option.map_some, List.not_mem_nil, ←decide_not, eq_true g1, g2, hv]
    exact ⟨by trivial, by (repeat (first | with_reducible exact Ext.refl _ _ | with_reducible assumption | with_reducible refine Ext.alloc' ?_ _ | with_reducible refine Ext.drew' ?_ | with_reducible refine Ext.set' ?_ ?_ | exact .inr (by first | omega | (simp only [World.size_alloc, World.size_drew, World.size_setCell] <;> omega)) | refine Ext.trans ?_ (by with_reducible assumption)))⟩
  replace g2 := Decidable.not_not.1 g2
  by_cases g3 : ¬ n ≤ all
  · have hv : decide (among a n all) = false := decide_eq_false (by unfold among; omega)
    simp (disch := (first | omega | decide | (simp only [World.size_alloc, World.size_setCell, World.size_drew, size_sets, List.mem_cons, List.not_mem_nil, or_false, not_false_eq_true] <;> omega) | fail)) only [↓rsMem_0, rsMem_1, Option.isNone_some, Option.isNone_none, tick_eq, tickV_eq, ne_eq, Int.reduceAdd, Int.reduceSub, Int.reduceMul, Int.reduceEq, Int.reduceLT, Int.reduceLE, Int.reduceToNat, Nat.reduceMul, Nat.reduceAdd, Nat.reduceSub, List.nil_append, List.cons_append, List.getElem?_toArray, List.getElem?_cons_zero, List.getElem?_cons_succ, List.setIfInBounds_toArray, List.set_cons_zero, List.set_cons_succ, Option.map_some, List.not_mem_nil, ←decide_not, eq_true g1, eq_true g2, g3, hv]
    exact ⟨by trivial, by (repeat (first | with_reducible exact Ext.refl _ _ | with_reducible assumption | with_reducible refine Ext.alloc' ?_ _ | with_reducible refine Ext.drew' ?_ | with_reducible refine Ext.set' ?_ ?_ | exact .inr (by first | omega | (simp only [World.size_alloc, World.size_drew, World.size_setCell] <;> omega)) | refine Ext.trans ?_ (by with_reducible assumption)))⟩
  replace g3 := Decidable.not_not.1 g3
  by_cases g4 : ¬ a ≤ all - n
  · have hv : decide (among a n all) = false := decide_eq_false (by unfold among; omega)
    simp (disch := (first | omega | decide | (simp only [World.size_alloc, World.size_setCell, World.size_drew, size_sets, List.mem_cons, List.not_mem_nil, or_false, not_false_eq_true] <;> omega) | fail)) only [↓rsMem_0, rsMem_1, Option.isNone_some, Option.isNone_none, tick_eq, tickV_eq, ne_eq, Int.reduceAdd, Int.reduceSub, Int.reduceMul, Int.reduceEq, Int.reduceLT, Int.reduceLE, Int.reduceToNat, Nat.reduceMul, Nat.reduceAdd, Nat.reduceSub, List.nil_append, List.cons_append, List.getElem?_toArray, List.getElem?_cons_zero, List.getElem?_cons_succ, List.setIfInBounds_toArray, List.set_cons_zero, List.set_cons_succ, Option.map_some, List.not_mem_nil, ←decide_not, eq_true g1, eq_true g2, eq_true g3, g4, hv]
    exact ⟨by trivial, by (repeat (first | with_reducible exact Ext.refl _ _ | with_reducible assumption | with_reducible refine Ext.alloc' ?_ _ | with_reducible refine Ext.drew' ?_ | with_reducible refine Ext.set' ?_ ?_ | exact .inr (by first | omega | (simp only [World.size_alloc, World.size_drew, World.size_setCell] <;> omega)) | refine Ext.trans ?_ (by with_reducible assumption)))⟩
  replace g4 := Decidable.not_not.1 g4
  have hv : decide (among a n all) = true := decide_eq_true (by unfold among; omega)
  simp (disch := (first | omega | decide | (simp only [World.size_alloc, World.size_setCell, World.size_drew, size_sets, List.mem_cons, List.not_mem_nil, or_false, not_false_eq_true] <;> omega) | fail)) only [↓rsMem_0, rsMem_1, Option.isNone_some, Option.isNone_none, tick_eq, tickV_eq, ne_eq, Int.reduceAdd, Int.reduceSub, Int.reduceMul, Int.reduceEq, Int.reduceLT, Int.reduceLE, Int.reduceToNat, Nat.reduceMul, Nat.reduceAdd, Nat.reduceSub, List.nil_append, List.cons_append, List.getElem?_toArray, List.getElem?_cons_zero, List.getElem?_cons_succ, List.setIfInBounds_toArray, List.set_cons_zero, List.set_cons_succ, Option.map_some, List.not_mem_nil, ←decide_not, eq_true g1, eq_true g2, eq_true g3, eq_true g4, hv]
  exact ⟨by trivial, by (repeat (first | with_reducible exact Ext.refl _ _ | with_reducible assumption | with_reducible refine Ext.alloc' ?_ _ | with_reducible refine Ext.drew' ?_ | with_reducible refine Ext.set' ?_ ?_ | exact .inr (by first | omega | (simp only [World.size_alloc, World.size_drew, World.size_setCell] <;> omega)) | refine Ext.trans ?_ (by with_reducible assumption)))⟩
def NewOk (w w' : World) (u : Value) (ws : List (BitVec 64)) : Prop := Ext [] w w' ∧ ∃ g a c, u = .tuple #[ptr g, i64 0] ∧ MemIs w' w.heap.size g a c ws
/-- a row of words that is nobody else's -/
def FreshW (w w' : World) (u : Value) (ws : List (BitVec 64)) : Prop := Ext [] w w' ∧ ∃ a c, u = .slice a ws.length c ∧ ws.length ≤ c ∧ (a = none → c = 0) ∧ OwnW w' w.heap.size a c ws ∧ ∀ x ∈ blkOf a, w.heap.size ≤ x
abbrev rsMem_3 := (And.intro @xBox_r (And.intro @loadK_some (And.intro @loadsK_s (And.intro @loadsK_n (And.intro @loadsR_s (And.intro @loadsR_n (And.intro @storesK_s (And.intro @storesK_n (And.intro @xPick_t (And.intro @xPick_f (And.intro @xGuard_tt (And.intro @xGuard_ff (And.intro @xGuard_tf (And.intro @xGuard_ft (And.intro @xGuard_u 
  (And.intro @xNil_r (And.intro @xIf_t (And.intro @xBin_add' (And.intro @xBin_sub' (And.intro @xBin_mul' (And.intro @xBin_quo' (And.intro @xBin_rem' (And.intro @xIf_f (And.intro @xIf_tt (And.intro @xEx0 (And.intro @xEx1 (And.intro @xEx2 (And.intro @xEx3 (And.intro @xBin_eqs (And.intro @xBin_nes (And.intro @xUn_not (And.intro @xu8_eql (And.intro @xu16_eql 
  (And.intro @xu32_eql (And.intro @xu64_eql (And.intro @xi64_eql (And.intro @xMakeFunc_r (And.intro @xSq_r (And.intro @xPur_s (And.intro @xRd_s (And.intro @xRe_s (And.intro @xDet_s (And.intro @xDet_ld (And.intro @xDet_ld2 (And.intro @xDet_ld3 (And.intro @xDet_ld4 (And.intro @xGuard_tt (And.intro @bs_28_0 (And.intro @bs_28_1 (And.intro @bs_28_2 (And.intro @bs_28_3 @nq_28)))))))))))))))))))))))))))))))))))))))))))))))))))
theorem Clone_spec (ws : List (BitVec 64)) (a : Option Addr) (c : Nat) (w : World) (hl : ws.length ≤ 1000000) (h : RowAt w a (wrds ws)) (hn : a = none → c = 0) :
    Yld Try.prog n_slices_Clone_uint64_uint64 #[.slice a ws.length c] w fun u w' => FreshW w w' u ws := by
  refine slices_Clone_uint64_uint64_of ?_
  unfold slices_Clone_uint64_uint64
  cases a with
  | none =>
    have hw : ws = [] := by rcases h with h | ⟨b, o, h, _⟩; simpa using h; cases h
    subst hw
    simp (disch := (first | omega | decide | (simp only [World.size_alloc, World.size_setCell, World.size_drew, size_sets, List.mem_cons, List.not_mem_nil, or_false, not_false_eq_true] <;> omega) | fail)) only [↓rsMem_3, rsMem_1, Option.isNone_some, Option.isNone_none, tick_eq, tickV_eq, ne_eq, Int.reduceAdd, Int.reduceSub, Int.reduceMul, Int.reduceEq, Int.reduceLT, Int.reduceLE, Int.reduceToNat, Nat.reduceMul, Nat.reduceAdd, Nat.reduceSub, List.nil_append, List.cons_append, List.getElem?_toArray, List.getElem?_cons_zero, List.getElem?_cons_succ, List.setIfInBounds_toArray, List.set_cons_zero, List.set_cons_succ, Option.map_some, List.not_mem_nil, ←decide_not, eq_self]
    exact ⟨by (repeat (first | with_reducible exact Ext.refl _ _ | with_reducible assumption | with_reducible refine Ext.alloc' ?_ _ | with_reducible refine Ext.drew' ?_ | with_reducible refine Ext.set' ?_ ?_ | exact .inr (by first | omega | (simp only [World.size_alloc, World.size_drew, World.size_setCell] <;> omega)) | refine Ext.trans ?_ (by with_reducible assumption))), none, 0, rfl, Nat.le_refl _, fun _ => rfl, .inl rfl, by simp [blkOf]⟩
  | some a =>
    simp (disch := (first | omega | decide | (simp only [World.size_alloc, World.size_setCell, World.size_drew, size_sets, List.mem_cons, List.not_mem_nil, or_false, not_false_eq_true] <;> omega) | fail)) only [↓rsMem_3, rsMem_1, Option.isNone_some, Option.isNone_none, tick_eq, tickV_eq, ne_eq, Int.reduceAdd, Int.reduceSub, Int.reduceMul, Int.reduceEq, Int.reduceLT, Int.reduceLE, Int.reduceToNat, Nat.reduceMul, Nat.reduceAdd, Nat.reduceSub, List.nil_append, List.cons_append, List.getElem?_toArray, List.getElem?_cons_zero, List.getElem?_cons_succ, List.setIfInBounds_toArray, List.set_cons_zero, List.set_cons_succ, Option.map_some, List.not_mem_nil, ←decide_not, eq_self]
    refine xAppend_own (e := 69) (base := w.heap.size) (xs := []) (news := wrds ws) (z := .int .u64 0) (bytes := 8) (by kernel_rfl) (by kernel_rfl) (by rfl) (World.ownsRow_lit w #[] 0 (Nat.le_refl _) (by decide) (by rfl)) (by simp) (h.ext0 (Ext.alloc _ _ _)) hn (by simp [Value.oneCell']) (by omega) (by omega) (by simp) ?_
    intro v' w' hown hgr
    rw [Nat.zero_add, List.nil_append] at hown
    have F2 : Ext [] w w' := grownBy_new (Ext.alloc [] w _) hgr (fun k hk => by simp [Value.ownBlock] at hk; omega)
    obtain ⟨a', c', rfl, _, hc', hn', _⟩ := own_slice hown
    refine ⟨F2, a', c', rfl, hc', hn', ?_, fun x hx => ?_⟩
    rotate_left
    · cases a' with
      | none => simp [blkOf] at hx
      | some y => simp only [blkOf, List.mem_singleton] at hx; subst hx; exact (hown.lt _ rfl).1
    by_cases hw : ws = []
    · exact .inl hw
    · have hpos : 0 < ws.length := List.length_pos_iff.2 hw
      obtain ⟨g, cap, rest, he, hg, hB, hnc, hm, hcl⟩ := own_open hown hpos
      simp only [Value.slice.injEq, true_and] at he
      exact .inr ⟨g, rest, he.1, hg, hB, by rw [he.2, hcl]; exact Nat.le_refl _⟩
abbrev rsMem_4 := (And.intro @xBox_r (And.intro @loadK_some (And.intro @loadsK_s (And.intro @loadsK_n (And.intro @loadsR_s (And.intro @loadsR_n (And.intro @storesK_s (And.intro @storesK_n (And.intro @xPick_t (And.intro @xPick_f (And.intro @xGuard_tt (And.intro @xGuard_ff (And.intro @xGuard_tf (And.intro @xGuard_ft (And.intro @xGuard_u 
  (And.intro @xNil_r (And.intro @xIf_t (And.intro @xBin_add' (And.intro @xBin_sub' (And.intro @xBin_mul' (And.intro @xBin_quo' (And.intro @xBin_rem' (And.intro @xIf_f (And.intro @xIf_tt (And.intro @xEx0 (And.intro @xEx1 (And.intro @xEx2 (And.intro @xEx3 (And.intro @xBin_eqs (And.intro @xBin_nes (And.intro @xUn_not (And.intro @xu8_gtr (And.intro @xu16_gtr 
  (And.intro @xu32_gtr (And.intro @xu64_gtr (And.intro @xi64_gtr (And.intro @xMakeFunc_r (And.intro @xSq_r (And.intro @xPur_s (And.intro @xRd_s (And.intro @xRe_s (And.intro @xDet_s (And.intro @xDet_ld (And.intro @xDet_ld2 (And.intro @xDet_ld3 (And.intro @xDet_ld4 (And.intro @xGuard_tt (And.intro @bd_165_0 @ln_28))))))))))))))))))))))))))))))))))))))))))))))))
theorem Of_spec (ws : List (BitVec 64)) (a : Option Addr) (c : Nat) (w : World) (hl : ws.length ≤ 8192) (h : RowAt w a (wrds ws)) (hn : a = none → c = 0) :
    Yld Try.prog n_mem_Of #[.slice a ws.length c] w fun u w' => NewOk w w' u ws := by
  refine mem_Of_of ?_
  unfold mem_Of
  simp (disch := (first | omega | decide | (simp only [World.size_alloc, World.size_setCell, World.size_drew, size_sets, List.mem_cons, List.not_mem_nil, or_false, not_false_eq_true] <;> omega) | fail)) only [↓rsMem_4, rsMem_1, Option.isNone_some, Option.isNone_none, tick_eq, tickV_eq, ne_eq, Int.reduceAdd, Int.reduceSub, Int.reduceMul, Int.reduceEq, Int.reduceLT, Int.reduceLE, Int.reduceToNat, Nat.reduceMul, Nat.reduceAdd, Nat.reduceSub, List.nil_append, List.cons_append, List.getElem?_toArray, List.getElem?_cons_zero, List.getElem?_cons_succ, List.setIfInBounds_toArray, List.set_cons_zero, List.set_cons_succ, Option.map_some, List.not_mem_nil, ←decide_not, eq_self]
  refine slices_Clone_uint64_uint64_call (Yld.mono (Clone_spec ws a c w (by omega) h hn) ?_)
  rintro u w1 ⟨F1, a1, c1, rfl, hc1, hn1, O1, U1⟩
  have z1 := F1.size
  simp (disch := (first | omega | decide | (simp only [World.size_alloc, World.size_setCell, World.size_drew, size_sets, List.mem_cons, List.not_mem_nil, or_false, not_false_eq_true] <;> omega) | fail)) only [↓rsMem_4, rsMem_1, Option.isNone_some, Option.isNone_none, tick_eq, tickV_eq, ne_eq, Int.reduceAdd, Int.reduceSub, Int.reduceMul, Int.reduceEq, Int.reduceLT, Int.reduceLE, Int.reduceToNat, Nat.reduceMul, Nat.reduceAdd, Nat.reduceSub, List.nil_append, List.cons_append, List.getElem?_toArray, List.getElem?_cons_zero, List.getElem?_cons_succ, List.setIfInBounds_toArray, List.set_cons_zero, List.set_cons_succ, Option.map_some, List.not_mem_nil, ←decide_not, eq_self]
  refine ⟨by (repeat (first | with_reducible exact Ext.refl _ _ | with_reducible assumption | with_reducible refine Ext.alloc' ?_ _ | with_reducible refine Ext.drew' ?_ | with_reducible refine Ext.set' ?_ ?_ | exact .inr (by first | omega | (simp only [World.size_alloc, World.size_drew, World.size_setCell] <;> omega)) | refine Ext.trans ?_ (by with_reducible assumption))), w1.heap.size, a1, c1, rfl, z1, ?_, hl, hc1, hn1, O1.ext (Ext.alloc [] _ _) (by simp), fun hw => ?_, U1⟩
  · simp (disch := (first | omega | decide | (simp only [World.size_alloc, World.size_setCell, World.size_drew, size_sets, List.mem_cons, List.not_mem_nil, or_false, not_false_eq_true] <;> omega) | fail)) only [↓rsMem_4, rsMem_1, Option.isNone_some, Option.isNone_none, tick_eq, tickV_eq, ne_eq, Int.reduceAdd, Int.reduceSub, Int.reduceMul, Int.reduceEq, Int.reduceLT, Int.reduceLE, Int.reduceToNat, Nat.reduceMul, Nat.reduceAdd, Nat.reduceSub, List.nil_append, List.cons_append, List.getElem?_toArray, List.getElem?_cons_zero, List.getElem?_cons_succ, List.setIfInBounds_toArray, List.set_cons_zero, List.set_cons_succ, Option.map_some, List.not_mem_nil, ←decide_not, eq_self]
  · rcases O1 with e | ⟨gs, rest, rfl, _, hB, _⟩
    · exact absurd e hw
    · have := hB.lt
      simp [blkOf] <;> omega
section
variable {w : World} {base g : Nat} {a : Option Addr} {c : Nat} {ws : List (BitVec 64)}
abbrev rsMem_5 := (And.intro @xBox_r (And.intro @loadK_some (And.intro @loadsK_s (And.intro @loadsK_n (And.intro @loadsR_s (And.intro @loadsR_n (And.intro @storesK_s (And.intro @storesK_n (And.intro @xPick_t (And.intro @xPick_f (And.intro @xGuard_tt (And.intro @xGuard_ff (And.intro @xGuard_tf (And.intro @xGuard_ft (And.intro @xGuard_u 
  (And.intro @xNil_r (And.intro @xIf_t (And.intro @xBin_add' (And.intro @xBin_sub' (And.intro @xBin_mul' (And.intro @xBin_quo' (And.intro @xBin_rem' (And.intro @xIf_f (And.intro @xIf_tt (And.intro @xEx0 (And.intro @xEx1 (And.intro @xEx2 (And.intro @xEx3 (And.intro @xBin_eqs (And.intro @xBin_nes (And.intro @xUn_not (And.intro @xMakeFunc_r (And.intro @xSq_r 
  (And.intro @xPur_s (And.intro @xRd_s (And.intro @xRe_s (And.intro @xDet_s (And.intro @xDet_ld (And.intro @xDet_ld2 (And.intro @xDet_ld3 (And.intro @xDet_ld4 (And.intro @xGuard_tt (And.intro @ld_28 (And.intro @fa_165_0 @ln_28))))))))))))))))))))))))))))))))))))))))))))
theorem Len_spec (h : MemIs w base g a c ws) : Gives Try.prog n_mem_Mem_Len #[ptr g] w (i64 ws.length) := by
  refine mem_Mem_Len_of ?_
  unfold mem_Mem_Len
  simp (disch := (first | omega | decide | (simp only [World.size_alloc, World.size_setCell, World.size_drew, size_sets, List.mem_cons, List.not_mem_nil, or_false, not_false_eq_true] <;> omega) | fail)) only [↓rsMem_5, rsMem_1, Option.isNone_some, Option.isNone_none, tick_eq, tickV_eq, ne_eq, Int.reduceAdd, Int.reduceSub, Int.reduceMul, Int.reduceEq, Int.reduceLT, Int.reduceLE, Int.reduceToNat, Nat.reduceMul, Nat.reduceAdd, Nat.reduceSub, List.nil_append, List.cons_append, List.getElem?_toArray, List.getElem?_cons_zero, List.getElem?_cons_succ, List.setIfInBounds_toArray, List.set_cons_zero, List.set_cons_succ, Option.map_some, List.not_mem_nil, ←decide_not, h.hd]
  exact ⟨by trivial, by (repeat (first | with_reducible exact Ext.refl _ _ | with_reducible assumption | with_reducible refine Ext.alloc' ?_ _ | with_reducible refine Ext.drew' ?_ | with_reducible refine Ext.set' ?_ ?_ | exact .inr (by first | omega | (simp only [World.size_alloc, World.size_drew, World.size_setCell] <;> omega)) | refine Ext.trans ?_ (by with_reducible assumption)))⟩
abbrev rsMem_6 := (And.intro @xBox_r (And.intro @loadK_some (And.intro @loadsK_s (And.intro @loadsK_n (And.intro @loadsR_s (And.intro @loadsR_n (And.intro @storesK_s (And.intro @storesK_n (And.intro @xPick_t (And.intro @xPick_f (And.intro @xGuard_tt (And.intro @xGuard_ff (And.intro @xGuard_tf (And.intro @xGuard_ft (And.intro @xGuard_u 
  (And.intro @xNil_r (And.intro @xIf_t (And.intro @xBin_add' (And.intro @xBin_sub' (And.intro @xBin_mul' (And.intro @xBin_quo' (And.intro @xBin_rem' (And.intro @xIf_f (And.intro @xIf_tt (And.intro @xEx0 (And.intro @xEx1 (And.intro @xEx2 (And.intro @xEx3 (And.intro @xBin_eqs (And.intro @xBin_nes (And.intro @xUn_not (And.intro @xu8_com (And.intro @xu16_com 
  (And.intro @xu32_com (And.intro @xu64_com (And.intro @xMakeFunc_r (And.intro @xSq_r (And.intro @xPur_s (And.intro @xRd_s (And.intro @xRe_s (And.intro @xDet_s (And.intro @xDet_ld (And.intro @xDet_ld2 (And.intro @xDet_ld3 (And.intro @xDet_ld4 (And.intro @xGuard_tt (And.intro @ld_28 (And.intro @ld_69 (And.intro @fa_165_0 (And.intro @ia_28 @ln_28))))))))))))))))))))))))))))))))))))))))))))))))))
theorem Get_ok (i : Nat) (h : MemIs w base g a c ws) (hi : i < ws.length) : Gives Try.prog n_mem_Mem_Get #[ptr g, i64 i] w (.tuple #[u64 (ws.getD i c0), i64 0]) := by
  refine mem_Mem_Get_of ?_
  unfold mem_Mem_Get
  have hl := h.len
  simp (disch := (first | omega | decide | (simp only [World.size_alloc, World.size_setCell, World.size_drew, size_sets, List.mem_cons, List.not_mem_nil, or_false, not_false_eq_true] <;> omega) | fail)) only [↓rsMem_6, rsMem_1, Option.isNone_some, Option.isNone_none, tick_eq, tickV_eq, ne_eq, Int.reduceAdd, Int.reduceSub, Int.reduceMul, Int.reduceEq, Int.reduceLT, Int.reduceLE, Int.reduceToNat, Nat.reduceMul, Nat.reduceAdd, Nat.reduceSub, List.nil_append, List.cons_append, List.getElem?_toArray, List.getElem?_cons_zero, List.getElem?_cons_succ, List.setIfInBounds_toArray, List.set_cons_zero, List.set_cons_succ, Option.map_some, List.not_mem_nil, ←decide_not, h.hd]
  refine mem_in_call (Gives.to (min_spec _ _ _ _ (by omega) (by omega)) fun w1 E1 => ?_)
  have z1 := E1.size
  try simp only [World.size_alloc, World.size_setCell, World.size_drew] at z1
  have hv : decide (among (i : Int) 1 ws.length) = true := decide_eq_true (by unfold among; omega)
  have h1 := (h.ext0 E1).hd
  obtain ⟨b, o, rfl, hb, hc⟩ := (h.ext0 E1).own.row.at (i := i) (by simpa using hi)
  simp only [List.getElem_map] at hc
  simp (disch := (first | omega | decide | (simp only [World.size_alloc, World.size_setCell, World.size_drew, size_sets, List.mem_cons, List.not_mem_nil, or_false, not_false_eq_true] <;> omega) | fail)) only [↓rsMem_6, rsMem_1, Option.isNone_some, Option.isNone_none, tick_eq, tickV_eq, ne_eq, Int.reduceAdd, Int.reduceSub, Int.reduceMul, Int.reduceEq, Int.reduceLT, Int.reduceLE, Int.reduceToNat, Nat.reduceMul, Nat.reduceAdd, Nat.reduceSub, List.nil_append, List.cons_append, List.getElem?_toArray, List.getElem?_cons_zero, List.getElem?_cons_succ, List.setIfInBounds_toArray, List.set_cons_zero, List.set_cons_succ, Option.map_some, List.not_mem_nil, ←decide_not, h.hd, hv, h1, hc]
  refine ⟨?_, by (repeat (first | with_reducible exact Ext.refl _ _ | with_reducible assumption | with_reducible refine Ext.alloc' ?_ _ | with_reducible refine Ext.drew' ?_ | with_reducible refine Ext.set' ?_ ?_ | exact .inr (by first | omega | (simp only [World.size_alloc, World.size_drew, World.size_setCell] <;> omega)) | refine Ext.trans ?_ (by with_reducible assumption)))⟩
  rw [List.getD_eq_getElem?_getD, List.getElem?_eq_getElem hi]
  rfl
end
end Go.Proofs.Ytdpmidgeipibbaa
