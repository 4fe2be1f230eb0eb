/- What the functions on bits compute. -/
import Derived.Test.YtknineilpenbnaaBitsP
import Derived.Test.YtknineilpenbnaaEng11
set_option linter.unusedVariables false
set_option linter.unusedSimpArgs false
set_option maxHeartbeats 4000000
namespace Go.Proofs.Ytknineilpenbnaa
open Go.Sh Go.RowKit

abbrev rsBitsW_0 := (And.intro @xBox_r (And.intro @loadK_some (And.intro @loadsK_s (And.intro @loadsK_n (And.intro @loadsR_s (And.intro @loadsR_n (And.intro @storesK_s (And.intro @storesK_n (And.intro @xPick_t (And.intro @xPick_f (And.intro @xGuard_tt (And.intro @xGuard_ff (And.intro @xGuard_tf (And.intro @xGuard_ft (And.intro @xGuard_u 
  (And.intro @xNil_r (And.intro @xIf_t (And.intro @xBin_add' (And.intro @xBin_sub' (And.intro @xBin_mul' (And.intro @xBin_quo' (And.intro @xBin_rem' (And.intro @xIf_f (And.intro @xIf_tt (And.intro @xEx0 (And.intro @xEx1 (And.intro @xEx2 (And.intro @xEx3 (And.intro @xBin_eqs (And.intro @xBin_nes (And.intro @xUn_not (And.intro @xu8_sub (And.intro @xu8_leq 
  (And.intro @xu8_geq (And.intro @xu16_sub (And.intro @xu16_leq (And.intro @xu16_geq (And.intro @xu32_sub (And.intro @xu32_leq (And.intro @xu32_geq (And.intro @xu64_sub (And.intro @xu64_leq (And.intro @xu64_geq (And.intro @xi64_leq (And.intro @xi64_geq (And.intro @xMakeFunc_r (And.intro @xSq_r (And.intro @xPur_s (And.intro @xRd_s (And.intro @xRe_s 
  (And.intro @xDet_s (And.intro @xDet_ld (And.intro @xDet_ld2 (And.intro @xDet_ld3 (And.intro @xDet_ld4 @xGuard_tt)))))))))))))))))))))))))))))))))))))))))))))))))))))))
abbrev rsBitsW_1 := (And.intro @setCells_c (And.intro @setCells_n (And.intro @World.setCell_alloc_at (And.intro @World.setCell_alloc_past (And.intro @World.cell?_alloc_at (And.intro @World.cell?_alloc_past (And.intro @World.frozen?_alloc_at (And.intro @World.frozen?_alloc_past 
  (And.intro @World.size_alloc (And.intro @dlt_t (And.intro @dlt_f (And.intro @dle_t (And.intro @dle_f (And.intro @deq_t (And.intro @deq_f (And.intro @dne_t (And.intro @dne_f (And.intro @not_true_eq_false (And.intro @Bool.false_and (And.intro @Bool.true_and (And.intro @Bool.and_true (And.intro @Bool.and_false (And.intro @wrap_in (And.intro @Int.toNat_natCast 
  (And.intro @Nat.mul_one (And.intro @cells_int (And.intro @cells_bool (And.intro @cells_string (And.intro @cells_slice (And.intro @cells_pointer (And.intro @cells_agg (And.intro @one_int (And.intro @one_bool (And.intro @one_string (And.intro @one_slice (And.intro @one_pointer (And.intro @beq_tt (And.intro @beq_ff (And.intro @beq_tf 
  (And.intro @beq_ft (And.intro @cell_sets_b (And.intro @frozen_sets (And.intro @size_sets (And.intro @World.size_drew (And.intro @Nat.zero_add (And.intro @Nat.add_zero (And.intro @cell_drew (And.intro @frozen_drew (And.intro @cell_set_eq (And.intro @cell_set_o (And.intro @cell_set_b (And.intro @World.frozen?_setCell 
  (And.intro @decide_true (And.intro @decide_false (And.intro @not_false_eq_true (And.intro @Bool.not_true @Bool.not_false))))))))))))))))))))))))))))))))))))))))))))))))))))))))
theorem within_spec (at' n size : Int) (w : World) (hs : 0 ≤ size) (hs1 : size ≤ 4294967296) : Gives Try.prog n_bits_within #[i64 at', i64 n, i64 size] w (.bool (decide (inside at' n size))) := by
  refine bits_within_of ?_
  unfold bits_within
  simp (disch := (first | omega | decide | (simp only [World.size_alloc, World.size_setCell, World.size_drew, size_sets, List.mem_cons, List.not_mem_nil, or_false, not_false_eq_true] <;> omega) | fail)) only [↓rsBitsW_0, rsBitsW_1, Option.isNone_some, Option.isNone_none, tick_eq, tickV_eq, ne_eq, Int.reduceAdd, Int.reduceSub, Int.reduceMul, Int.reduceEq, Int.reduceLT, Int.reduceLE, Int.reduceToNat, Nat.reduceMul, Nat.reduceAdd, Nat.reduceSub, List.nil_append, List.cons_append, List.getElem?_toArray, List.getElem?_cons_zero, List.getElem?_cons_succ, List.setIfInBounds_toArray, List.set_cons_zero, List.set_cons_succ, Option.map_some, List.not_mem_nil, ←decide_not, eq_self]
  by_cases g1 : ¬ 1 ≤ n
  · have hv : decide (inside at' n size) = false := decide_eq_false (by unfold inside; omega)
    simp (disch := (first | omega | decide | (simp only [World.size_alloc, World.size_setCell, World.size_drew, size_sets, List.mem_cons, List.not_mem_nil, or_false, not_false_eq_true] <;> omega) | fail)) only [↓rsBitsW_0, rsBitsW_1, Option.isNone_some, Option.isNone_none, tick_eq, tickV_eq, ne_eq, Int.reduceAdd, Int.reduceSub, Int.reduceMul, Int.reduceEq, Int.reduceLT, Int.reduceLE, Int.reduceToNat, Nat.reduceMul, Nat.reduceAdd, Nat.reduceSub, List.nil_append, List.cons_append, List.getElem?_toArray, List.getElem?_cons_zero, List.getElem?_cons_succ, List.setIfInBounds_toArray, List.set_cons_zero, List.set_cons_succ, Option.map_some, List.not_mem_nil, ←decide_not, eq_self, g1, hv]
    exact ⟨by trivial, by (repeat (first | with_reducible exact Ext.refl _ _ | with_reducible assumption | with_reducible refine Ext.alloc' ?_ _ | with_reducible refine Ext.drew' ?_ | with_reducible refine Ext.set' ?_ ?_ | exact .inr (by first | omega | (simp only [World.size_alloc, World.size_drew, World.size_setCell] <;> omega)) | refine Ext.trans ?_ (by with_reducible assumption)))⟩
  replace g1 := Decidable.not_not.1 g1
  by_cases g2 : ¬ n ≤ 8
  · have hv : decide (inside at' n size) = false := decide_eq_false (by unfold inside; omega)
    simp (disch := (first | omega | decide | (simp only [World.size_alloc, World.size_setCell, World.size_drew, size_sets, List.mem_cons, List.not_mem_nil, or_false, not_false_eq_true] <;> omega) | fail)) only [↓rsBitsW_0, rsBitsW_1, Option.isNone_some, Option.isNone_none, tick_eq, tickV_eq, ne_eq, Int.reduceAdd, Int.reduceSub, Int.reduceMul, Int.reduceEq, Int.reduceLT, Int.reduceLE, Int.reduceToNat, Nat.reduceMul, Nat.reduceAdd, Nat.reduceSub, List.nil_append, List.cons_append, List.getElem?_toArray, List.getElem?_cons_zero, List.getElem?_cons_succ, List.setIfInBounds_toArray, List.set_cons_zero, List.set_cons_succ, Option.map_some, List.not_mem_nil, ←decide_not, eq_true g1, g2, hv]
    exact ⟨by trivial, by (repeat (first | with_reducible exact Ext.refl _ _ | with_reducible assumption | with_reducible refine Ext.alloc' ?_ _ | with_reducible refine Ext.drew' ?_ | with_reducible refine Ext.set' ?_ ?_ | exact .inr (by first | omega | (simp only [World.size_alloc, World.size_drew, World.size_setCell] <;> omega)) | refine Ext.trans ?_ (by with_reducible assumption)))⟩
  replace g2 := Decidable.not_not.1 g2
  by_cases g3 : ¬ 0 ≤ at'
  · have hv : decide (inside at' n size) = false := decide_eq_false (by unfold inside; omega)
    simp (disch := (first | omega | decide | (simp only [World.size_alloc, World.size_setCell, World.size_drew, size_sets, List.mem_cons, List.not_mem_nil, or_false, not_false_eq_true] <;> omega) | fail)) only [↓rsBitsW_0, rsBitsW_1, Option.isNone_some, Option.isNone_none, tick_eq, tickV_eq, ne_eq, Int.reduceAdd, Int.reduceSub, Int.reduceMul, Int.reduceEq, Int.reduceLT, Int.reduceLE, Int.reduceToNat, Nat.reduceMul, Nat.reduceAdd, Nat.reduceSub, List.nil_append, List.cons_append, List.getElem?_toArray, List.getElem?_cons_zero, List.getElem?_cons_succ, List.setIfInBounds_toArray, List.set_cons_zero, List.set_cons_succ, Option.map_some, List.not_mem_nil, ←decide_not, eq_true g1, eq_true g2, g3, hv]
    exact ⟨by trivial, by (repeat (first | with_reducible exact Ext.refl _ _ | with_reducible assumption | with_reducible refine Ext.alloc' ?_ _ | with_reducible refine Ext.drew' ?_ | with_reducible refine Ext.set' ?_ ?_ | exact .inr (by first | omega | (simp only [World.size_alloc, World.size_drew, World.size_setCell] <;> omega)) | refine Ext.trans ?_ (by with_reducible assumption)))⟩
  replace g3 := Decidable.not_not.1 g3
  by_cases g4 : ¬ n ≤ size
  · have hv : decide (inside at' n size) = false := decide_eq_false (by unfold inside; omega)
    simp (disch := (first | omega | decide | (simp only [World.size_alloc, World.size_setCell, World.size_drew, size_sets, List.mem_cons, List.not_mem_nil, or_false, not_false_eq_true] <;> omega) | fail)) only [↓rsBitsW_0, rsBitsW_1, Option.isNone_some, Option.isNone_none, tick_eq, tickV_eq, ne_eq, Int.reduceAdd, Int.reduceSub, Int.reduceMul, Int.reduceEq, Int.reduceLT, Int.reduceLE, Int.reduceToNat, Nat.reduceMul, Nat.reduceAdd, Nat.reduceSub, List.nil_append, List.cons_append, List.getElem?_toArray, List.getElem?_cons_zero, List.getElem?_cons_succ, List.setIfInBounds_toArray, List.set_cons_zero, List.set_cons_succ, Option.map_some, List.not_mem_nil, ←decide_not, eq_true g1, eq_true g2, eq_true g3, g4, hv]
    exact ⟨by trivial, by (repeat (first | with_reducible exact Ext.refl _ _ | with_reducible assumption | with_reducible refine Ext.alloc' ?_ _ | with_reducible refine Ext.drew' ?_ | with_reducible refine Ext.set' ?_ ?_ | exact .inr (by first | omega | (simp only [World.size_alloc, World.size_drew, World.size_setCell] <;> omega)) | refine Ext.trans ?_ (by with_reducible assumption)))⟩
  replace g4 := Decidable.not_not.1 g4
  by_cases g5 : ¬ at' ≤ size - n
  · have hv : decide (inside at' n size) = false := decide_eq_false (by unfold inside; omega)
    simp (disch := (first | omega | decide | (simp only [World.size_alloc, World.size_setCell, World.size_drew, size_sets, List.mem_cons, List.not_mem_nil, or_false, not_false_eq_true] <;> omega) | fail)) only [↓rsBitsW_0, rsBitsW_1, Option.isNone_some, Option.isNone_none, tick_eq, tickV_eq, ne_eq, Int.reduceAdd, Int.reduceSub, Int.reduceMul, Int.reduceEq, Int.reduceLT, Int.reduceLE, Int.reduceToNat, Nat.reduceMul, Nat.reduceAdd, Nat.reduceSub, List.nil_append, List.cons_append, List.getElem?_toArray, List.getElem?_cons_zero, List.getElem?_cons_succ, List.setIfInBounds_toArray, List.set_cons_zero, List.set_cons_succ, Option.map_some, List.not_mem_nil, ←decide_not, eq_true g1, eq_true g2, eq_true g3, eq_true g4, g5, hv]
    exact ⟨by trivial, by (repeat (first | with_reducible exact Ext.refl _ _ | with_reducible assumption | with_reducible refine Ext.alloc' ?_ _ | with_reducible refine Ext.drew' ?_ | with_reducible refine Ext.set' ?_ ?_ | exact .inr (by first | omega | (simp only [World.size_alloc, World.size_drew, World.size_setCell] <;> omega)) | refine Ext.trans ?_ (by with_reducible assumption)))⟩
  replace g5 := Decidable.not_not.1 g5
  have hv : decide (inside at' n size) = true := decide_eq_true (by unfold inside; omega)
  simp (disch := (first | omega | decide | (simp only [World.size_alloc, World.size_setCell, World.size_drew, size_sets, List.mem_cons, List.not_mem_nil, or_false, not_false_eq_true] <;> omega) | fail)) only [↓rsBitsW_0, rsBitsW_1, Option.isNone_some, Option.isNone_none, tick_eq, tickV_eq, ne_eq, Int.reduceAdd, Int.reduceSub, Int.reduceMul, Int.reduceEq, Int.reduceLT, Int.reduceLE, Int.reduceToNat, Nat.reduceMul, Nat.reduceAdd, Nat.reduceSub, List.nil_append, List.cons_append, List.getElem?_toArray, List.getElem?_cons_zero, List.getElem?_cons_succ, List.setIfInBounds_toArray, List.set_cons_zero, List.set_cons_succ, Option.map_some, List.not_mem_nil, ←decide_not, eq_true g1, eq_true g2, eq_true g3, eq_true g4, eq_true g5, hv]
  exact ⟨by trivial, by (repeat (first | with_reducible exact Ext.refl _ _ | with_reducible assumption | with_reducible refine Ext.alloc' ?_ _ | with_reducible refine Ext.drew' ?_ | with_reducible refine Ext.set' ?_ ?_ | exact .inr (by first | omega | (simp only [World.size_alloc, World.size_drew, World.size_setCell] <;> omega)) | refine Ext.trans ?_ (by with_reducible assumption)))⟩

/-- what a function hands back: a row of bytes, and no error -/
def PutR (w w' : World) (u : Value) (l : List (BitVec 8)) : Prop := Ext [] w w' ∧ ∃ a c, u = .tuple #[.slice a l.length c, i64 0] ∧ l.length ≤ c ∧ RowAt w' a (bys l)
abbrev rsBitsW_2 := (And.intro @xBox_r (And.intro @loadK_some (And.intro @loadsK_s (And.intro @loadsK_n (And.intro @loadsR_s (And.intro @loadsR_n (And.intro @storesK_s (And.intro @storesK_n (And.intro @xPick_t (And.intro @xPick_f (And.intro @xGuard_tt (And.intro @xGuard_ff (And.intro @xGuard_tf (And.intro @xGuard_ft (And.intro @xGuard_u 
  (And.intro @xNil_r (And.intro @xIf_t (And.intro @xBin_add' (And.intro @xBin_sub' (And.intro @xBin_mul' (And.intro @xBin_quo' (And.intro @xBin_rem' (And.intro @xIf_f (And.intro @xIf_tt (And.intro @xEx0 (And.intro @xEx1 (And.intro @xEx2 (And.intro @xEx3 (And.intro @xBin_eqs (And.intro @xBin_nes (And.intro @xUn_not (And.intro @xu8_add (And.intro @xu8_mul 
  (And.intro @xu8_com (And.intro @xu8_shr (And.intro @xu8_lss (And.intro @xu16_add (And.intro @xu16_mul (And.intro @xu16_com (And.intro @xu16_shr (And.intro @xu16_lss (And.intro @xu32_add (And.intro @xu32_mul (And.intro @xu32_com (And.intro @xu32_shr (And.intro @xu32_lss (And.intro @xu64_add (And.intro @xu64_mul (And.intro @xu64_com (And.intro @xu64_shr 
  (And.intro @xu64_lss (And.intro @xi64_lss (And.intro @xi64_shr (And.intro @xMakeFunc_r (And.intro @xSq_r (And.intro @xPur_s (And.intro @xRd_s (And.intro @xRe_s (And.intro @xDet_s (And.intro @xDet_ld (And.intro @xDet_ld2 (And.intro @xDet_ld3 (And.intro @xDet_ld4 (And.intro @xGuard_tt (And.intro @st_5 (And.intro @cv_22_5 (And.intro @ia_25 (And.intro @ln_25 @mk_25))))))))))))))))))))))))))))))))))))))))))))))))))))))))))))))))))))
theorem Put_spec (l : List (BitVec 8)) (a : Option Addr) (c : Nat) (at' n : Nat) (v : BitVec 64) (w : World) (hl : l.length ≤ 100000000) (h : RowAt w a (bys l)) (hi : inside at' n l.length) :
    Yld Try.prog n_bits_Put #[.slice a l.length c, i64 at', i64 n, u64 v] w fun u w' => PutR w w' u (putV l at' n v) := by
  refine bits_Put_of ?_
  unfold bits_Put
  have hn : n ≤ 8 ∧ at' + n ≤ l.length ∧ 1 ≤ n := by unfold inside at hi; omega
  simp (disch := (first | omega | decide | (simp only [World.size_alloc, World.size_setCell, World.size_drew, size_sets, List.mem_cons, List.not_mem_nil, or_false, not_false_eq_true] <;> omega) | fail)) only [↓rsBitsW_2, rsBitsW_1, Option.isNone_some, Option.isNone_none, tick_eq, tickV_eq, ne_eq, Int.reduceAdd, Int.reduceSub, Int.reduceMul, Int.reduceEq, Int.reduceLT, Int.reduceLE, Int.reduceToNat, Nat.reduceMul, Nat.reduceAdd, Nat.reduceSub, List.nil_append, List.cons_append, List.getElem?_toArray, List.getElem?_cons_zero, List.getElem?_cons_succ, List.setIfInBounds_toArray, List.set_cons_zero, List.set_cons_succ, Option.map_some, List.not_mem_nil, ←decide_not, eq_self]
  refine bits_within_call (Gives.to (within_spec _ _ _ _ (by omega) (by omega)) fun w1 E1 => ?_)
  have z1 := E1.size
  try simp only [World.size_alloc, World.size_setCell, World.size_drew] at z1
  simp (disch := (first | omega | decide | (simp only [World.size_alloc, World.size_setCell, World.size_drew, size_sets, List.mem_cons, List.not_mem_nil, or_false, not_false_eq_true] <;> omega) | fail)) only [↓rsBitsW_2, rsBitsW_1, Option.isNone_some, Option.isNone_none, tick_eq, tickV_eq, ne_eq, Int.reduceAdd, Int.reduceSub, Int.reduceMul, Int.reduceEq, Int.reduceLT, Int.reduceLE, Int.reduceToNat, Nat.reduceMul, Nat.reduceAdd, Nat.reduceSub, List.nil_append, List.cons_append, List.getElem?_toArray, List.getElem?_cons_zero, List.getElem?_cons_succ, List.setIfInBounds_toArray, List.set_cons_zero, List.set_cons_succ, Option.map_some, List.not_mem_nil, ←decide_not, decide_eq_true hi]
  have E2 : Ext [] w (w1.alloc (.cells (List.replicate l.length (c8 0)).toArray 5)) := by (repeat (first | with_reducible exact Ext.refl _ _ | with_reducible assumption | with_reducible refine Ext.alloc' ?_ _ | with_reducible refine Ext.drew' ?_ | with_reducible refine Ext.set' ?_ ?_ | exact .inr (by first | omega | (simp only [World.size_alloc, World.size_drew, World.size_setCell] <;> omega)) | refine Ext.trans ?_ (by with_reducible assumption)))
  have hb := Blk.new (e := 5) w1 (List.replicate l.length (c8 0))
  have hro : roomy (w1.alloc (.cells (List.replicate l.length (c8 0)).toArray 5)) w1.heap.size 0 (bys l) := hb.roomy (by simp) (by simp [Value.oneCell'])
  have hb2 := hb.sets (l := bys l) (o := 0) (by simp)
  have E3 := E2.sets (g := w1.heap.size) (o := 0) (l := bys l) (.inr z1)
  rw [xCopy_all (e := 5) (by kernel_rfl) (by kernel_rfl) (by simp) (Nat.le_refl _) (h.ext0 E2) hro]
  generalize hw2 : (w1.alloc (.cells (List.replicate l.length (c8 0)).toArray 5)).setCells w1.heap.size 0 (bys l) = w2 at *
  have hb3 : Blk w2 w1.heap.size 5 (bys (putV l at' 0 v)) := by
    rw [putV_zero]
    simpa [List.drop_eq_nil_of_le] using hb2
  refine xLoop_n n (fun k => [i64 k]) (fun k w' => Ext [] w w' ∧ Blk w' w1.heap.size 5 (bys (putV l at' k v))) ?_ ⟨E3, hb3⟩ ?_ ?_
  · rfl
  · rintro k hk u v1 hu ⟨F1, B1⟩ nxt hnx
    simp only [List.map_cons, List.map_nil, List.cons.injEq, and_true] at hu
    rw [hu]
    have hlen : (putV l at' k v).length = l.length := putV_length (by omega)
    have c1 : ∀ i, v1.cell? ⟨w1.heap.size, i, none⟩ = (bys (putV l at' k v))[i]? := fun i => B1.cell
    have c2 : (bys (putV l at' k v))[at' + k]? = some (u8 ((putV l at' k v)[at' + k]'(by omega))) := by simp [show at' + k < (putV l at' k v).length by omega]
    have f1 : ∀ i, v1.frozen? ⟨w1.heap.size, i, none⟩ = false := fun i => B1.frozen
    have t1 : ((at' : Int) + (k : Int)).toNat = at' + k := by omega
    have t2 : (8 * (k : Int)).toNat = 8 * k := by omega
    unfold bits_Put_l1
    simp (disch := (first | omega | decide | (simp only [World.size_alloc, World.size_setCell, World.size_drew, size_sets, List.mem_cons, List.not_mem_nil, or_false, not_false_eq_true] <;> omega) | fail)) only [↓rsBitsW_2, rsBitsW_1, Option.isNone_some, Option.isNone_none, tick_eq, tickV_eq, ne_eq, Int.reduceAdd, Int.reduceSub, Int.reduceMul, Int.reduceEq, Int.reduceLT, Int.reduceLE, Int.reduceToNat, Nat.reduceMul, Nat.reduceAdd, Nat.reduceSub, List.nil_append, List.cons_append, List.getElem?_toArray, List.getElem?_cons_zero, List.getElem?_cons_succ, List.setIfInBounds_toArray, List.set_cons_zero, List.set_cons_succ, Option.map_some, List.not_mem_nil, ←decide_not, decide_eq_true hi, c1, c2, f1, t1, t2]
    have B2 := B1.set (i := at' + k) (v := u8 (byteOf v k))
    rw [bys_set, putV_take hk (by omega)] at B2
    exact hnx _ ⟨F1.set' (.inr z1), B2⟩
  · rintro u v1 hu ⟨F1, B1⟩ nxt
    simp only [List.map_cons, List.map_nil, List.cons.injEq, and_true] at hu
    rw [hu]
    unfold bits_Put_l1
    simp (disch := (first | omega | decide | (simp only [World.size_alloc, World.size_setCell, World.size_drew, size_sets, List.mem_cons, List.not_mem_nil, or_false, not_false_eq_true] <;> omega) | fail)) only [↓rsBitsW_2, rsBitsW_1, Option.isNone_some, Option.isNone_none, tick_eq, tickV_eq, ne_eq, Int.reduceAdd, Int.reduceSub, Int.reduceMul, Int.reduceEq, Int.reduceLT, Int.reduceLE, Int.reduceToNat, Nat.reduceMul, Nat.reduceAdd, Nat.reduceSub, List.nil_append, List.cons_append, List.getElem?_toArray, List.getElem?_cons_zero, List.getElem?_cons_succ, List.setIfInBounds_toArray, List.set_cons_zero, List.set_cons_succ, Option.map_some, List.not_mem_nil, ←decide_not, decide_eq_true hi]
    have hlen : (putV l at' n v).length = l.length := putV_length (by omega)
    exact ⟨F1, some ⟨w1.heap.size, 0, none⟩, l.length, by rw [hlen], by omega, B1.row⟩


abbrev rsBitsW_3 := (And.intro @xBox_r (And.intro @loadK_some (And.intro @loadsK_s (And.intro @loadsK_n (And.intro @loadsR_s (And.intro @loadsR_n (And.intro @storesK_s (And.intro @storesK_n (And.intro @xPick_t (And.intro @xPick_f (And.intro @xGuard_tt (And.intro @xGuard_ff (And.intro @xGuard_tf (And.intro @xGuard_ft (And.intro @xGuard_u 
  (And.intro @xNil_r (And.intro @xIf_t (And.intro @xBin_add' (And.intro @xBin_sub' (And.intro @xBin_mul' (And.intro @xBin_quo' (And.intro @xBin_rem' (And.intro @xIf_f (And.intro @xIf_tt (And.intro @xEx0 (And.intro @xEx1 (And.intro @xEx2 (And.intro @xEx3 (And.intro @xBin_eqs (And.intro @xBin_nes (And.intro @xUn_not (And.intro @xu8_com (And.intro @xu16_com 
  (And.intro @xu32_com (And.intro @xu64_com (And.intro @xMakeFunc_r (And.intro @xSq_r (And.intro @xPur_s (And.intro @xRd_s (And.intro @xRe_s (And.intro @xDet_s (And.intro @xDet_ld (And.intro @xDet_ld2 (And.intro @xDet_ld3 (And.intro @xDet_ld4 (And.intro @xGuard_tt (And.intro @ln_25 @mk_25)))))))))))))))))))))))))))))))))))))))))))))))
theorem Put_bad (l : List (BitVec 8)) (a : Option Addr) (c : Nat) (at' n : Int) (v : BitVec 64) (w : World) (hl : l.length ≤ 100000000) (hi : ¬ inside at' n l.length) :
    Gives Try.prog n_bits_Put #[.slice a l.length c, i64 at', i64 n, u64 v] w (.tuple #[.slice none 0 0, i64 1]) := by
  refine bits_Put_of ?_
  unfold bits_Put
  simp (disch := (first | omega | decide | (simp only [World.size_alloc, World.size_setCell, World.size_drew, size_sets, List.mem_cons, List.not_mem_nil, or_false, not_false_eq_true] <;> omega) | fail)) only [↓rsBitsW_3, rsBitsW_1, Option.isNone_some, Option.isNone_none, tick_eq, tickV_eq, ne_eq, Int.reduceAdd, Int.reduceSub, Int.reduceMul, Int.reduceEq, Int.reduceLT, Int.reduceLE, Int.reduceToNat, Nat.reduceMul, Nat.reduceAdd, Nat.reduceSub, List.nil_append, List.cons_append, List.getElem?_toArray, List.getElem?_cons_zero, List.getElem?_cons_succ, List.setIfInBounds_toArray, List.set_cons_zero, List.set_cons_succ, Option.map_some, List.not_mem_nil, ←decide_not, eq_self]
  refine bits_within_call (Gives.to (within_spec _ _ _ _ (by omega) (by omega)) fun w1 E1 => ?_)
  have z1 := E1.size
  try simp only [World.size_alloc, World.size_setCell, World.size_drew] at z1
  simp (disch := (first | omega | decide | (simp only [World.size_alloc, World.size_setCell, World.size_drew, size_sets, List.mem_cons, List.not_mem_nil, or_false, not_false_eq_true] <;> omega) | fail)) only [↓rsBitsW_3, rsBitsW_1, Option.isNone_some, Option.isNone_none, tick_eq, tickV_eq, ne_eq, Int.reduceAdd, Int.reduceSub, Int.reduceMul, Int.reduceEq, Int.reduceLT, Int.reduceLE, Int.reduceToNat, Nat.reduceMul, Nat.reduceAdd, Nat.reduceSub, List.nil_append, List.cons_append, List.getElem?_toArray, List.getElem?_cons_zero, List.getElem?_cons_succ, List.setIfInBounds_toArray, List.set_cons_zero, List.set_cons_succ, Option.map_some, List.not_mem_nil, ←decide_not, decide_eq_false hi]
  exact ⟨by trivial, by (repeat (first | with_reducible exact Ext.refl _ _ | with_reducible assumption | with_reducible refine Ext.alloc' ?_ _ | with_reducible refine Ext.drew' ?_ | with_reducible refine Ext.set' ?_ ?_ | exact .inr (by first | omega | (simp only [World.size_alloc, World.size_drew, World.size_setCell] <;> omega)) | refine Ext.trans ?_ (by with_reducible assumption)))⟩
theorem tmod_cases (k : Int) : (k.tmod 64 = k % 64) ∨ (k % 64 ≠ 0 ∧ k.tmod 64 = k % 64 - 64) := by
  rw [Int.tmod_eq_emod (a := k) (b := 64)]
  by_cases h : 0 ≤ k ∨ (64 : Int) ∣ k
  · rw [if_pos h]; left; simp
  · rw [if_neg h]; right
    exact ⟨by omega, rfl⟩
theorem tmod_64 (k : Int) : (k.tmod 64 + 64).tmod 64 = k % 64 := by
  rw [Int.tmod_eq_emod_of_nonneg]
  · rcases tmod_cases k with h | ⟨_, h⟩ <;> omega
  · rcases tmod_cases k with h | ⟨_, h⟩ <;> omega
end Go.Proofs.Ytknineilpenbnaa
