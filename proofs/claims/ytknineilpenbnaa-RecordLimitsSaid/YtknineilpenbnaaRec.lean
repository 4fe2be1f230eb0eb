/- What the functions on records compute (sq). -/
import Derived.Test.YtknineilpenbnaaRecV
import Derived.Test.YtknineilpenbnaaSumS
import Derived.Test.YtknineilpenbnaaCode4
set_option linter.unusedVariables false
set_option linter.unusedSimpArgs false
set_option maxHeartbeats 4000000
namespace Go.Proofs.Ytknineilpenbnaa
open Go.Sh Go.RowKit

/-- bytes and a number -/
def EncR (w w' : World) (u : Value) (l : List (BitVec 8)) (e : Int) : Prop := Ext [] w w' ∧ ∃ a c, u = .tuple #[.slice a l.length c, i64 e] ∧ l.length ≤ c ∧ (a = none → c = 0) ∧ RowAt w' a (bys l) ∧ ∀ x, a = some x → w.heap.size ≤ x.block ∧ x.block < w'.heap.size
abbrev rsRec_0 := (And.intro @xBox_r (And.intro @loadK_some (And.intro @loadsK_s (And.intro @loadsK_n (And.intro @loadsR_s (And.intro @loadsR_n (And.intro @storesK_s (And.intro @storesK_n (And.intro @xPick_t (And.intro @xPick_f (And.intro @xGuard_tt (And.intro @xGuard_ff (And.intro @xGuard_tf (And.intro @xGuard_ft (And.intro @xGuard_u 
  (And.intro @xNil_r (And.intro @xIf_t (And.intro @xBin_add' (And.intro @xBin_sub' (And.intro @xBin_mul' (And.intro @xBin_quo' (And.intro @xBin_rem' (And.intro @xIf_f (And.intro @xIf_tt (And.intro @xEx0 (And.intro @xEx1 (And.intro @xEx2 (And.intro @xEx3 (And.intro @xBin_eqs (And.intro @xBin_nes (And.intro @xUn_not (And.intro @xu8_neq (And.intro @xu8_lss 
  (And.intro @xu8_gtr (And.intro @xu16_neq (And.intro @xu16_lss (And.intro @xu16_gtr (And.intro @xu32_neq (And.intro @xu32_lss (And.intro @xu32_gtr (And.intro @xu64_neq (And.intro @xu64_lss (And.intro @xu64_gtr (And.intro @xi64_lss (And.intro @xi64_gtr (And.intro @xi64_neq (And.intro @xi64_neg (And.intro @xMakeFunc_r (And.intro @xSq_r (And.intro @xPur_s 
  (And.intro @xRd_s (And.intro @xRe_s (And.intro @xDet_s (And.intro @xDet_ld (And.intro @xDet_ld2 (And.intro @xDet_ld3 (And.intro @xDet_ld4 (And.intro @xGuard_tt (And.intro @ld_3 (And.intro @ld_24 (And.intro @ld_25 (And.intro @fa_24_0 (And.intro @fa_24_1 (And.intro @fa_27_0 (And.intro @fa_27_2 (And.intro @fa_27_3 (And.intro @bd_24_0_1 (And.intro @bd_24 
  (And.intro @es_24 (And.intro @ns_24 @ln_25))))))))))))))))))))))))))))))))))))))))))))))))))))))))))))))))))))))
abbrev rsRec_1 := (And.intro @setCells_c (And.intro @setCells_n (And.intro @World.setCell_alloc_at (And.intro @World.setCell_alloc_past (And.intro @World.cell?_alloc_at (And.intro @World.cell?_alloc_past (And.intro @World.frozen?_alloc_at (And.intro @World.frozen?_alloc_past 
  (And.intro @World.size_alloc (And.intro @dlt_t (And.intro @dlt_f (And.intro @dle_t (And.intro @dle_f (And.intro @deq_t (And.intro @deq_f (And.intro @dne_t (And.intro @dne_f (And.intro @not_true_eq_false (And.intro @Bool.false_and (And.intro @Bool.true_and (And.intro @Bool.and_true (And.intro @Bool.and_false (And.intro @wrap_in (And.intro @Int.toNat_natCast 
  (And.intro @Nat.mul_one (And.intro @cells_int (And.intro @cells_bool (And.intro @cells_string (And.intro @cells_slice (And.intro @cells_pointer (And.intro @cells_agg (And.intro @one_int (And.intro @one_bool (And.intro @one_string (And.intro @one_slice (And.intro @one_pointer (And.intro @beq_tt (And.intro @beq_ff (And.intro @beq_tf 
  (And.intro @beq_ft (And.intro @cell_sets_b (And.intro @frozen_sets (And.intro @size_sets (And.intro @World.size_drew (And.intro @Nat.zero_add (And.intro @Nat.add_zero (And.intro @cell_drew (And.intro @frozen_drew (And.intro @cell_set_eq (And.intro @cell_set_o (And.intro @cell_set_b (And.intro @World.frozen?_setCell 
  (And.intro @decide_true (And.intro @decide_false (And.intro @not_false_eq_true (And.intro @Bool.not_true @Bool.not_false))))))))))))))))))))))))))))))))))))))))))))))))))))))))
theorem check_spec (r : RC) (a : Option Addr) (c : Nat) (w : World) : Gives Try.prog n_rec_Record_check #[rcV r a c] w (i64 (rcErr r)) := by
  refine rec_Record_check_of ?_
  unfold rec_Record_check
  simp (disch := (first | omega | decide | (simp only [World.size_alloc, World.size_setCell, World.size_drew, size_sets, List.mem_cons, List.not_mem_nil, or_false, not_false_eq_true] <;> omega) | fail)) only [↓rsRec_0, rsRec_1, Option.isNone_some, Option.isNone_none, tick_eq, tickV_eq, ne_eq, Int.reduceAdd, Int.reduceSub, Int.reduceMul, Int.reduceEq, Int.reduceLT, Int.reduceLE, Int.reduceToNat, Nat.reduceMul, Nat.reduceAdd, Nat.reduceSub, List.nil_append, List.cons_append, List.getElem?_toArray, List.getElem?_cons_zero, List.getElem?_cons_succ, List.setIfInBounds_toArray, List.set_cons_zero, List.set_cons_succ, Option.map_some, List.not_mem_nil, ←decide_not, eq_self]
  have bad : ¬ RcOk r → i64 1 = i64 (rcErr r) := fun h => by rw [rcErr, if_neg h]
  by_cases h1 : r.kind < 1
  · simp (disch := (first | omega | decide | (simp only [World.size_alloc, World.size_setCell, World.size_drew, size_sets, List.mem_cons, List.not_mem_nil, or_false, not_false_eq_true] <;> omega) | fail)) only [↓rsRec_0, rsRec_1, Option.isNone_some, Option.isNone_none, tick_eq, tickV_eq, ne_eq, Int.reduceAdd, Int.reduceSub, Int.reduceMul, Int.reduceEq, Int.reduceLT, Int.reduceLE, Int.reduceToNat, Nat.reduceMul, Nat.reduceAdd, Nat.reduceSub, List.nil_append, List.cons_append, List.getElem?_toArray, List.getElem?_cons_zero, List.getElem?_cons_succ, List.setIfInBounds_toArray, List.set_cons_zero, List.set_cons_succ, Option.map_some, List.not_mem_nil, ←decide_not, eq_self]
    exact ⟨bad fun h => by have := h.1; omega, by (repeat (first | with_reducible exact Ext.refl _ _ | with_reducible assumption | with_reducible refine Ext.alloc' ?_ _ | with_reducible refine Ext.drew' ?_ | with_reducible refine Ext.set' ?_ ?_ | exact .inr (by first | omega | (simp only [World.size_alloc, World.size_drew, World.size_setCell] <;> omega)) | refine Ext.trans ?_ (by with_reducible assumption)))⟩
  by_cases h2 : 3 < r.kind
  · simp (disch := (first | omega | decide | (simp only [World.size_alloc, World.size_setCell, World.size_drew, size_sets, List.mem_cons, List.not_mem_nil, or_false, not_false_eq_true] <;> omega) | fail)) only [↓rsRec_0, rsRec_1, Option.isNone_some, Option.isNone_none, tick_eq, tickV_eq, ne_eq, Int.reduceAdd, Int.reduceSub, Int.reduceMul, Int.reduceEq, Int.reduceLT, Int.reduceLE, Int.reduceToNat, Nat.reduceMul, Nat.reduceAdd, Nat.reduceSub, List.nil_append, List.cons_append, List.getElem?_toArray, List.getElem?_cons_zero, List.getElem?_cons_succ, List.setIfInBounds_toArray, List.set_cons_zero, List.set_cons_succ, Option.map_some, List.not_mem_nil, ←decide_not, eq_self]
    exact ⟨bad fun h => by have := h.2.1; omega, by (repeat (first | with_reducible exact Ext.refl _ _ | with_reducible assumption | with_reducible refine Ext.alloc' ?_ _ | with_reducible refine Ext.drew' ?_ | with_reducible refine Ext.set' ?_ ?_ | exact .inr (by first | omega | (simp only [World.size_alloc, World.size_drew, World.size_setCell] <;> omega)) | refine Ext.trans ?_ (by with_reducible assumption)))⟩
  by_cases h3 : r.kind = 1
  · have d1 : decide (¬ r.kind = 1) = false := decide_eq_false (fun h => h h3)
    by_cases h4 : r.sp < 0
    · simp (disch := (first | omega | decide | (simp only [World.size_alloc, World.size_setCell, World.size_drew, size_sets, List.mem_cons, List.not_mem_nil, or_false, not_false_eq_true] <;> omega) | fail)) only [↓rsRec_0, rsRec_1, Option.isNone_some, Option.isNone_none, tick_eq, tickV_eq, ne_eq, Int.reduceAdd, Int.reduceSub, Int.reduceMul, Int.reduceEq, Int.reduceLT, Int.reduceLE, Int.reduceToNat, Nat.reduceMul, Nat.reduceAdd, Nat.reduceSub, List.nil_append, List.cons_append, List.getElem?_toArray, List.getElem?_cons_zero, List.getElem?_cons_succ, List.setIfInBounds_toArray, List.set_cons_zero, List.set_cons_succ, Option.map_some, List.not_mem_nil, ←decide_not, d1]
      exact ⟨bad fun h => by have := h.2.2.2.1; omega, by (repeat (first | with_reducible exact Ext.refl _ _ | with_reducible assumption | with_reducible refine Ext.alloc' ?_ _ | with_reducible refine Ext.drew' ?_ | with_reducible refine Ext.set' ?_ ?_ | exact .inr (by first | omega | (simp only [World.size_alloc, World.size_drew, World.size_setCell] <;> omega)) | refine Ext.trans ?_ (by with_reducible assumption)))⟩
    by_cases h5 : 1 < r.sp
    · simp (disch := (first | omega | decide | (simp only [World.size_alloc, World.size_setCell, World.size_drew, size_sets, List.mem_cons, List.not_mem_nil, or_false, not_false_eq_true] <;> omega) | fail)) only [↓rsRec_0, rsRec_1, Option.isNone_some, Option.isNone_none, tick_eq, tickV_eq, ne_eq, Int.reduceAdd, Int.reduceSub, Int.reduceMul, Int.reduceEq, Int.reduceLT, Int.reduceLE, Int.reduceToNat, Nat.reduceMul, Nat.reduceAdd, Nat.reduceSub, List.nil_append, List.cons_append, List.getElem?_toArray, List.getElem?_cons_zero, List.getElem?_cons_succ, List.setIfInBounds_toArray, List.set_cons_zero, List.set_cons_succ, Option.map_some, List.not_mem_nil, ←decide_not, d1]
      exact ⟨bad fun h => by have := h.2.2.2.2.1; omega, by (repeat (first | with_reducible exact Ext.refl _ _ | with_reducible assumption | with_reducible refine Ext.alloc' ?_ _ | with_reducible refine Ext.drew' ?_ | with_reducible refine Ext.set' ?_ ?_ | exact .inr (by first | omega | (simp only [World.size_alloc, World.size_drew, World.size_setCell] <;> omega)) | refine Ext.trans ?_ (by with_reducible assumption)))⟩
    by_cases h6 : r.no < 0
    · simp (disch := (first | omega | decide | (simp only [World.size_alloc, World.size_setCell, World.size_drew, size_sets, List.mem_cons, List.not_mem_nil, or_false, not_false_eq_true] <;> omega) | fail)) only [↓rsRec_0, rsRec_1, Option.isNone_some, Option.isNone_none, tick_eq, tickV_eq, ne_eq, Int.reduceAdd, Int.reduceSub, Int.reduceMul, Int.reduceEq, Int.reduceLT, Int.reduceLE, Int.reduceToNat, Nat.reduceMul, Nat.reduceAdd, Nat.reduceSub, List.nil_append, List.cons_append, List.getElem?_toArray, List.getElem?_cons_zero, List.getElem?_cons_succ, List.setIfInBounds_toArray, List.set_cons_zero, List.set_cons_succ, Option.map_some, List.not_mem_nil, ←decide_not, d1]
      exact ⟨bad fun h => by have := h.2.2.2.2.2.1; omega, by (repeat (first | with_reducible exact Ext.refl _ _ | with_reducible assumption | with_reducible refine Ext.alloc' ?_ _ | with_reducible refine Ext.drew' ?_ | with_reducible refine Ext.set' ?_ ?_ | exact .inr (by first | omega | (simp only [World.size_alloc, World.size_drew, World.size_setCell] <;> omega)) | refine Ext.trans ?_ (by with_reducible assumption)))⟩
    by_cases h7 : 65535 < r.no
    · simp (disch := (first | omega | decide | (simp only [World.size_alloc, World.size_setCell, World.size_drew, size_sets, List.mem_cons, List.not_mem_nil, or_false, not_false_eq_true] <;> omega) | fail)) only [↓rsRec_0, rsRec_1, Option.isNone_some, Option.isNone_none, tick_eq, tickV_eq, ne_eq, Int.reduceAdd, Int.reduceSub, Int.reduceMul, Int.reduceEq, Int.reduceLT, Int.reduceLE, Int.reduceToNat, Nat.reduceMul, Nat.reduceAdd, Nat.reduceSub, List.nil_append, List.cons_append, List.getElem?_toArray, List.getElem?_cons_zero, List.getElem?_cons_succ, List.setIfInBounds_toArray, List.set_cons_zero, List.set_cons_succ, Option.map_some, List.not_mem_nil, ←decide_not, d1]
      exact ⟨bad fun h => by have := h.2.2.2.2.2.2; omega, by (repeat (first | with_reducible exact Ext.refl _ _ | with_reducible assumption | with_reducible refine Ext.alloc' ?_ _ | with_reducible refine Ext.drew' ?_ | with_reducible refine Ext.set' ?_ ?_ | exact .inr (by first | omega | (simp only [World.size_alloc, World.size_drew, World.size_setCell] <;> omega)) | refine Ext.trans ?_ (by with_reducible assumption)))⟩
    have ok : RcOk r := ⟨by omega, by omega, fun h => absurd h3 h, by omega, by omega, by omega, by omega⟩
    by_cases h8 : 4096 < r.data.length
    · simp (disch := (first | omega | decide | (simp only [World.size_alloc, World.size_setCell, World.size_drew, size_sets, List.mem_cons, List.not_mem_nil, or_false, not_false_eq_true] <;> omega) | fail)) only [↓rsRec_0, rsRec_1, Option.isNone_some, Option.isNone_none, tick_eq, tickV_eq, ne_eq, Int.reduceAdd, Int.reduceSub, Int.reduceMul, Int.reduceEq, Int.reduceLT, Int.reduceLE, Int.reduceToNat, Nat.reduceMul, Nat.reduceAdd, Nat.reduceSub, List.nil_append, List.cons_append, List.getElem?_toArray, List.getElem?_cons_zero, List.getElem?_cons_succ, List.setIfInBounds_toArray, List.set_cons_zero, List.set_cons_succ, Option.map_some, List.not_mem_nil, ←decide_not, d1]
      exact ⟨by rw [rcErr, if_pos ok, if_pos h8], by (repeat (first | with_reducible exact Ext.refl _ _ | with_reducible assumption | with_reducible refine Ext.alloc' ?_ _ | with_reducible refine Ext.drew' ?_ | with_reducible refine Ext.set' ?_ ?_ | exact .inr (by first | omega | (simp only [World.size_alloc, World.size_drew, World.size_setCell] <;> omega)) | refine Ext.trans ?_ (by with_reducible assumption)))⟩
    · simp (disch := (first | omega | decide | (simp only [World.size_alloc, World.size_setCell, World.size_drew, size_sets, List.mem_cons, List.not_mem_nil, or_false, not_false_eq_true] <;> omega) | fail)) only [↓rsRec_0, rsRec_1, Option.isNone_some, Option.isNone_none, tick_eq, tickV_eq, ne_eq, Int.reduceAdd, Int.reduceSub, Int.reduceMul, Int.reduceEq, Int.reduceLT, Int.reduceLE, Int.reduceToNat, Nat.reduceMul, Nat.reduceAdd, Nat.reduceSub, List.nil_append, List.cons_append, List.getElem?_toArray, List.getElem?_cons_zero, List.getElem?_cons_succ, List.setIfInBounds_toArray, List.set_cons_zero, List.set_cons_succ, Option.map_some, List.not_mem_nil, ←decide_not, d1]
      exact ⟨by rw [rcErr, if_pos ok, if_neg h8], by (repeat (first | with_reducible exact Ext.refl _ _ | with_reducible assumption | with_reducible refine Ext.alloc' ?_ _ | with_reducible refine Ext.drew' ?_ | with_reducible refine Ext.set' ?_ ?_ | exact .inr (by first | omega | (simp only [World.size_alloc, World.size_drew, World.size_setCell] <;> omega)) | refine Ext.trans ?_ (by with_reducible assumption)))⟩
  · have d1 : decide (¬ r.kind = 1) = true := decide_eq_true h3
    by_cases h4 : r.sp = 0 ∧ r.no = 0
    · have e1 : decide (r.sp = 0) = true := decide_eq_true h4.1
      have e2 : decide (r.no = 0) = true := decide_eq_true h4.2
      have ok : RcOk r := ⟨by omega, by omega, fun _ => h4, by omega, by omega, by omega, by omega⟩
      by_cases h8 : 4096 < r.data.length
      · simp (disch := (first | omega | decide | (simp only [World.size_alloc, World.size_setCell, World.size_drew, size_sets, List.mem_cons, List.not_mem_nil, or_false, not_false_eq_true] <;> omega) | fail)) only [↓rsRec_0, rsRec_1, Option.isNone_some, Option.isNone_none, tick_eq, tickV_eq, ne_eq, Int.reduceAdd, Int.reduceSub, Int.reduceMul, Int.reduceEq, Int.reduceLT, Int.reduceLE, Int.reduceToNat, Nat.reduceMul, Nat.reduceAdd, Nat.reduceSub, List.nil_append, List.cons_append, List.getElem?_toArray, List.getElem?_cons_zero, List.getElem?_cons_succ, List.setIfInBounds_toArray, List.set_cons_zero, List.set_cons_succ, Option.map_some, List.not_mem_nil, ←decide_not, d1, e1, e2]
        exact ⟨by rw [rcErr, if_pos ok, if_pos h8], by (repeat (first | with_reducible exact Ext.refl _ _ | with_reducible assumption | with_reducible refine Ext.alloc' ?_ _ | with_reducible refine Ext.drew' ?_ | with_reducible refine Ext.set' ?_ ?_ | exact .inr (by first | omega | (simp only [World.size_alloc, World.size_drew, World.size_setCell] <;> omega)) | refine Ext.trans ?_ (by with_reducible assumption)))⟩
      · simp (disch := (first | omega | decide | (simp only [World.size_alloc, World.size_setCell, World.size_drew, size_sets, List.mem_cons, List.not_mem_nil, or_false, not_false_eq_true] <;> omega) | fail)) only [↓rsRec_0, rsRec_1, Option.isNone_some, Option.isNone_none, tick_eq, tickV_eq, ne_eq, Int.reduceAdd, Int.reduceSub, Int.reduceMul, Int.reduceEq, Int.reduceLT, Int.reduceLE, Int.reduceToNat, Nat.reduceMul, Nat.reduceAdd, Nat.reduceSub, List.nil_append, List.cons_append, List.getElem?_toArray, List.getElem?_cons_zero, List.getElem?_cons_succ, List.setIfInBounds_toArray, List.set_cons_zero, List.set_cons_succ, Option.map_some, List.not_mem_nil, ←decide_not, d1, e1, e2]
        exact ⟨by rw [rcErr, if_pos ok, if_neg h8], by (repeat (first | with_reducible exact Ext.refl _ _ | with_reducible assumption | with_reducible refine Ext.alloc' ?_ _ | with_reducible refine Ext.drew' ?_ | with_reducible refine Ext.set' ?_ ?_ | exact .inr (by first | omega | (simp only [World.size_alloc, World.size_drew, World.size_setCell] <;> omega)) | refine Ext.trans ?_ (by with_reducible assumption)))⟩
    · have e3 : (decide (r.sp = 0) && decide (r.no = 0)) = false := by
        rw [← Bool.decide_and, decide_eq_false h4]
      simp (disch := (first | omega | decide | (simp only [World.size_alloc, World.size_setCell, World.size_drew, size_sets, List.mem_cons, List.not_mem_nil, or_false, not_false_eq_true] <;> omega) | fail)) only [↓rsRec_0, rsRec_1, Option.isNone_some, Option.isNone_none, tick_eq, tickV_eq, ne_eq, Int.reduceAdd, Int.reduceSub, Int.reduceMul, Int.reduceEq, Int.reduceLT, Int.reduceLE, Int.reduceToNat, Nat.reduceMul, Nat.reduceAdd, Nat.reduceSub, List.nil_append, List.cons_append, List.getElem?_toArray, List.getElem?_cons_zero, List.getElem?_cons_succ, List.setIfInBounds_toArray, List.set_cons_zero, List.set_cons_succ, Option.map_some, List.not_mem_nil, ←decide_not, d1, e3]
      exact ⟨bad fun h => h4 (h.2.2.1 h3), by (repeat (first | with_reducible exact Ext.refl _ _ | with_reducible assumption | with_reducible refine Ext.alloc' ?_ _ | with_reducible refine Ext.drew' ?_ | with_reducible refine Ext.set' ?_ ?_ | exact .inr (by first | omega | (simp only [World.size_alloc, World.size_drew, World.size_setCell] <;> omega)) | refine Ext.trans ?_ (by with_reducible assumption)))⟩
theorem enc_step {w y y' : World} {g : Nat} {s : Value} {l l' : List (BitVec 8)} (X : Ext [] w y) (H : EncIs y w.heap.size g s l) (T : EncTo y y' w.heap.size g s l') :
    ∃ s', Ext [] w y' ∧ EncIs y' w.heap.size g s' l' ∧ Stp (enB g s) (enB g s') y y' := by
  obtain ⟨s', F, H', hs⟩ := T
  have S : Stp (enB g s) (enB g s') y y' := ⟨F, hs⟩
  exact ⟨s', S.new X fun b hb => (H.up b hb).1, H', S⟩
/-- one that is left alone -/
theorem enc_other {y y' : World} {base g g2 : Nat} {s s' v2 : Value} {l2 : List (BitVec 8)} (S : Stp (enB g s) (enB g s') y y') (O : EncIs y base g2 v2 l2) (hd : ∀ b ∈ enB g2 v2, b ∉ enB g s) : EncIs y' base g2 v2 l2 ∧ ∀ b ∈ enB g2 v2, b ∉ enB g s' :=
  ⟨O.ext S.ext hd, S.apart hd fun b hb => (O.up b hb).2⟩
abbrev rsRec_2 := (And.intro @xBox_r (And.intro @loadK_some (And.intro @loadsK_s (And.intro @loadsK_n (And.intro @loadsR_s (And.intro @loadsR_n (And.intro @storesK_s (And.intro @storesK_n (And.intro @xPick_t (And.intro @xPick_f (And.intro @xGuard_tt (And.intro @xGuard_ff (And.intro @xGuard_tf (And.intro @xGuard_ft (And.intro @xGuard_u 
  (And.intro @xNil_r (And.intro @xIf_t (And.intro @xBin_add' (And.intro @xBin_sub' (And.intro @xBin_mul' (And.intro @xBin_quo' (And.intro @xBin_rem' (And.intro @xIf_f (And.intro @xIf_tt (And.intro @xEx0 (And.intro @xEx1 (And.intro @xEx2 (And.intro @xEx3 (And.intro @xBin_eqs (And.intro @xBin_nes (And.intro @xUn_not (And.intro @xMakeFunc_r (And.intro @xSq_r 
  (And.intro @xPur_s (And.intro @xRd_s (And.intro @xRe_s (And.intro @xDet_s (And.intro @xDet_ld (And.intro @xDet_ld2 (And.intro @xDet_ld3 (And.intro @xDet_ld4 (And.intro @xGuard_tt (And.intro @ld_25 @fa_27_3)))))))))))))))))))))))))))))))))))))))))))
theorem rec_tail (r : RC) (a : Option Addr) (c : Nat) (w y : World) (K : K1) (gb g g2 : Nat) (s : Value) (L : List (BitVec 8)) (hgb : gb < w.heap.size) (hdata : r.data.length ≤ 5000) (hL : L.length ≤ 100)
    (hrow : RowAt w a (bys r.data)) (hnil : a = none → c = 0) (hB : w.cell? ⟨gb, 4, none⟩ = some (.slice a r.data.length c)) (X : Ext [] w y) (H : EncIs y w.heap.size g s L) (O : EncIs y w.heap.size g2 (.slice none 0 0) []) (hd : ∀ b ∈ enB g2 (.slice none 0 0), b ∉ enB g s)
    (hK : ∀ u w', EncR w w' u (uintB (BitVec.ofNat 64 (sealV (L ++ (uintB (BitVec.ofNat 64 r.data.length) ++ r.data))).length) ++ sealV (L ++ (uintB (BitVec.ofNat 64 r.data.length) ++ r.data))) 0 → K u w') :
    rec_Encode_j1 K (ptr gb) (ptr g) (ptr g2) y := by
  have hle := uintB_le (BitVec.ofNat 64 r.data.length)
  have hc := X.cell0 hB
  unfold rec_Encode_j1
  simp (disch := (first | omega | decide | (simp only [World.size_alloc, World.size_setCell, World.size_drew, size_sets, List.mem_cons, List.not_mem_nil, or_false, not_false_eq_true] <;> omega) | fail)) only [↓rsRec_2, rsRec_1, Option.isNone_some, Option.isNone_none, tick_eq, tickV_eq, ne_eq, Int.reduceAdd, Int.reduceSub, Int.reduceMul, Int.reduceEq, Int.reduceLT, Int.reduceLE, Int.reduceToNat, Nat.reduceMul, Nat.reduceAdd, Nat.reduceSub, List.nil_append, List.cons_append, List.getElem?_toArray, List.getElem?_cons_zero, List.getElem?_cons_succ, List.setIfInBounds_toArray, List.set_cons_zero, List.set_cons_succ, Option.map_some, List.not_mem_nil, ←decide_not, hc]
  have hloc : r.data ≠ [] → ∀ b o, a = some ⟨b, o, none⟩ → b ∉ enB g s := fun hne b o e hb => by
    obtain ⟨b', o', e', hb', _⟩ := hrow.get (by simpa using hne)
    rw [e] at e'; cases e'
    have := (H.up b hb).1
    omega
  refine codec_Enc_Raw_call (Yld.mono (Enc_Raw_spec r.data a c H (by omega) (hrow.ext0 X) hnil hloc) ?_)
  rintro u1 y1 ⟨rfl, T1⟩
  obtain ⟨s1, X1, H1, S1⟩ := enc_step X H T1
  obtain ⟨O1, hd1⟩ := enc_other S1 O hd
  generalize hM : L ++ (uintB (BitVec.ofNat 64 r.data.length) ++ r.data) = M at *
  have hMl : M.length ≤ 5110 := by rw [← hM]; simp only [List.length_append]; omega
  simp (disch := (first | omega | decide | (simp only [World.size_alloc, World.size_setCell, World.size_drew, size_sets, List.mem_cons, List.not_mem_nil, or_false, not_false_eq_true] <;> omega) | fail)) only [↓rsRec_2, rsRec_1, Option.isNone_some, Option.isNone_none, tick_eq, tickV_eq, ne_eq, Int.reduceAdd, Int.reduceSub, Int.reduceMul, Int.reduceEq, Int.reduceLT, Int.reduceLE, Int.reduceToNat, Nat.reduceMul, Nat.reduceAdd, Nat.reduceSub, List.nil_append, List.cons_append, List.getElem?_toArray, List.getElem?_cons_zero, List.getElem?_cons_succ, List.setIfInBounds_toArray, List.set_cons_zero, List.set_cons_succ, Option.map_some, List.not_mem_nil, ←decide_not, hc]
  refine codec_Enc_Bytes_call (Yld.mono (Enc_Bytes_spec H1 (by omega)) ?_)
  rintro u2 y2 ⟨F2, a2, c2, rfl, q1, q2, q3, q4⟩
  have X2 := X1.trans F2
  simp (disch := (first | omega | decide | (simp only [World.size_alloc, World.size_setCell, World.size_drew, size_sets, List.mem_cons, List.not_mem_nil, or_false, not_false_eq_true] <;> omega) | fail)) only [↓rsRec_2, rsRec_1, Option.isNone_some, Option.isNone_none, tick_eq, tickV_eq, ne_eq, Int.reduceAdd, Int.reduceSub, Int.reduceMul, Int.reduceEq, Int.reduceLT, Int.reduceLE, Int.reduceToNat, Nat.reduceMul, Nat.reduceAdd, Nat.reduceSub, List.nil_append, List.cons_append, List.getElem?_toArray, List.getElem?_cons_zero, List.getElem?_cons_succ, List.setIfInBounds_toArray, List.set_cons_zero, List.set_cons_succ, Option.map_some, List.not_mem_nil, ←decide_not, hc]
  refine crc_Seal_call (Yld.mono (Seal_spec M a2 _ c2 y2 rfl (by omega) q3) ?_)
  rintro u3 y3 ⟨F3, b3, c3, rfl, p1, p2, p3⟩
  have X3 := X2.trans F3
  have O3 := (O1.ext0 F2).ext0 F3
  have hsl := sealV_length M
  have hz2 := F2.size
  simp (disch := (first | omega | decide | (simp only [World.size_alloc, World.size_setCell, World.size_drew, size_sets, List.mem_cons, List.not_mem_nil, or_false, not_false_eq_true] <;> omega) | fail)) only [↓rsRec_2, rsRec_1, Option.isNone_some, Option.isNone_none, tick_eq, tickV_eq, ne_eq, Int.reduceAdd, Int.reduceSub, Int.reduceMul, Int.reduceEq, Int.reduceLT, Int.reduceLE, Int.reduceToNat, Nat.reduceMul, Nat.reduceAdd, Nat.reduceSub, List.nil_append, List.cons_append, List.getElem?_toArray, List.getElem?_cons_zero, List.getElem?_cons_succ, List.setIfInBounds_toArray, List.set_cons_zero, List.set_cons_succ, Option.map_some, List.not_mem_nil, ←decide_not, hc]
  refine codec_Enc_Raw_call (Yld.mono (Enc_Raw_spec (sealV M) _ c3 O3 (by simp; omega) p3 (fun h => (by cases h)) fun _ b o e hb => ?_) ?_)
  · cases e
    have h1 := (O1.up b3 hb).2
    omega
  rintro u4 y4 ⟨rfl, T4⟩
  obtain ⟨s4, X4, H4, S4⟩ := enc_step X3 O3 T4
  rw [List.nil_append] at H4
  have hle2 := uintB_le (BitVec.ofNat 64 (sealV M).length)
  simp (disch := (first | omega | decide | (simp only [World.size_alloc, World.size_setCell, World.size_drew, size_sets, List.mem_cons, List.not_mem_nil, or_false, not_false_eq_true] <;> omega) | fail)) only [↓rsRec_2, rsRec_1, Option.isNone_some, Option.isNone_none, tick_eq, tickV_eq, ne_eq, Int.reduceAdd, Int.reduceSub, Int.reduceMul, Int.reduceEq, Int.reduceLT, Int.reduceLE, Int.reduceToNat, Nat.reduceMul, Nat.reduceAdd, Nat.reduceSub, List.nil_append, List.cons_append, List.getElem?_toArray, List.getElem?_cons_zero, List.getElem?_cons_succ, List.setIfInBounds_toArray, List.set_cons_zero, List.set_cons_succ, Option.map_some, List.not_mem_nil, ←decide_not, hc]
  refine codec_Enc_Bytes_call (Yld.mono (Enc_Bytes_spec H4 (by rw [List.length_append]; omega)) ?_)
  rintro u5 y5 ⟨F5, a5, c5, rfl, t1, t2, t3, t4⟩
  have hz4 := X4.size
  exact hK _ _ ⟨X4.trans F5, a5, c5, rfl, t1, t2, t3, fun x hx => ⟨by have := (t4 x hx).1; omega, (t4 x hx).2⟩⟩
abbrev rsRec_3 := (And.intro @xBox_r (And.intro @loadK_some (And.intro @loadsK_s (And.intro @loadsK_n (And.intro @loadsR_s (And.intro @loadsR_n (And.intro @storesK_s (And.intro @storesK_n (And.intro @xPick_t (And.intro @xPick_f (And.intro @xGuard_tt (And.intro @xGuard_ff (And.intro @xGuard_tf (And.intro @xGuard_ft (And.intro @xGuard_u 
  (And.intro @xNil_r (And.intro @xIf_t (And.intro @xBin_add' (And.intro @xBin_sub' (And.intro @xBin_mul' (And.intro @xBin_quo' (And.intro @xBin_rem' (And.intro @xIf_f (And.intro @xIf_tt (And.intro @xEx0 (And.intro @xEx1 (And.intro @xEx2 (And.intro @xEx3 (And.intro @xBin_eqs (And.intro @xBin_nes (And.intro @xUn_not (And.intro @xu8_eql (And.intro @xu8_neq 
  (And.intro @xu16_eql (And.intro @xu16_neq (And.intro @xu32_eql (And.intro @xu32_neq (And.intro @xu64_eql (And.intro @xu64_neq (And.intro @xi64_eql (And.intro @xi64_neq (And.intro @xi64_neg (And.intro @xMakeFunc_r (And.intro @xSq_r (And.intro @xPur_s (And.intro @xRd_s (And.intro @xRe_s (And.intro @xDet_s (And.intro @xDet_ld (And.intro @xDet_ld2 
  (And.intro @xDet_ld3 (And.intro @xDet_ld4 (And.intro @xGuard_tt (And.intro @ld_3 (And.intro @ld_22 (And.intro @ld_27 (And.intro @fa_24_0 (And.intro @fa_24_1 (And.intro @fa_27_0 (And.intro @fa_27_1 (And.intro @fa_27_2 (And.intro @al_51 @cv_3_22))))))))))))))))))))))))))))))))))))))))))))))))))))))))))))))
theorem rec_Encode_spec (r : RC) (a : Option Addr) (c : Nat) (w : World) (hdata : r.data.length ≤ 5000) (hrow : RowAt w a (bys r.data)) (hnil : a = none → c = 0) : Yld Try.prog n_rec_Encode #[rcV r a c] w fun u w' => EncR w w' u (rcEnc r) (rcErr r) := by
  refine rec_Encode_of ?_
  unfold rec_Encode
  simp (disch := (first | omega | decide | (simp only [World.size_alloc, World.size_setCell, World.size_drew, size_sets, List.mem_cons, List.not_mem_nil, or_false, not_false_eq_true] <;> omega) | fail)) only [↓rsRec_3, rsRec_1, Option.isNone_some, Option.isNone_none, tick_eq, tickV_eq, ne_eq, Int.reduceAdd, Int.reduceSub, Int.reduceMul, Int.reduceEq, Int.reduceLT, Int.reduceLE, Int.reduceToNat, Nat.reduceMul, Nat.reduceAdd, Nat.reduceSub, List.nil_append, List.cons_append, List.getElem?_toArray, List.getElem?_cons_zero, List.getElem?_cons_succ, List.setIfInBounds_toArray, List.set_cons_zero, List.set_cons_succ, Option.map_some, List.not_mem_nil, ←decide_not, eq_self]
  refine rec_Record_check_call (Gives.to (check_spec r a c _) fun w1 E1 => ?_)
  have hz1 := E1.size
  rw [World.size_alloc] at hz1
  have B1 : Blk w1 w.heap.size 27 (rcC r a c) := (Blk.at rfl).ext E1 (by simp)
  have X0 : Ext [] w w1 := (Ext.alloc [] w _).trans E1
  by_cases he : rcErr r = 0
  · have hok := rcErr_0 he
    have e0 : rcEnc r = rcOut r := if_pos he
    have k0 : w1.cell? ⟨w.heap.size, 0, none⟩ = some (i64 r.kind) := by rw [B1.cell]; rfl
    have k1 : w1.cell? ⟨w.heap.size, 1, none⟩ = some (u64 r.tx) := by rw [B1.cell]; rfl
    have k2 : w1.cell? ⟨w.heap.size, 2, none⟩ = some (i64 r.sp) := by rw [B1.cell]; rfl
    have k3 : w1.cell? ⟨w.heap.size, 3, none⟩ = some (i64 r.no) := by rw [B1.cell]; rfl
    have k4 : w1.cell? ⟨w.heap.size, 4, none⟩ = some (.slice a r.data.length c) := by rw [B1.cell]; rfl
    simp (disch := (first | omega | decide | (simp only [World.size_alloc, World.size_setCell, World.size_drew, size_sets, List.mem_cons, List.not_mem_nil, or_false, not_false_eq_true] <;> omega) | fail)) only [↓rsRec_3, rsRec_1, Option.isNone_some, Option.isNone_none, tick_eq, tickV_eq, ne_eq, Int.reduceAdd, Int.reduceSub, Int.reduceMul, Int.reduceEq, Int.reduceLT, Int.reduceLE, Int.reduceToNat, Nat.reduceMul, Nat.reduceAdd, Nat.reduceSub, List.nil_append, List.cons_append, List.getElem?_toArray, List.getElem?_cons_zero, List.getElem?_cons_succ, List.setIfInBounds_toArray, List.set_cons_zero, List.set_cons_succ, Option.map_some, List.not_mem_nil, ←decide_not, he, k0]
    have H0 := (enc_new (w := w1) (Nat.le_refl _)).ext0 (Ext.alloc [] _ (.cells [Value.slice none 0 0].toArray 51))
    have O0 := enc_new (w := w1.alloc (.cells [Value.slice none 0 0].toArray 51)) (base := w1.heap.size) (by simp)
    rw [World.size_alloc] at O0
    have hd0 : ∀ b ∈ enB (w1.heap.size + 1) (.slice none 0 0), b ∉ enB w1.heap.size (.slice none 0 0) := by simp [enB, Value.ownBlock]
    have Y0 : Ext [] w1 ((w1.alloc (.cells [Value.slice none 0 0].toArray 51)).alloc (.cells [Value.slice none 0 0].toArray 51)) := by (repeat (first | with_reducible exact Ext.refl _ _ | with_reducible assumption | with_reducible refine Ext.alloc' ?_ _ | with_reducible refine Ext.drew' ?_ | with_reducible refine Ext.set' ?_ ?_ | exact .inr (by first | omega | (simp only [World.size_alloc, World.size_drew, World.size_setCell] <;> omega)) | refine Ext.trans ?_ (by with_reducible assumption)))
    have hu1 := uintB_le (BitVec.ofInt 64 r.kind)
    have hu2 := uintB_le r.tx
    have hu3 := uintB_le (BitVec.ofInt 64 r.sp)
    have hu4 := uintB_le (BitVec.ofInt 64 r.no)
    refine codec_Enc_Uint_call (Yld.mono (Enc_Uint_spec (BitVec.ofInt 64 r.kind) H0 (by simp)) ?_)
    rintro u1 y1 ⟨rfl, T1⟩
    obtain ⟨s1, Y1, H1, S1⟩ := enc_step Y0 H0 T1
    obtain ⟨O1, hd1⟩ := enc_other S1 O0 hd0
    rw [List.nil_append] at H1
    have m1 := Y1.cell0 k1
    simp (disch := (first | omega | decide | (simp only [World.size_alloc, World.size_setCell, World.size_drew, size_sets, List.mem_cons, List.not_mem_nil, or_false, not_false_eq_true] <;> omega) | fail)) only [↓rsRec_3, rsRec_1, Option.isNone_some, Option.isNone_none, tick_eq, tickV_eq, ne_eq, Int.reduceAdd, Int.reduceSub, Int.reduceMul, Int.reduceEq, Int.reduceLT, Int.reduceLE, Int.reduceToNat, Nat.reduceMul, Nat.reduceAdd, Nat.reduceSub, List.nil_append, List.cons_append, List.getElem?_toArray, List.getElem?_cons_zero, List.getElem?_cons_succ, List.setIfInBounds_toArray, List.set_cons_zero, List.set_cons_succ, Option.map_some, List.not_mem_nil, ←decide_not, m1]
    refine codec_Enc_Uint_call (Yld.mono (Enc_Uint_spec r.tx H1 (by omega)) ?_)
    rintro u2 y2 ⟨rfl, T2⟩
    obtain ⟨s2, Y2, H2, S2⟩ := enc_step Y1 H1 T2
    obtain ⟨O2, hd2⟩ := enc_other S2 O1 hd1
    have n0 := Y2.cell0 k0
    have fin : ∀ u w', EncR w1 w' u (rcOut r) 0 → EncR w w' u (rcEnc r) (rcErr r) := fun u w' h => by
      obtain ⟨hx, a', c', rfl, h1, h2, h3, h4⟩ := h
      rw [e0, he]
      exact ⟨X0.trans hx, a', c', rfl, h1, h2, h3, fun x hx => ⟨by have := (h4 x hx).1; omega, (h4 x hx).2⟩⟩
    by_cases hk : r.kind = 1
    · have dk : decide (r.kind = 1) = true := decide_eq_true hk
      have n2 := Y2.cell0 k2
      simp (disch := (first | omega | decide | (simp only [World.size_alloc, World.size_setCell, World.size_drew, size_sets, List.mem_cons, List.not_mem_nil, or_false, not_false_eq_true] <;> omega) | fail)) only [↓rsRec_3, rsRec_1, Option.isNone_some, Option.isNone_none, tick_eq, tickV_eq, ne_eq, Int.reduceAdd, Int.reduceSub, Int.reduceMul, Int.reduceEq, Int.reduceLT, Int.reduceLE, Int.reduceToNat, Nat.reduceMul, Nat.reduceAdd, Nat.reduceSub, List.nil_append, List.cons_append, List.getElem?_toArray, List.getElem?_cons_zero, List.getElem?_cons_succ, List.setIfInBounds_toArray, List.set_cons_zero, List.set_cons_succ, Option.map_some, List.not_mem_nil, ←decide_not, n0, dk, n2]
      refine codec_Enc_Uint_call (Yld.mono (Enc_Uint_spec (BitVec.ofInt 64 r.sp) H2 (by rw [List.length_append]; omega)) ?_)
      rintro u3 y3 ⟨rfl, T3⟩
      obtain ⟨s3, Y3, H3, S3⟩ := enc_step Y2 H2 T3
      obtain ⟨O3, hd3⟩ := enc_other S3 O2 hd2
      have p3 := Y3.cell0 k3
      simp (disch := (first | omega | decide | (simp only [World.size_alloc, World.size_setCell, World.size_drew, size_sets, List.mem_cons, List.not_mem_nil, or_false, not_false_eq_true] <;> omega) | fail)) only [↓rsRec_3, rsRec_1, Option.isNone_some, Option.isNone_none, tick_eq, tickV_eq, ne_eq, Int.reduceAdd, Int.reduceSub, Int.reduceMul, Int.reduceEq, Int.reduceLT, Int.reduceLE, Int.reduceToNat, Nat.reduceMul, Nat.reduceAdd, Nat.reduceSub, List.nil_append, List.cons_append, List.getElem?_toArray, List.getElem?_cons_zero, List.getElem?_cons_succ, List.setIfInBounds_toArray, List.set_cons_zero, List.set_cons_succ, Option.map_some, List.not_mem_nil, ←decide_not, p3]
      refine codec_Enc_Uint_call (Yld.mono (Enc_Uint_spec (BitVec.ofInt 64 r.no) H3 (by simp only [List.length_append]; omega)) ?_)
      rintro u4 y4 ⟨rfl, T4⟩
      obtain ⟨s4, Y4, H4, S4⟩ := enc_step Y3 H3 T4
      obtain ⟨O4, hd4⟩ := enc_other S4 O3 hd3
      have eL : rcIn r = (((uintB (BitVec.ofInt 64 r.kind) ++ uintB r.tx) ++ uintB (BitVec.ofInt 64 r.sp)) ++ uintB (BitVec.ofInt 64 r.no)) ++ (uintB (BitVec.ofNat 64 r.data.length) ++ r.data) := by
        unfold rcIn; rw [if_pos hk]; simp only [List.append_assoc]
      simp only [World.size_alloc]
      refine rec_tail r a c w1 y4 _ w.heap.size _ _ _ _ (by omega) hdata (by simp only [List.length_append]; omega) (hrow.ext0 X0) hnil k4 Y4 H4 O4 hd4 fun u w' h => fin u w' ?_
      rw [← eL] at h
      exact h
    · have dk : decide (r.kind = 1) = false := decide_eq_false hk
      simp (disch := (first | omega | decide | (simp only [World.size_alloc, World.size_setCell, World.size_drew, size_sets, List.mem_cons, List.not_mem_nil, or_false, not_false_eq_true] <;> omega) | fail)) only [↓rsRec_3, rsRec_1, Option.isNone_some, Option.isNone_none, tick_eq, tickV_eq, ne_eq, Int.reduceAdd, Int.reduceSub, Int.reduceMul, Int.reduceEq, Int.reduceLT, Int.reduceLE, Int.reduceToNat, Nat.reduceMul, Nat.reduceAdd, Nat.reduceSub, List.nil_append, List.cons_append, List.getElem?_toArray, List.getElem?_cons_zero, List.getElem?_cons_succ, List.setIfInBounds_toArray, List.set_cons_zero, List.set_cons_succ, Option.map_some, List.not_mem_nil, ←decide_not, n0, dk]
      have eL : rcIn r = (uintB (BitVec.ofInt 64 r.kind) ++ uintB r.tx) ++ (uintB (BitVec.ofNat 64 r.data.length) ++ r.data) := by
        unfold rcIn; rw [if_neg hk]; simp only [List.append_assoc, List.nil_append]
      refine rec_tail r a c w1 y2 _ w.heap.size _ _ _ _ (by omega) hdata (by simp only [List.length_append]; omega) (hrow.ext0 X0) hnil k4 Y2 H2 O2 hd2 fun u w' h => fin u w' ?_
      rw [← eL] at h
      exact h
  · have e0 : rcEnc r = [] := if_neg he
    have d0 : decide (¬ rcErr r = 0) = true := decide_eq_true he
    simp (disch := (first | omega | decide | (simp only [World.size_alloc, World.size_setCell, World.size_drew, size_sets, List.mem_cons, List.not_mem_nil, or_false, not_false_eq_true] <;> omega) | fail)) only [↓rsRec_3, rsRec_1, Option.isNone_some, Option.isNone_none, tick_eq, tickV_eq, ne_eq, Int.reduceAdd, Int.reduceSub, Int.reduceMul, Int.reduceEq, Int.reduceLT, Int.reduceLE, Int.reduceToNat, Nat.reduceMul, Nat.reduceAdd, Nat.reduceSub, List.nil_append, List.cons_append, List.getElem?_toArray, List.getElem?_cons_zero, List.getElem?_cons_succ, List.setIfInBounds_toArray, List.set_cons_zero, List.set_cons_succ, Option.map_some, List.not_mem_nil, ←decide_not, d0]
    rw [e0]
    exact ⟨X0, none, 0, rfl, Nat.le_refl _, fun _ => rfl, RowAt.nil, fun x hx => by cases hx⟩
end Go.Proofs.Ytknineilpenbnaa
