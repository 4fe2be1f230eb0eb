/- What the functions on objects compute, where all is well (sq). -/
import Derived.Test.YtknineilpenbnaaDoorSpc2
set_option linter.unusedVariables false
set_option linter.unusedSimpArgs false
set_option maxHeartbeats 4000000
namespace Go.Proofs.YtknineilpenbnaaDoor
open Go.Sh Go.RowKit

def pN (x : BitVec 64) : Nat := (uP x).toNat
def bN (x : BitVec 64) : Nat := (uB x).toNat
theorem okW_v {x : BitVec 64} (h : okW x) : vP x = pN x ∧ vB x = bN x ∧ vM x = false ∧ vT x = 0 ∧ unErr x = 0 ∧ szW x = 1 + pN x + (bN x + 7) / 8 ∧ pN x ≤ 64 ∧ bN x ≤ 1024 := by
  obtain ⟨_, e2, e3, _, _⟩ := okW_size h
  obtain ⟨h1, h2⟩ := h
  have h3 := h1.1
  rw [h2, right_f] at h3
  simp only [vP, vB, vT, if_pos h1, pN, bN]
  exact ⟨by omega, by omega, e3, by omega, e2, rfl, by omega, by omega⟩
/-- an object that ends by the top -/
structure ObjAt (ws : List (BitVec 64)) (b t o : Nat) : Prop where
  lo : b ≤ o
  ok : okW (wat ws o)
  hi : o + szW (wat ws o) ≤ t
theorem ObjAt.lt {ws : List (BitVec 64)} {b t o : Nat} (h : ObjAt ws b t o) : o < t := by
  have := h.hi
  have := szW_pos (x := wat ws o)
  omega
section
variable {w : World} {base s g : Nat} {a : Option Addr} {c : Nat} {ws : List (BitVec 64)} {b t e : Nat}
abbrev rsObj_0 := (And.intro @xBox_r (And.intro @loadK_some (And.intro @loadsK_s (And.intro @loadsK_n (And.intro @loadsR_s (And.intro @loadsR_n (And.intro @storesK_s (And.intro @storesK_n (And.intro @xPick_t (And.intro @xPick_f (And.intro @xGuard_tt (And.intro @xGuard_ff (And.intro @xGuard_tf (And.intro @xGuard_ft (And.intro @xGuard_u 
  (And.intro @xNil_r (And.intro @xIf_t (And.intro @xBin_add' (And.intro @xBin_sub' (And.intro @xBin_mul' (And.intro @xBin_quo' (And.intro @xBin_rem' (And.intro @xIf_f (And.intro @xIf_tt (And.intro @xEx0 (And.intro @xEx1 (And.intro @xEx2 (And.intro @xEx3 (And.intro @xBin_eqs (And.intro @xBin_nes (And.intro @xUn_not (And.intro @xu8_sub (And.intro @xu8_neq 
  (And.intro @xu8_gtr (And.intro @xu16_sub (And.intro @xu16_neq (And.intro @xu16_gtr (And.intro @xu32_sub (And.intro @xu32_neq (And.intro @xu32_gtr (And.intro @xu64_sub (And.intro @xu64_neq (And.intro @xu64_gtr (And.intro @xi64_gtr (And.intro @xi64_neq (And.intro @xi64_neg (And.intro @xMakeFunc_r (And.intro @xSq_r (And.intro @xPur_s (And.intro @xRd_s 
  (And.intro @xRe_s (And.intro @xDet_s (And.intro @xDet_ld (And.intro @xDet_ld2 (And.intro @xDet_ld3 (And.intro @xDet_ld4 (And.intro @xGuard_tt (And.intro @ld_3 (And.intro @ld_4 (And.intro @ld_34 (And.intro @lr_34 (And.intro @fa_34_2 (And.intro @fa_65_2 (And.intro @al_34 (And.intro @st_34 (And.intro @bd_34_0_1 (And.intro @bd_34_0 (And.intro @bd_34_1 (And.intro @bd_34_2_3 @bd_34)))))))))))))))))))))))))))))))))))))))))))))))))))))))))))))))))))))
abbrev rsObj_1 := (And.intro @setCells_c (And.intro @setCells_n (And.intro @World.setCell_alloc_at (And.intro @World.setCell_alloc_past (And.intro @World.cell?_alloc_at (And.intro @World.cell?_alloc_past (And.intro @World.frozen?_alloc_at (And.intro @World.frozen?_alloc_past 
  (And.intro @World.size_alloc (And.intro @dlt_t (And.intro @dlt_f (And.intro @dle_t (And.intro @dle_f (And.intro @deq_t (And.intro @deq_f (And.intro @dne_t (And.intro @dne_f (And.intro @not_true_eq_false (And.intro @Bool.false_and (And.intro @Bool.true_and (And.intro @Bool.and_true (And.intro @Bool.and_false (And.intro @wrap_in (And.intro @Int.toNat_natCast 
  (And.intro @Nat.mul_one (And.intro @cells_int (And.intro @cells_bool (And.intro @cells_string (And.intro @cells_slice (And.intro @cells_pointer (And.intro @cells_agg (And.intro @one_int (And.intro @one_bool (And.intro @one_string (And.intro @one_slice (And.intro @one_pointer (And.intro @beq_tt (And.intro @beq_ff (And.intro @beq_tf 
  (And.intro @beq_ft (And.intro @cell_sets_b (And.intro @frozen_sets (And.intro @size_sets (And.intro @World.size_drew (And.intro @Nat.zero_add (And.intro @Nat.add_zero (And.intro @cell_drew (And.intro @frozen_drew (And.intro @cell_set_eq (And.intro @cell_set_o (And.intro @cell_set_b (And.intro @World.frozen?_setCell 
  (And.intro @decide_true (And.intro @decide_false (And.intro @not_false_eq_true (And.intro @Bool.not_true @Bool.not_false))))))))))))))))))))))))))))))))))))))))))))))))))))))))
theorem whole_ok {o : Nat} (S : SpIs w base s g a c ws b t e) (h : ObjAt ws b t o) : Gives Tryd.prog n_obj_whole #[ptr s, i64 (o : Int)] w (.tuple #[hd (pN (wat ws o)) (bN (wat ws o)) false 0, i64 0]) := by
  obtain ⟨v1, v2, v3, v4, v5, v6, v7, v8⟩ := okW_v h.ok
  have q1 := S.te
  have q2 := S.el
  have q3 := S.mem.len
  have hlt := h.lt
  have hhi := h.hi
  have hh := SHead_in (o := o) S h.lo hlt
  rw [v1, v2, v3, v4, v5] at hh
  refine obj_whole_of ?_
  unfold obj_whole
  simp (disch := (first | omega | decide | (simp only [World.size_alloc, World.size_setCell, World.size_drew, size_sets, List.mem_cons, List.not_mem_nil, or_false, not_false_eq_true] <;> omega) | fail)) only [↓rsObj_0, rsObj_1, Option.isNone_some, Option.isNone_none, tick_eq, tickV_eq, ne_eq, Int.reduceAdd, Int.reduceSub, Int.reduceMul, Int.reduceEq, Int.reduceLT, Int.reduceLE, Int.reduceToNat, Nat.reduceMul, Nat.reduceAdd, Nat.reduceSub, List.nil_append, List.cons_append, List.getElem?_toArray, List.getElem?_cons_zero, List.getElem?_cons_succ, List.setIfInBounds_toArray, List.set_cons_zero, List.set_cons_succ, Option.map_some, List.not_mem_nil, ←decide_not, eq_self]
  have B : Blk (w.alloc (.cells #[i64 0, i64 0, .bool false, i64 0] 34)) w.heap.size 34 [i64 0, i64 0, .bool false, i64 0] := Blk.at rfl
  have X : Ext [] w (w.alloc (.cells #[i64 0, i64 0, .bool false, i64 0] 34)) := Ext.alloc _ _ _
  have zs := S.blk.lt
  generalize w.alloc (.cells #[i64 0, i64 0, .bool false, i64 0] 34) = y at *
  have hh2 := SHead_in (o := o) (S.ext0 X) h.lo hlt
  rw [v1, v2, v3, v4, v5] at hh2
  refine space_Space_Head_call (Gives.to hh2 fun w1 F1 => ?_)
  have B1 := B.ext F1 (by simp)
  have S1 := (S.ext0 X).ext0 F1
  have z1 := B1.lt
  have zs1 := S1.blk.lt
  have ks := fun i => S1.blk.cell (i := i)
  simp (disch := (first | omega | decide | (simp only [World.size_alloc, World.size_setCell, World.size_drew, size_sets, List.mem_cons, List.not_mem_nil, or_false, not_false_eq_true] <;> omega) | fail)) only [↓rsObj_0, rsObj_1, Option.isNone_some, Option.isNone_none, tick_eq, tickV_eq, ne_eq, Int.reduceAdd, Int.reduceSub, Int.reduceMul, Int.reduceEq, Int.reduceLT, Int.reduceLE, Int.reduceToNat, Nat.reduceMul, Nat.reduceAdd, Nat.reduceSub, List.nil_append, List.cons_append, List.getElem?_toArray, List.getElem?_cons_zero, List.getElem?_cons_succ, List.setIfInBounds_toArray, List.set_cons_zero, List.set_cons_succ, Option.map_some, List.not_mem_nil, ←decide_not, ks]
  have C : Blk (w1.alloc (.cells #[i64 (pN (wat ws o)), i64 (bN (wat ws o)), .bool false, i64 0] 34)) w1.heap.size 34 [i64 (pN (wat ws o)), i64 (bN (wat ws o)), .bool false, i64 0] := Blk.at rfl
  have X1 : Ext [] w1 (w1.alloc (.cells #[i64 (pN (wat ws o)), i64 (bN (wat ws o)), .bool false, i64 0] 34)) := Ext.alloc _ _ _
  have B2 := B1.ext X1 (by simp)
  have S2 := S1.ext0 X1
  have hsz : Gives Tryd.prog n_head_Size #[hd (pN (wat ws o)) (bN (wat ws o)) false 0] (w1.alloc (.cells #[i64 (pN (wat ws o)), i64 (bN (wat ws o)), .bool false, i64 0] 34)).drew (i64 (szW (wat ws o) : Int)) := by
    have := SizeW_spec h.ok (w1.alloc (.cells #[i64 (pN (wat ws o)), i64 (bN (wat ws o)), .bool false, i64 0] 34)).drew
    rw [v1, v2, v4] at this
    exact this
  refine head_Size_call (Gives.to hsz fun w3 F3d => ?_)
  have F3 := (Ext.drew [] _).trans F3d
  have B3 := B2.ext F3 (by simp)
  have C3 := C.ext F3 (by simp)
  have S3 := S2.ext0 F3
  have k3 := fun i => S3.blk.cell (i := i)
  have kb := fun i => B3.cell (i := i)
  have fb := fun i => B3.frozen (i := i)
  have kc := fun i => C3.cell (i := i)
  simp (disch := (first | omega | decide | (simp only [World.size_alloc, World.size_setCell, World.size_drew, size_sets, List.mem_cons, List.not_mem_nil, or_false, not_false_eq_true] <;> omega) | fail)) only [↓rsObj_0, rsObj_1, Option.isNone_some, Option.isNone_none, tick_eq, tickV_eq, ne_eq, Int.reduceAdd, Int.reduceSub, Int.reduceMul, Int.reduceEq, Int.reduceLT, Int.reduceLE, Int.reduceToNat, Nat.reduceMul, Nat.reduceAdd, Nat.reduceSub, List.nil_append, List.cons_append, List.getElem?_toArray, List.getElem?_cons_zero, List.getElem?_cons_succ, List.setIfInBounds_toArray, List.set_cons_zero, List.set_cons_succ, Option.map_some, List.not_mem_nil, ←decide_not, ks, k3, kc, kb, fb]
  exact ⟨by trivial, ((((X.trans (F1.trans (X1.trans F3))).set' (.inr (Nat.le_refl _))).set' (.inr (Nat.le_refl _))).set' (.inr (Nat.le_refl _))).set' (.inr (Nat.le_refl _))⟩
abbrev rsObj_2 := (And.intro @xBox_r (And.intro @loadK_some (And.intro @loadsK_s (And.intro @loadsK_n (And.intro @loadsR_s (And.intro @loadsR_n (And.intro @storesK_s (And.intro @storesK_n (And.intro @xPick_t (And.intro @xPick_f (And.intro @xGuard_tt (And.intro @xGuard_ff (And.intro @xGuard_tf (And.intro @xGuard_ft (And.intro @xGuard_u 
  (And.intro @xNil_r (And.intro @xIf_t (And.intro @xBin_add' (And.intro @xBin_sub' (And.intro @xBin_mul' (And.intro @xBin_quo' (And.intro @xBin_rem' (And.intro @xIf_f (And.intro @xIf_tt (And.intro @xEx0 (And.intro @xEx1 (And.intro @xEx2 (And.intro @xEx3 (And.intro @xBin_eqs (And.intro @xBin_nes (And.intro @xUn_not (And.intro @xu8_lss (And.intro @xu8_geq 
  (And.intro @xu16_lss (And.intro @xu16_geq (And.intro @xu32_lss (And.intro @xu32_geq (And.intro @xu64_lss (And.intro @xu64_geq (And.intro @xi64_lss (And.intro @xi64_geq (And.intro @xMakeFunc_r (And.intro @xSq_r (And.intro @xPur_s (And.intro @xRd_s (And.intro @xRe_s (And.intro @xDet_s (And.intro @xDet_ld (And.intro @xDet_ld2 (And.intro @xDet_ld3 
  (And.intro @xDet_ld4 (And.intro @xGuard_tt (And.intro @ld_3 (And.intro @fa_65_1 @fa_65_2))))))))))))))))))))))))))))))))))))))))))))))))))))))
theorem objIn_spec {o : Int} (S : SpIs w base s g a c ws b t e) : Gives Tryd.prog n_obj_in #[ptr s, i64 o] w (.bool (decide ((b : Int) ≤ o ∧ o < t))) := by
  refine obj_in_of ?_
  unfold obj_in
  have k := fun i => S.blk.cell (i := i)
  simp (disch := (first | omega | decide | (simp only [World.size_alloc, World.size_setCell, World.size_drew, size_sets, List.mem_cons, List.not_mem_nil, or_false, not_false_eq_true] <;> omega) | fail)) only [↓rsObj_2, rsObj_1, Option.isNone_some, Option.isNone_none, tick_eq, tickV_eq, ne_eq, Int.reduceAdd, Int.reduceSub, Int.reduceMul, Int.reduceEq, Int.reduceLT, Int.reduceLE, Int.reduceToNat, Nat.reduceMul, Nat.reduceAdd, Nat.reduceSub, List.nil_append, List.cons_append, List.getElem?_toArray, List.getElem?_cons_zero, List.getElem?_cons_succ, List.setIfInBounds_toArray, List.set_cons_zero, List.set_cons_succ, Option.map_some, List.not_mem_nil, ←decide_not, k]
  by_cases g1 : ¬ (b : Int) ≤ o
  · have hv : decide ((b : Int) ≤ o ∧ o < t) = false := decide_eq_false (by omega)
    simp (disch := (first | omega | decide | (simp only [World.size_alloc, World.size_setCell, World.size_drew, size_sets, List.mem_cons, List.not_mem_nil, or_false, not_false_eq_true] <;> omega) | fail)) only [↓rsObj_2, rsObj_1, Option.isNone_some, Option.isNone_none, tick_eq, tickV_eq, ne_eq, Int.reduceAdd, Int.reduceSub, Int.reduceMul, Int.reduceEq, Int.reduceLT, Int.reduceLE, Int.reduceToNat, Nat.reduceMul, Nat.reduceAdd, Nat.reduceSub, List.nil_append, List.cons_append, List.getElem?_toArray, List.getElem?_cons_zero, List.getElem?_cons_succ, List.setIfInBounds_toArray, List.set_cons_zero, List.set_cons_succ, Option.map_some, List.not_mem_nil, ←decide_not, k, g1, hv]
    exact ⟨by trivial, by (repeat (first | with_reducible exact Ext.refl _ _ | with_reducible assumption | with_reducible refine Ext.alloc' ?_ _ | with_reducible refine Ext.drew' ?_ | with_reducible refine Ext.set' ?_ ?_ | exact .inr (by first | omega | (simp only [World.size_alloc, World.size_drew, World.size_setCell] <;> omega)) | refine Ext.trans ?_ (by with_reducible assumption)))⟩
  replace g1 := Decidable.not_not.1 g1
  by_cases g2 : ¬ o < (t : Int)
  · have hv : decide ((b : Int) ≤ o ∧ o < t) = false := decide_eq_false (by omega)
    simp (disch := (first | omega | decide | (simp only [World.size_alloc, World.size_setCell, World.size_drew, size_sets, List.mem_cons, List.not_mem_nil, or_false, not_false_eq_true] <;> omega) | fail)) only [↓rsObj_2, rsObj_1, Option.isNone_some, Option.isNone_none, tick_eq, tickV_eq, ne_eq, Int.reduceAdd, Int.reduceSub, Int.reduceMul, Int.reduceEq, Int.reduceLT, Int.reduceLE, Int.reduceToNat, Nat.reduceMul, Nat.reduceAdd, Nat.reduceSub, List.nil_append, List.cons_append, List.getElem?_toArray, List.getElem?_cons_zero, List.getElem?_cons_succ, List.setIfInBounds_toArray, List.set_cons_zero, List.set_cons_succ, Option.map_some, List.not_mem_nil, ←decide_not, k, eq_true g1, g2, hv]
    exact ⟨by trivial, by (repeat (first | with_reducible exact Ext.refl _ _ | with_reducible assumption | with_reducible refine Ext.alloc' ?_ _ | with_reducible refine Ext.drew' ?_ | with_reducible refine Ext.set' ?_ ?_ | exact .inr (by first | omega | (simp only [World.size_alloc, World.size_drew, World.size_setCell] <;> omega)) | refine Ext.trans ?_ (by with_reducible assumption)))⟩
  replace g2 := Decidable.not_not.1 g2
  have hv : decide ((b : Int) ≤ o ∧ o < t) = true := decide_eq_true (by omega)
  simp (disch := (first | omega | decide | (simp only [World.size_alloc, World.size_setCell, World.size_drew, size_sets, List.mem_cons, List.not_mem_nil, or_false, not_false_eq_true] <;> omega) | fail)) only [↓rsObj_2, rsObj_1, Option.isNone_some, Option.isNone_none, tick_eq, tickV_eq, ne_eq, Int.reduceAdd, Int.reduceSub, Int.reduceMul, Int.reduceEq, Int.reduceLT, Int.reduceLE, Int.reduceToNat, Nat.reduceMul, Nat.reduceAdd, Nat.reduceSub, List.nil_append, List.cons_append, List.getElem?_toArray, List.getElem?_cons_zero, List.getElem?_cons_succ, List.setIfInBounds_toArray, List.set_cons_zero, List.set_cons_succ, Option.map_some, List.not_mem_nil, ←decide_not, k, eq_true g1, eq_true g2, hv]
  exact ⟨by trivial, by (repeat (first | with_reducible exact Ext.refl _ _ | with_reducible assumption | with_reducible refine Ext.alloc' ?_ _ | with_reducible refine Ext.drew' ?_ | with_reducible refine Ext.set' ?_ ?_ | exact .inr (by first | omega | (simp only [World.size_alloc, World.size_drew, World.size_setCell] <;> omega)) | refine Ext.trans ?_ (by with_reducible assumption)))⟩
/-- what a word is as a pointer -/
def ptrV (b t : Nat) (v : BitVec 64) : Int × Int := if v.toNat = 0 then (-1, 0) else if v.toNat ≤ 8192 ∧ b ≤ v.toNat - 1 ∧ v.toNat - 1 < t then ((v.toNat : Int) - 1, 0) else (0, 2)
abbrev rsObj_3 := (And.intro @xBox_r (And.intro @loadK_some (And.intro @loadsK_s (And.intro @loadsK_n (And.intro @loadsR_s (And.intro @loadsR_n (And.intro @storesK_s (And.intro @storesK_n (And.intro @xPick_t (And.intro @xPick_f (And.intro @xGuard_tt (And.intro @xGuard_ff (And.intro @xGuard_tf (And.intro @xGuard_ft (And.intro @xGuard_u 
  (And.intro @xNil_r (And.intro @xIf_t (And.intro @xBin_add' (And.intro @xBin_sub' (And.intro @xBin_mul' (And.intro @xBin_quo' (And.intro @xBin_rem' (And.intro @xIf_f (And.intro @xIf_tt (And.intro @xEx0 (And.intro @xEx1 (And.intro @xEx2 (And.intro @xEx3 (And.intro @xBin_eqs (And.intro @xBin_nes (And.intro @xUn_not (And.intro @xu8_add (And.intro @xu8_sub 
  (And.intro @xu8_com (And.intro @xu8_eql (And.intro @xu8_neq (And.intro @xu8_lss (And.intro @xu8_gtr (And.intro @xu8_geq (And.intro @xu16_add (And.intro @xu16_sub (And.intro @xu16_com (And.intro @xu16_eql (And.intro @xu16_neq (And.intro @xu16_lss (And.intro @xu16_gtr (And.intro @xu16_geq (And.intro @xu32_add (And.intro @xu32_sub (And.intro @xu32_com 
  (And.intro @xu32_eql (And.intro @xu32_neq (And.intro @xu32_lss (And.intro @xu32_gtr (And.intro @xu32_geq (And.intro @xu64_add (And.intro @xu64_sub (And.intro @xu64_com (And.intro @xu64_eql (And.intro @xu64_neq (And.intro @xu64_lss (And.intro @xu64_gtr (And.intro @xu64_geq (And.intro @xi64_lss (And.intro @xi64_gtr (And.intro @xi64_geq (And.intro @xi64_eql 
  (And.intro @xi64_neq (And.intro @xi64_neg (And.intro @xMakeFunc_r (And.intro @xSq_r (And.intro @xPur_s (And.intro @xRd_s (And.intro @xRe_s (And.intro @xDet_s (And.intro @xDet_ld (And.intro @xDet_ld2 (And.intro @xDet_ld3 (And.intro @xDet_ld4 (And.intro @xGuard_tt (And.intro @ld_3 (And.intro @ld_24 (And.intro @fa_34_0 (And.intro @fa_65_0 (And.intro @al_34 
  (And.intro @st_34 @cv_69_3))))))))))))))))))))))))))))))))))))))))))))))))))))))))))))))))))))))))))))))))))))))
theorem Ptr_ok {o i : Nat} (S : SpIs w base s g a c ws b t e) (h : ObjAt ws b t o) (hi : i < pN (wat ws o)) : Gives Tryd.prog n_obj_Ptr #[ptr s, i64 (o : Int), i64 (i : Int)] w (.tuple #[i64 (ptrV b t (wat ws (o + 1 + i))).1, i64 (ptrV b t (wat ws (o + 1 + i))).2]) := by
  obtain ⟨v1, v2, v3, v4, v5, v6, v7, v8⟩ := okW_v h.ok
  have q1 := S.te
  have q2 := S.el
  have q3 := S.mem.len
  have hhi := h.hi
  refine obj_Ptr_of ?_
  unfold obj_Ptr
  refine obj_whole_call (Gives.to (whole_ok S h) fun w1 F1 => ?_)
  have S1 := S.ext0 F1
  have zs := S1.blk.lt
  have ks := fun i => S1.blk.cell (i := i)
  simp (disch := (first | omega | decide | (simp only [World.size_alloc, World.size_setCell, World.size_drew, size_sets, List.mem_cons, List.not_mem_nil, or_false, not_false_eq_true] <;> omega) | fail)) only [↓rsObj_3, rsObj_1, Option.isNone_some, Option.isNone_none, tick_eq, tickV_eq, ne_eq, Int.reduceAdd, Int.reduceSub, Int.reduceMul, Int.reduceEq, Int.reduceLT, Int.reduceLE, Int.reduceToNat, Nat.reduceMul, Nat.reduceAdd, Nat.reduceSub, List.nil_append, List.cons_append, List.getElem?_toArray, List.getElem?_cons_zero, List.getElem?_cons_succ, List.setIfInBounds_toArray, List.set_cons_zero, List.set_cons_succ, Option.map_some, List.not_mem_nil, ←decide_not, ks]
  have X1 : Ext [] w1 (w1.alloc (.cells #[i64 (pN (wat ws o)), i64 (bN (wat ws o)), .bool false, i64 0] 34)) := Ext.alloc _ _ _
  generalize w1.alloc (.cells #[i64 (pN (wat ws o)), i64 (bN (wat ws o)), .bool false, i64 0] 34) = y at *
  have Sy := S1.ext0 X1
  have e1 : (o : Int) + 1 + i = ((o + 1 + i : Nat) : Int) := by omega
  rw [e1]
  have hg := Get_ok (o + 1 + i) Sy.mem (by omega)
  have hw : ws.getD (o + 1 + i) c0 = wat ws (o + 1 + i) := rfl
  rw [hw] at hg
  generalize wat ws (o + 1 + i) = x at *
  refine mem_Mem_Get_call (Gives.to hg fun w2 F2 => ?_)
  have S2 := Sy.ext0 F2
  have hx := x.isLt
  have X2 := F1.trans (X1.trans F2)
  by_cases h0 : x.toNat = 0
  · have hx0 : x = BitVec.ofNat 64 0 := BitVec.eq_of_toNat_eq h0
    subst hx0
    simp (disch := (first | omega | decide | (simp only [World.size_alloc, World.size_setCell, World.size_drew, size_sets, List.mem_cons, List.not_mem_nil, or_false, not_false_eq_true] <;> omega) | fail)) only [↓rsObj_3, rsObj_1, Option.isNone_some, Option.isNone_none, tick_eq, tickV_eq, ne_eq, Int.reduceAdd, Int.reduceSub, Int.reduceMul, Int.reduceEq, Int.reduceLT, Int.reduceLE, Int.reduceToNat, Nat.reduceMul, Nat.reduceAdd, Nat.reduceSub, List.nil_append, List.cons_append, List.getElem?_toArray, List.getElem?_cons_zero, List.getElem?_cons_succ, List.setIfInBounds_toArray, List.set_cons_zero, List.set_cons_succ, Option.map_some, List.not_mem_nil, ←decide_not, ks]
    exact ⟨by simp [ptrV], X2⟩
  have hne : x ≠ BitVec.ofNat 64 0 := fun h => h0 (by rw [h]; rfl)
  by_cases h1 : x.toNat ≤ 8192
  · have hgt : decide ((BitVec.ofNat 64 8192).toNat < x.toNat) = false := decide_eq_false (by rw [show (BitVec.ofNat 64 8192).toNat = 8192 by decide]; omega)
    have hi1 : x.toInt = (x.toNat : Int) := by rw [BitVec.toInt_eq_toNat_of_lt (by omega)]
    simp (disch := (first | omega | decide | (simp only [World.size_alloc, World.size_setCell, World.size_drew, size_sets, List.mem_cons, List.not_mem_nil, or_false, not_false_eq_true] <;> omega) | fail)) only [↓rsObj_3, rsObj_1, Option.isNone_some, Option.isNone_none, tick_eq, tickV_eq, ne_eq, Int.reduceAdd, Int.reduceSub, Int.reduceMul, Int.reduceEq, Int.reduceLT, Int.reduceLE, Int.reduceToNat, Nat.reduceMul, Nat.reduceAdd, Nat.reduceSub, List.nil_append, List.cons_append, List.getElem?_toArray, List.getElem?_cons_zero, List.getElem?_cons_succ, List.setIfInBounds_toArray, List.set_cons_zero, List.set_cons_succ, Option.map_some, List.not_mem_nil, ←decide_not, ks, decide_eq_false hne, hgt, hi1]
    refine obj_in_call (Gives.to (objIn_spec (o := (x.toNat : Int) - 1) S2) fun w3 F3 => ?_)
    by_cases h2 : b ≤ x.toNat - 1 ∧ x.toNat - 1 < t
    · rw [decide_eq_true (show (b : Int) ≤ (x.toNat : Int) - 1 ∧ (x.toNat : Int) - 1 < t by omega)]
      simp (disch := (first | omega | decide | (simp only [World.size_alloc, World.size_setCell, World.size_drew, size_sets, List.mem_cons, List.not_mem_nil, or_false, not_false_eq_true] <;> omega) | fail)) only [↓rsObj_3, rsObj_1, Option.isNone_some, Option.isNone_none, tick_eq, tickV_eq, ne_eq, Int.reduceAdd, Int.reduceSub, Int.reduceMul, Int.reduceEq, Int.reduceLT, Int.reduceLE, Int.reduceToNat, Nat.reduceMul, Nat.reduceAdd, Nat.reduceSub, List.nil_append, List.cons_append, List.getElem?_toArray, List.getElem?_cons_zero, List.getElem?_cons_succ, List.setIfInBounds_toArray, List.set_cons_zero, List.set_cons_succ, Option.map_some, List.not_mem_nil, ←decide_not, ks, decide_eq_false hne, hgt, hi1]
      exact ⟨by simp only [ptrV, if_neg h0, if_pos (And.intro h1 h2)], X2.trans F3⟩
    · rw [decide_eq_false (show ¬ ((b : Int) ≤ (x.toNat : Int) - 1 ∧ (x.toNat : Int) - 1 < t) by omega)]
      simp (disch := (first | omega | decide | (simp only [World.size_alloc, World.size_setCell, World.size_drew, size_sets, List.mem_cons, List.not_mem_nil, or_false, not_false_eq_true] <;> omega) | fail)) only [↓rsObj_3, rsObj_1, Option.isNone_some, Option.isNone_none, tick_eq, tickV_eq, ne_eq, Int.reduceAdd, Int.reduceSub, Int.reduceMul, Int.reduceEq, Int.reduceLT, Int.reduceLE, Int.reduceToNat, Nat.reduceMul, Nat.reduceAdd, Nat.reduceSub, List.nil_append, List.cons_append, List.getElem?_toArray, List.getElem?_cons_zero, List.getElem?_cons_succ, List.setIfInBounds_toArray, List.set_cons_zero, List.set_cons_succ, Option.map_some, List.not_mem_nil, ←decide_not, ks, decide_eq_false hne, hgt, hi1]
      exact ⟨by simp only [ptrV, if_neg h0, if_neg (fun h : x.toNat ≤ 8192 ∧ b ≤ x.toNat - 1 ∧ x.toNat - 1 < t => h2 h.2)], X2.trans F3⟩
  · have hgt : decide ((BitVec.ofNat 64 8192).toNat < x.toNat) = true := decide_eq_true (by rw [show (BitVec.ofNat 64 8192).toNat = 8192 by decide]; omega)
    simp (disch := (first | omega | decide | (simp only [World.size_alloc, World.size_setCell, World.size_drew, size_sets, List.mem_cons, List.not_mem_nil, or_false, not_false_eq_true] <;> omega) | fail)) only [↓rsObj_3, rsObj_1, Option.isNone_some, Option.isNone_none, tick_eq, tickV_eq, ne_eq, Int.reduceAdd, Int.reduceSub, Int.reduceMul, Int.reduceEq, Int.reduceLT, Int.reduceLE, Int.reduceToNat, Nat.reduceMul, Nat.reduceAdd, Nat.reduceSub, List.nil_append, List.cons_append, List.getElem?_toArray, List.getElem?_cons_zero, List.getElem?_cons_succ, List.setIfInBounds_toArray, List.set_cons_zero, List.set_cons_succ, Option.map_some, List.not_mem_nil, ←decide_not, ks, decide_eq_false hne, hgt]
    exact ⟨by simp only [ptrV, if_neg h0, if_neg (fun h : x.toNat ≤ 8192 ∧ b ≤ x.toNat - 1 ∧ x.toNat - 1 < t => h1 h.1)], X2⟩
theorem Ptr_arg {o : Nat} {i : Int} (S : SpIs w base s g a c ws b t e) (h : ObjAt ws b t o) (hi : i < 0 ∨ pN (wat ws o) ≤ i) : Gives Tryd.prog n_obj_Ptr #[ptr s, i64 (o : Int), i64 i] w (.tuple #[i64 0, i64 1]) := by
  refine obj_Ptr_of ?_
  unfold obj_Ptr
  refine obj_whole_call (Gives.to (whole_ok S h) fun w1 F1 => ?_)
  by_cases h0 : i < 0
  · simp (disch := (first | omega | decide | (simp only [World.size_alloc, World.size_setCell, World.size_drew, size_sets, List.mem_cons, List.not_mem_nil, or_false, not_false_eq_true] <;> omega) | fail)) only [↓rsObj_3, rsObj_1, Option.isNone_some, Option.isNone_none, tick_eq, tickV_eq, ne_eq, Int.reduceAdd, Int.reduceSub, Int.reduceMul, Int.reduceEq, Int.reduceLT, Int.reduceLE, Int.reduceToNat, Nat.reduceMul, Nat.reduceAdd, Nat.reduceSub, List.nil_append, List.cons_append, List.getElem?_toArray, List.getElem?_cons_zero, List.getElem?_cons_succ, List.setIfInBounds_toArray, List.set_cons_zero, List.set_cons_succ, Option.map_some, List.not_mem_nil, ←decide_not, eq_self]
    exact ⟨by trivial, by (repeat (first | with_reducible exact Ext.refl _ _ | with_reducible assumption | with_reducible refine Ext.alloc' ?_ _ | with_reducible refine Ext.drew' ?_ | with_reducible refine Ext.set' ?_ ?_ | exact .inr (by first | omega | (simp only [World.size_alloc, World.size_drew, World.size_setCell] <;> omega)) | refine Ext.trans ?_ (by with_reducible assumption)))⟩
  · simp (disch := (first | omega | decide | (simp only [World.size_alloc, World.size_setCell, World.size_drew, size_sets, List.mem_cons, List.not_mem_nil, or_false, not_false_eq_true] <;> omega) | fail)) only [↓rsObj_3, rsObj_1, Option.isNone_some, Option.isNone_none, tick_eq, tickV_eq, ne_eq, Int.reduceAdd, Int.reduceSub, Int.reduceMul, Int.reduceEq, Int.reduceLT, Int.reduceLE, Int.reduceToNat, Nat.reduceMul, Nat.reduceAdd, Nat.reduceSub, List.nil_append, List.cons_append, List.getElem?_toArray, List.getElem?_cons_zero, List.getElem?_cons_succ, List.setIfInBounds_toArray, List.set_cons_zero, List.set_cons_succ, Option.map_some, List.not_mem_nil, ←decide_not, eq_self]
    exact ⟨by trivial, by (repeat (first | with_reducible exact Ext.refl _ _ | with_reducible assumption | with_reducible refine Ext.alloc' ?_ _ | with_reducible refine Ext.drew' ?_ | with_reducible refine Ext.set' ?_ ?_ | exact .inr (by first | omega | (simp only [World.size_alloc, World.size_drew, World.size_setCell] <;> omega)) | refine Ext.trans ?_ (by with_reducible assumption)))⟩
abbrev rsObj_4 := (And.intro @xBox_r (And.intro @loadK_some (And.intro @loadsK_s (And.intro @loadsK_n (And.intro @loadsR_s (And.intro @loadsR_n (And.intro @storesK_s (And.intro @storesK_n (And.intro @xPick_t (And.intro @xPick_f (And.intro @xGuard_tt (And.intro @xGuard_ff (And.intro @xGuard_tf (And.intro @xGuard_ft (And.intro @xGuard_u 
  (And.intro @xNil_r (And.intro @xIf_t (And.intro @xBin_add' (And.intro @xBin_sub' (And.intro @xBin_mul' (And.intro @xBin_quo' (And.intro @xBin_rem' (And.intro @xIf_f (And.intro @xIf_tt (And.intro @xEx0 (And.intro @xEx1 (And.intro @xEx2 (And.intro @xEx3 (And.intro @xBin_eqs (And.intro @xBin_nes (And.intro @xUn_not (And.intro @xu8_add (And.intro @xu8_com 
  (And.intro @xu8_neq (And.intro @xu8_lss (And.intro @xu8_geq (And.intro @xu16_add (And.intro @xu16_com (And.intro @xu16_neq (And.intro @xu16_lss (And.intro @xu16_geq (And.intro @xu32_add (And.intro @xu32_com (And.intro @xu32_neq (And.intro @xu32_lss (And.intro @xu32_geq (And.intro @xu64_add (And.intro @xu64_com (And.intro @xu64_neq (And.intro @xu64_lss 
  (And.intro @xu64_geq (And.intro @xi64_lss (And.intro @xi64_geq (And.intro @xi64_neq (And.intro @xi64_neg (And.intro @xMakeFunc_r (And.intro @xSq_r (And.intro @xPur_s (And.intro @xRd_s (And.intro @xRe_s (And.intro @xDet_s (And.intro @xDet_ld (And.intro @xDet_ld2 (And.intro @xDet_ld3 (And.intro @xDet_ld4 (And.intro @xGuard_tt (And.intro @ld_3 (And.intro @ld_24 
  (And.intro @fa_34_0 (And.intro @fa_65_0 (And.intro @al_34 (And.intro @st_34 @cv_3_69))))))))))))))))))))))))))))))))))))))))))))))))))))))))))))))))))))))))
theorem SetPtr_ok {o i : Nat} {to : Int} (S : SpIs w base s g a c ws b t e) (h : ObjAt ws b t o) (hi : i < pN (wat ws o)) (hto : to = -1 ∨ ((b : Int) ≤ to ∧ to < t)) :
    Yld Tryd.prog n_obj_SetPtr #[ptr s, i64 (o : Int), i64 (i : Int), i64 to] w fun u w' => u = i64 0 ∧ Ext (blkOf a) w w' ∧ SpIs w' base s g a c (ws.set (o + 1 + i) (BitVec.ofInt 64 (to + 1))) b t e := by
  obtain ⟨v1, v2, v3, v4, v5, v6, v7, v8⟩ := okW_v h.ok
  have q1 := S.te
  have q2 := S.el
  have q3 := S.mem.len
  have hhi := h.hi
  have hw : ws ≠ [] := fun e => by subst e; simp at q2; omega
  refine obj_SetPtr_of ?_
  unfold obj_SetPtr
  refine obj_whole_call (Gives.to (whole_ok S h) fun w1 F1 => ?_)
  have S1 := S.ext0 F1
  have X1 : Ext [] w1 (w1.alloc (.cells #[i64 (pN (wat ws o)), i64 (bN (wat ws o)), .bool false, i64 0] 34)) := Ext.alloc _ _ _
  have Sy := S1.ext0 X1
  have ky := fun i => Sy.blk.cell (i := i)
  have e1 : (o : Int) + 1 + i = ((o + 1 + i : Nat) : Int) := by omega
  have fin : ∀ (y : World), Ext [] w y → SpIs y base s g a c ws b t e → Yld Tryd.prog n_mem_Mem_Set #[ptr g, i64 ((o + 1 + i : Nat) : Int), u64 (BitVec.ofInt 64 (to + 1))] y fun u w' => u = i64 0 ∧ Ext (blkOf a) w w' ∧ SpIs w' base s g a c (ws.set (o + 1 + i) (BitVec.ofInt 64 (to + 1))) b t e := by
    intro y Xy Sy
    refine Yld.mono (Set_ok (o + 1 + i) (BitVec.ofInt 64 (to + 1)) Sy.mem (by omega)) ?_
    rintro u w4 ⟨rfl, F4, M4⟩
    exact ⟨rfl, (Xy.more (by simp)).trans F4, M4, Sy.blk.ext F4 (Sy.sa hw), Sy.sg, fun _ => Sy.sa hw, Sy.bt, Sy.te, by simpa using q2⟩
  by_cases hm : to = -1
  · subst hm
    simp (disch := (first | omega | decide | (simp only [World.size_alloc, World.size_setCell, World.size_drew, size_sets, List.mem_cons, List.not_mem_nil, or_false, not_false_eq_true] <;> omega) | fail)) only [↓rsObj_4, rsObj_1, Option.isNone_some, Option.isNone_none, tick_eq, tickV_eq, ne_eq, Int.reduceAdd, Int.reduceSub, Int.reduceMul, Int.reduceEq, Int.reduceLT, Int.reduceLE, Int.reduceToNat, Nat.reduceMul, Nat.reduceAdd, Nat.reduceSub, List.nil_append, List.cons_append, List.getElem?_toArray, List.getElem?_cons_zero, List.getElem?_cons_succ, List.setIfInBounds_toArray, List.set_cons_zero, List.set_cons_succ, Option.map_some, List.not_mem_nil, ←decide_not, ky]
    rw [e1]
    exact mem_Mem_Set_call (fin _ (F1.trans X1) Sy)
  · have hin : decide ((b : Int) ≤ to ∧ to < t) = true := decide_eq_true (by omega)
    simp (disch := (first | omega | decide | (simp only [World.size_alloc, World.size_setCell, World.size_drew, size_sets, List.mem_cons, List.not_mem_nil, or_false, not_false_eq_true] <;> omega) | fail)) only [↓rsObj_4, rsObj_1, Option.isNone_some, Option.isNone_none, tick_eq, tickV_eq, ne_eq, Int.reduceAdd, Int.reduceSub, Int.reduceMul, Int.reduceEq, Int.reduceLT, Int.reduceLE, Int.reduceToNat, Nat.reduceMul, Nat.reduceAdd, Nat.reduceSub, List.nil_append, List.cons_append, List.getElem?_toArray, List.getElem?_cons_zero, List.getElem?_cons_succ, List.setIfInBounds_toArray, List.set_cons_zero, List.set_cons_succ, Option.map_some, List.not_mem_nil, ←decide_not, eq_self]
    generalize w1.alloc (.cells #[i64 (pN (wat ws o)), i64 (bN (wat ws o)), .bool false, i64 0] 34) = y at *
    refine obj_in_call (Gives.to (objIn_spec (o := to) Sy) fun w3 F3 => ?_)
    rw [hin]
    have S3 := Sy.ext0 F3
    have k3 := fun i => S3.blk.cell (i := i)
    simp (disch := (first | omega | decide | (simp only [World.size_alloc, World.size_setCell, World.size_drew, size_sets, List.mem_cons, List.not_mem_nil, or_false, not_false_eq_true] <;> omega) | fail)) only [↓rsObj_4, rsObj_1, Option.isNone_some, Option.isNone_none, tick_eq, tickV_eq, ne_eq, Int.reduceAdd, Int.reduceSub, Int.reduceMul, Int.reduceEq, Int.reduceLT, Int.reduceLE, Int.reduceToNat, Nat.reduceMul, Nat.reduceAdd, Nat.reduceSub, List.nil_append, List.cons_append, List.getElem?_toArray, List.getElem?_cons_zero, List.getElem?_cons_succ, List.setIfInBounds_toArray, List.set_cons_zero, List.set_cons_succ, Option.map_some, List.not_mem_nil, ←decide_not, k3]
    rw [e1]
    exact mem_Mem_Set_call (fin _ ((F1.trans X1).trans F3) S3)
abbrev rsObj_5 := (And.intro @xBox_r (And.intro @loadK_some (And.intro @loadsK_s (And.intro @loadsK_n (And.intro @loadsR_s (And.intro @loadsR_n (And.intro @storesK_s (And.intro @storesK_n (And.intro @xPick_t (And.intro @xPick_f (And.intro @xGuard_tt (And.intro @xGuard_ff (And.intro @xGuard_tf (And.intro @xGuard_ft (And.intro @xGuard_u 
  (And.intro @xNil_r (And.intro @xIf_t (And.intro @xBin_add' (And.intro @xBin_sub' (And.intro @xBin_mul' (And.intro @xBin_quo' (And.intro @xBin_rem' (And.intro @xIf_f (And.intro @xIf_tt (And.intro @xEx0 (And.intro @xEx1 (And.intro @xEx2 (And.intro @xEx3 (And.intro @xBin_eqs (And.intro @xBin_nes (And.intro @xUn_not (And.intro @xu8_add (And.intro @xu8_sub 
  (And.intro @xu8_mul (And.intro @xu8_neq (And.intro @xu8_lss (And.intro @xu8_gtr (And.intro @xu16_add (And.intro @xu16_sub (And.intro @xu16_mul (And.intro @xu16_neq (And.intro @xu16_lss (And.intro @xu16_gtr (And.intro @xu32_add (And.intro @xu32_sub (And.intro @xu32_mul (And.intro @xu32_neq (And.intro @xu32_lss (And.intro @xu32_gtr (And.intro @xu64_add 
  (And.intro @xu64_sub (And.intro @xu64_mul (And.intro @xu64_neq (And.intro @xu64_lss (And.intro @xu64_gtr (And.intro @xi64_lss (And.intro @xi64_gtr (And.intro @xi64_neq (And.intro @xi64_neg (And.intro @xMakeFunc_r (And.intro @xSq_r (And.intro @xPur_s (And.intro @xRd_s (And.intro @xRe_s (And.intro @xDet_s (And.intro @xDet_ld (And.intro @xDet_ld2 
  (And.intro @xDet_ld3 (And.intro @xDet_ld4 (And.intro @xGuard_tt (And.intro @ld_3 (And.intro @fa_34_0 (And.intro @fa_34_1 (And.intro @al_34 @st_34))))))))))))))))))))))))))))))))))))))))))))))))))))))))))))))))))))))))))
theorem bytes_ok {o from' n : Nat} (S : SpIs w base s g a c ws b t e) (h : ObjAt ws b t o) (hn : from' + n ≤ bN (wat ws o)) : Gives Tryd.prog n_obj_bytes #[ptr s, i64 (o : Int), i64 (from' : Int), i64 (n : Int)] w (.tuple #[i64 (((o + 1 + pN (wat ws o)) * 8 + from' : Nat) : Int), i64 0]) := by
  obtain ⟨v1, v2, v3, v4, v5, v6, v7, v8⟩ := okW_v h.ok
  have q1 := S.te
  have q2 := S.el
  have q3 := S.mem.len
  have hhi := h.hi
  have e1 : (((o : Int) + 1 + (pN (wat ws o) : Int)) * 8 + from') = (((o + 1 + pN (wat ws o)) * 8 + from' : Nat) : Int) := by omega
  refine obj_bytes_of ?_
  unfold obj_bytes
  refine obj_whole_call (Gives.to (whole_ok S h) fun w1 F1 => ?_)
  simp (disch := (first | omega | decide | (simp only [World.size_alloc, World.size_setCell, World.size_drew, size_sets, List.mem_cons, List.not_mem_nil, or_false, not_false_eq_true] <;> omega) | fail)) only [↓rsObj_5, rsObj_1, Option.isNone_some, Option.isNone_none, tick_eq, tickV_eq, ne_eq, Int.reduceAdd, Int.reduceSub, Int.reduceMul, Int.reduceEq, Int.reduceLT, Int.reduceLE, Int.reduceToNat, Nat.reduceMul, Nat.reduceAdd, Nat.reduceSub, List.nil_append, List.cons_append, List.getElem?_toArray, List.getElem?_cons_zero, List.getElem?_cons_succ, List.setIfInBounds_toArray, List.set_cons_zero, List.set_cons_succ, Option.map_some, List.not_mem_nil, ←decide_not, eq_self]
  exact ⟨by rw [← e1], by (repeat (first | with_reducible exact Ext.refl _ _ | with_reducible assumption | with_reducible refine Ext.alloc' ?_ _ | with_reducible refine Ext.drew' ?_ | with_reducible refine Ext.set' ?_ ?_ | exact .inr (by first | omega | (simp only [World.size_alloc, World.size_drew, World.size_setCell] <;> omega)) | refine Ext.trans ?_ (by with_reducible assumption)))⟩
abbrev rsObj_6 := (And.intro @xBox_r (And.intro @loadK_some (And.intro @loadsK_s (And.intro @loadsK_n (And.intro @loadsR_s (And.intro @loadsR_n (And.intro @storesK_s (And.intro @storesK_n (And.intro @xPick_t (And.intro @xPick_f (And.intro @xGuard_tt (And.intro @xGuard_ff (And.intro @xGuard_tf (And.intro @xGuard_ft (And.intro @xGuard_u 
  (And.intro @xNil_r (And.intro @xIf_t (And.intro @xBin_add' (And.intro @xBin_sub' (And.intro @xBin_mul' (And.intro @xBin_quo' (And.intro @xBin_rem' (And.intro @xIf_f (And.intro @xIf_tt (And.intro @xEx0 (And.intro @xEx1 (And.intro @xEx2 (And.intro @xEx3 (And.intro @xBin_eqs (And.intro @xBin_nes (And.intro @xUn_not (And.intro @xu8_neq (And.intro @xu16_neq 
  (And.intro @xu32_neq (And.intro @xu64_neq (And.intro @xi64_neq (And.intro @xi64_neg (And.intro @xMakeFunc_r (And.intro @xSq_r (And.intro @xPur_s (And.intro @xRd_s (And.intro @xRe_s (And.intro @xDet_s (And.intro @xDet_ld (And.intro @xDet_ld2 (And.intro @xDet_ld3 (And.intro @xDet_ld4 (And.intro @xGuard_tt (And.intro @ld_24 @fa_65_0)))))))))))))))))))))))))))))))))))))))))))))))))
theorem ORead_ok {o from' n : Nat} (S : SpIs w base s g a c ws b t e) (h : ObjAt ws b t o) (hn : from' + n ≤ bN (wat ws o)) : Yld Tryd.prog n_obj_Read #[ptr s, i64 (o : Int), i64 (from' : Int), i64 (n : Int)] w fun u w' => BytesR w w' u (bytesW ws ((o + 1 + pN (wat ws o)) * 8 + from') n) := by
  obtain ⟨v1, v2, v3, v4, v5, v6, v7, v8⟩ := okW_v h.ok
  have q1 := S.te
  have q2 := S.el
  have hhi := h.hi
  refine obj_Read_of ?_
  unfold obj_Read
  refine obj_bytes_call (Gives.to (bytes_ok S h hn) fun w1 F1 => ?_)
  have S1 := S.ext0 F1
  have k1 := fun i => S1.blk.cell (i := i)
  simp (disch := (first | omega | decide | (simp only [World.size_alloc, World.size_setCell, World.size_drew, size_sets, List.mem_cons, List.not_mem_nil, or_false, not_false_eq_true] <;> omega) | fail)) only [↓rsObj_6, rsObj_1, Option.isNone_some, Option.isNone_none, tick_eq, tickV_eq, ne_eq, Int.reduceAdd, Int.reduceSub, Int.reduceMul, Int.reduceEq, Int.reduceLT, Int.reduceLE, Int.reduceToNat, Nat.reduceMul, Nat.reduceAdd, Nat.reduceSub, List.nil_append, List.cons_append, List.getElem?_toArray, List.getElem?_cons_zero, List.getElem?_cons_succ, List.setIfInBounds_toArray, List.set_cons_zero, List.set_cons_succ, Option.map_some, List.not_mem_nil, ←decide_not, k1]
  refine mem_Mem_Bytes_call (Yld.mono (Bytes_ok ((o + 1 + pN (wat ws o)) * 8 + from') n S1.mem (by omega)) ?_)
  rintro u w2 ⟨F2, a2, c2, rfl, hc2, R2, U2⟩
  have z1 := F1.size
  simp (disch := (first | omega | decide | (simp only [World.size_alloc, World.size_setCell, World.size_drew, size_sets, List.mem_cons, List.not_mem_nil, or_false, not_false_eq_true] <;> omega) | fail)) only [↓rsObj_6, rsObj_1, Option.isNone_some, Option.isNone_none, tick_eq, tickV_eq, ne_eq, Int.reduceAdd, Int.reduceSub, Int.reduceMul, Int.reduceEq, Int.reduceLT, Int.reduceLE, Int.reduceToNat, Nat.reduceMul, Nat.reduceAdd, Nat.reduceSub, List.nil_append, List.cons_append, List.getElem?_toArray, List.getElem?_cons_zero, List.getElem?_cons_succ, List.setIfInBounds_toArray, List.set_cons_zero, List.set_cons_succ, Option.map_some, List.not_mem_nil, ←decide_not, k1]
  exact ⟨F1.trans F2, a2, c2, rfl, hc2, R2, fun x hx => by have := U2 x hx; omega⟩
abbrev rsObj_7 := (And.intro @xBox_r (And.intro @loadK_some (And.intro @loadsK_s (And.intro @loadsK_n (And.intro @loadsR_s (And.intro @loadsR_n (And.intro @storesK_s (And.intro @storesK_n (And.intro @xPick_t (And.intro @xPick_f (And.intro @xGuard_tt (And.intro @xGuard_ff (And.intro @xGuard_tf (And.intro @xGuard_ft (And.intro @xGuard_u 
  (And.intro @xNil_r (And.intro @xIf_t (And.intro @xBin_add' (And.intro @xBin_sub' (And.intro @xBin_mul' (And.intro @xBin_quo' (And.intro @xBin_rem' (And.intro @xIf_f (And.intro @xIf_tt (And.intro @xEx0 (And.intro @xEx1 (And.intro @xEx2 (And.intro @xEx3 (And.intro @xBin_eqs (And.intro @xBin_nes (And.intro @xUn_not (And.intro @xu8_neq (And.intro @xu16_neq 
  (And.intro @xu32_neq (And.intro @xu64_neq (And.intro @xi64_neq (And.intro @xi64_neg (And.intro @xMakeFunc_r (And.intro @xSq_r (And.intro @xPur_s (And.intro @xRd_s (And.intro @xRe_s (And.intro @xDet_s (And.intro @xDet_ld (And.intro @xDet_ld2 (And.intro @xDet_ld3 (And.intro @xDet_ld4 (And.intro @xGuard_tt (And.intro @ld_24 (And.intro @fa_65_0 @ln_22))))))))))))))))))))))))))))))))))))))))))))))))))
theorem OWrite_ok {o from' : Nat} {l : List (BitVec 8)} {ab : Option Addr} {cb : Nat} (S : SpIs w base s g a c ws b t e) (h : ObjAt ws b t o) (hn : from' + l.length ≤ bN (wat ws o)) (hb : RowAt w ab (bys l)) (hap : l ≠ [] → ∀ b o, ab = some ⟨b, o, none⟩ → b ∉ blkOf a) :
    Yld Tryd.prog n_obj_Write #[ptr s, i64 (o : Int), i64 (from' : Int), .slice ab l.length cb] w fun u w' => u = i64 0 ∧ Ext (blkOf a) w w' ∧ SpIs w' base s g a c (setBytesW ws ((o + 1 + pN (wat ws o)) * 8 + from') l) b t e := by
  obtain ⟨v1, v2, v3, v4, v5, v6, v7, v8⟩ := okW_v h.ok
  have q1 := S.te
  have q2 := S.el
  have hhi := h.hi
  have hw : ws ≠ [] := fun e => by subst e; simp at q2; omega
  refine obj_Write_of ?_
  unfold obj_Write
  simp (disch := (first | omega | decide | (simp only [World.size_alloc, World.size_setCell, World.size_drew, size_sets, List.mem_cons, List.not_mem_nil, or_false, not_false_eq_true] <;> omega) | fail)) only [↓rsObj_7, rsObj_1, Option.isNone_some, Option.isNone_none, tick_eq, tickV_eq, ne_eq, Int.reduceAdd, Int.reduceSub, Int.reduceMul, Int.reduceEq, Int.reduceLT, Int.reduceLE, Int.reduceToNat, Nat.reduceMul, Nat.reduceAdd, Nat.reduceSub, List.nil_append, List.cons_append, List.getElem?_toArray, List.getElem?_cons_zero, List.getElem?_cons_succ, List.setIfInBounds_toArray, List.set_cons_zero, List.set_cons_succ, Option.map_some, List.not_mem_nil, ←decide_not, eq_self]
  refine obj_bytes_call (Gives.to (bytes_ok S h hn) fun w1 F1 => ?_)
  have S1 := S.ext0 F1
  have k1 := fun i => S1.blk.cell (i := i)
  simp (disch := (first | omega | decide | (simp only [World.size_alloc, World.size_setCell, World.size_drew, size_sets, List.mem_cons, List.not_mem_nil, or_false, not_false_eq_true] <;> omega) | fail)) only [↓rsObj_7, rsObj_1, Option.isNone_some, Option.isNone_none, tick_eq, tickV_eq, ne_eq, Int.reduceAdd, Int.reduceSub, Int.reduceMul, Int.reduceEq, Int.reduceLT, Int.reduceLE, Int.reduceToNat, Nat.reduceMul, Nat.reduceAdd, Nat.reduceSub, List.nil_append, List.cons_append, List.getElem?_toArray, List.getElem?_cons_zero, List.getElem?_cons_succ, List.setIfInBounds_toArray, List.set_cons_zero, List.set_cons_succ, Option.map_some, List.not_mem_nil, ←decide_not, k1]
  refine mem_Mem_SetBytes_call (Yld.mono (SetBytes_ok ((o + 1 + pN (wat ws o)) * 8 + from') l ab cb S1.mem (hb.ext0 F1) (fun _ => hap) (by omega)) ?_)
  rintro u w2 ⟨rfl, F2, M2⟩
  refine ⟨by trivial, (F1.more (by simp)).trans F2, M2, S1.blk.ext F2 (S1.sa hw), S1.sg, fun _ => S1.sa hw, S1.bt, S1.te, by rw [setBytesW_length]; exact q2⟩
end
end Go.Proofs.YtknineilpenbnaaDoor
