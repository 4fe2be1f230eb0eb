/- What the functions on objects answer at any places (sq). What the document's functions on objects answer at any places (sq). The document's bytes of objects, and its words for them (sq). An object in words: the program's (sq). An object in words, at any place (sq). An object in words: the document's (sq). An object in words, by the document, at any place (sq). -/
import Derived.Test.YtknineilpenbnaaDoorObj
import Derived.Test.YtknineilpenbnaaDoorSpc3
import Derived.Test.YtknineilpenbnaaDoorMem5
import Derived.Test.YtknineilpenbnaaDoorObjK
set_option linter.unusedVariables false
set_option linter.unusedSimpArgs false
set_option maxHeartbeats 4000000
namespace Go.Proofs.YtknineilpenbnaaDoor
open Go.Sh Go.RowKit

/-- what is wrong with a place: 0 nothing, 1 it is none, 2 no object stands there -/
def obE (ws : List (BitVec 64)) (b t : Nat) (o : Int) : Int :=
  if (b : Int) ≤ o ∧ o < t then (if okW (wat ws o.toNat) ∧ o.toNat + szW (wat ws o.toNat) ≤ t then 0 else 2) else 1
theorem obE_cases (ws : List (BitVec 64)) (b t : Nat) (o : Int) : (∃ k : Nat, o = k ∧ ObjAt ws b t k ∧ obE ws b t o = 0) ∨ (∃ k : Nat, o = k ∧ b ≤ k ∧ k < t ∧ ¬ (okW (wat ws k) ∧ k + szW (wat ws k) ≤ t) ∧ obE ws b t o = 2) ∨ ((o < b ∨ (t : Int) ≤ o) ∧ obE ws b t o = 1) := by
  by_cases h : (b : Int) ≤ o ∧ o < t
  · have hk : o = (o.toNat : Int) := by omega
    by_cases h2 : okW (wat ws o.toNat) ∧ o.toNat + szW (wat ws o.toNat) ≤ t
    · exact .inl ⟨o.toNat, hk, ⟨by omega, h2.1, h2.2⟩, by unfold obE; rw [if_pos h, if_pos h2]⟩
    · exact .inr (.inl ⟨o.toNat, hk, by omega, by omega, h2, by unfold obE; rw [if_pos h, if_neg h2]⟩)
  · exact .inr (.inr ⟨by omega, by unfold obE; rw [if_neg h]⟩)
theorem obE_at {ws : List (BitVec 64)} {b t k : Nat} (h : ObjAt ws b t k) : obE ws b t (k : Int) = 0 := by
  have := h.lt
  have := h.lo
  unfold obE
  rw [if_pos (by omega), if_pos]
  exact ⟨by simpa using h.ok, by simpa using h.hi⟩
theorem head_bad {x : BitVec 64} (h : ¬ isHead x) : vP x = 0 ∧ vB x = 0 ∧ vM x = false ∧ vT x = 0 ∧ unErr x = 2 := by
  simp [vP, vB, vM, vT, unErr, h]
section
variable {w : World} {base s g : Nat} {a : Option Addr} {c : Nat} {ws : List (BitVec 64)} {b t e : Nat}
abbrev rsObjG_0 := (And.intro @xBox_r (And.intro @loadK_some (And.intro @loadsK_s (And.intro @loadsK_n (And.intro @loadsR_s (And.intro @loadsR_n (And.intro @storesK_s (And.intro @storesK_n (And.intro @xPick_t (And.intro @xPick_f (And.intro @xGuard_tt (And.intro @xGuard_ff (And.intro @xGuard_tf (And.intro @xGuard_ft (And.intro @xGuard_u 
  (And.intro @xNil_r (And.intro @xIf_t (And.intro @xBin_add' (And.intro @xBin_sub' (And.intro @xBin_mul' (And.intro @xBin_quo' (And.intro @xBin_rem' (And.intro @xIf_f (And.intro @xIf_tt (And.intro @xEx0 (And.intro @xEx1 (And.intro @xEx2 (And.intro @xEx3 (And.intro @xBin_eqs (And.intro @xBin_nes (And.intro @xUn_not (And.intro @xu8_sub (And.intro @xu8_neq 
  (And.intro @xu8_gtr (And.intro @xu16_sub (And.intro @xu16_neq (And.intro @xu16_gtr (And.intro @xu32_sub (And.intro @xu32_neq (And.intro @xu32_gtr (And.intro @xu64_sub (And.intro @xu64_neq (And.intro @xu64_gtr (And.intro @xi64_gtr (And.intro @xi64_neq (And.intro @xi64_neg (And.intro @xMakeFunc_r (And.intro @xSq_r (And.intro @xPur_s (And.intro @xRd_s 
  (And.intro @xRe_s (And.intro @xDet_s (And.intro @xDet_ld (And.intro @xDet_ld2 (And.intro @xDet_ld3 (And.intro @xDet_ld4 (And.intro @xGuard_tt (And.intro @ld_3 (And.intro @ld_4 (And.intro @ld_34 (And.intro @lr_34 (And.intro @fa_34_2 (And.intro @fa_65_2 (And.intro @al_34 (And.intro @st_34 (And.intro @bd_34_0_1 (And.intro @bd_34_0 (And.intro @bd_34_1 (And.intro @bd_34_2_3 @bd_34)))))))))))))))))))))))))))))))))))))))))))))))))))))))))))))))))))))
abbrev rsObjG_1 := (And.intro @setCells_c (And.intro @setCells_n (And.intro @World.setCell_alloc_at (And.intro @World.setCell_alloc_past (And.intro @World.cell?_alloc_at (And.intro @World.cell?_alloc_past (And.intro @World.frozen?_alloc_at (And.intro @World.frozen?_alloc_past 
  (And.intro @World.size_alloc (And.intro @dlt_t (And.intro @dlt_f (And.intro @dle_t (And.intro @dle_f (And.intro @deq_t (And.intro @deq_f (And.intro @dne_t (And.intro @dne_f (And.intro @not_true_eq_false (And.intro @Bool.false_and (And.intro @Bool.true_and (And.intro @Bool.and_true (And.intro @Bool.and_false (And.intro @wrap_in (And.intro @Int.toNat_natCast 
  (And.intro @Nat.mul_one (And.intro @cells_int (And.intro @cells_bool (And.intro @cells_string (And.intro @cells_slice (And.intro @cells_pointer (And.intro @cells_agg (And.intro @one_int (And.intro @one_bool (And.intro @one_string (And.intro @one_slice (And.intro @one_pointer (And.intro @beq_tt (And.intro @beq_ff (And.intro @beq_tf 
  (And.intro @beq_ft (And.intro @cell_sets_b (And.intro @frozen_sets (And.intro @size_sets (And.intro @World.size_drew (And.intro @Nat.zero_add (And.intro @Nat.add_zero (And.intro @cell_drew (And.intro @frozen_drew (And.intro @cell_set_eq (And.intro @cell_set_o (And.intro @cell_set_b (And.intro @World.frozen?_setCell 
  (And.intro @decide_true (And.intro @decide_false (And.intro @not_false_eq_true (And.intro @Bool.not_true @Bool.not_false))))))))))))))))))))))))))))))))))))))))))))))))))))))))
theorem whole_bad {o : Int} (S : SpIs w base s g a c ws b t e) (h : obE ws b t o ≠ 0) : Gives Tryd.prog n_obj_whole #[ptr s, i64 o] w (.tuple #[hd 0 0 false 0, i64 (obE ws b t o)]) := by
  have q1 := S.te
  have q2 := S.el
  have q3 := S.mem.len
  have zs := S.blk.lt
  refine obj_whole_of ?_
  unfold obj_whole
  simp (disch := (first | omega | decide | (simp only [World.size_alloc, World.size_setCell, World.size_drew, size_sets, List.mem_cons, List.not_mem_nil, or_false, not_false_eq_true] <;> omega) | fail)) only [↓rsObjG_0, rsObjG_1, Option.isNone_some, Option.isNone_none, tick_eq, tickV_eq, ne_eq, Int.reduceAdd, Int.reduceSub, Int.reduceMul, Int.reduceEq, Int.reduceLT, Int.reduceLE, Int.reduceToNat, Nat.reduceMul, Nat.reduceAdd, Nat.reduceSub, List.nil_append, List.cons_append, List.getElem?_toArray, List.getElem?_cons_zero, List.getElem?_cons_succ, List.setIfInBounds_toArray, List.set_cons_zero, List.set_cons_succ, Option.map_some, List.not_mem_nil, ←decide_not, eq_self]
  have B : Blk (w.alloc (.cells #[i64 0, i64 0, .bool false, i64 0] 34)) w.heap.size 34 [i64 0, i64 0, .bool false, i64 0] := Blk.at rfl
  have X : Ext [] w (w.alloc (.cells #[i64 0, i64 0, .bool false, i64 0] 34)) := Ext.alloc _ _ _
  have Sy := S.ext0 X
  generalize hhz : w.heap.size = hz at *
  generalize w.alloc (.cells #[i64 0, i64 0, .bool false, i64 0] 34) = y at *
  rcases obE_cases ws b t o with ⟨k, rfl, hO, he⟩ | ⟨k, rfl, h1, h2, h3, he⟩ | ⟨h1, he⟩
  · exact absurd he h
  · rw [he]
    have hh := SHead_in (o := k) Sy h1 h2
    by_cases hi : isHead (wat ws k)
    · have hu : unErr (wat ws k) = 0 := if_pos hi
      rw [hu] at hh
      by_cases hm : vM (wat ws k) = true
      · rw [hm] at hh
        refine space_Space_Head_call (Gives.to hh fun w1 F1 => ?_)
        have B1 := B.ext F1 (by simp)
        have kb := fun i => B1.cell (i := i)
        have fb := fun i => B1.frozen (i := i)
        have z1 := B1.lt
        simp (disch := (first | omega | decide | (simp only [World.size_alloc, World.size_setCell, World.size_drew, size_sets, List.mem_cons, List.not_mem_nil, or_false, not_false_eq_true] <;> omega) | fail)) only [↓rsObjG_0, rsObjG_1, Option.isNone_some, Option.isNone_none, tick_eq, tickV_eq, ne_eq, Int.reduceAdd, Int.reduceSub, Int.reduceMul, Int.reduceEq, Int.reduceLT, Int.reduceLE, Int.reduceToNat, Nat.reduceMul, Nat.reduceAdd, Nat.reduceSub, List.nil_append, List.cons_append, List.getElem?_toArray, List.getElem?_cons_zero, List.getElem?_cons_succ, List.setIfInBounds_toArray, List.set_cons_zero, List.set_cons_succ, Option.map_some, List.not_mem_nil, ←decide_not, kb, fb]
        exact ⟨by trivial, (((((X.trans F1).trans (Ext.alloc _ _ _)).trans (Ext.drew [] _)).set' (.inr (Nat.le_of_eq hhz))).set' (.inr (Nat.le_of_eq hhz))).set' (.inr (Nat.le_of_eq hhz)) |>.set' (.inr (Nat.le_of_eq hhz))⟩
      · have hm' : vM (wat ws k) = false := by simpa using hm
        have hok : okW (wat ws k) := ⟨hi, by simpa [vM, hi] using hm'⟩
        have hsz : t < k + szW (wat ws k) := by
          by_cases h5 : k + szW (wat ws k) ≤ t
          · exact absurd ⟨hok, h5⟩ h3
          · omega
        rw [hm'] at hh
        refine space_Space_Head_call (Gives.to hh fun w1 F1 => ?_)
        have B1 := B.ext F1 (by simp)
        have S1 := Sy.ext0 F1
        have z1 := B1.lt
        have ks1 := fun i => S1.blk.cell (i := i)
        have zs1 := S1.blk.lt
        simp (disch := (first | omega | decide | (simp only [World.size_alloc, World.size_setCell, World.size_drew, size_sets, List.mem_cons, List.not_mem_nil, or_false, not_false_eq_true] <;> omega) | fail)) only [↓rsObjG_0, rsObjG_1, Option.isNone_some, Option.isNone_none, tick_eq, tickV_eq, ne_eq, Int.reduceAdd, Int.reduceSub, Int.reduceMul, Int.reduceEq, Int.reduceLT, Int.reduceLE, Int.reduceToNat, Nat.reduceMul, Nat.reduceAdd, Nat.reduceSub, List.nil_append, List.cons_append, List.getElem?_toArray, List.getElem?_cons_zero, List.getElem?_cons_succ, List.setIfInBounds_toArray, List.set_cons_zero, List.set_cons_succ, Option.map_some, List.not_mem_nil, ←decide_not, ks1]
        have C : Blk (w1.alloc (.cells #[i64 (vP (wat ws k)), i64 (vB (wat ws k)), .bool false, i64 (vT (wat ws k))] 34)) w1.heap.size 34 [i64 (vP (wat ws k)), i64 (vB (wat ws k)), .bool false, i64 (vT (wat ws k))] := Blk.at rfl
        have X1 : Ext [] w1 (w1.alloc (.cells #[i64 (vP (wat ws k)), i64 (vB (wat ws k)), .bool false, i64 (vT (wat ws k))] 34)) := Ext.alloc _ _ _
        have B2 := B1.ext X1 (by simp)
        have S2 := S1.ext0 X1
        refine head_Size_call (Gives.to (SizeW_spec hok _) fun w3 F3d => ?_)
        have F3 := (Ext.drew [] _).trans F3d
        have B3 := B2.ext F3 (by simp)
        have S3 := S2.ext0 F3
        have k3 := fun i => S3.blk.cell (i := i)
        have kb := fun i => B3.cell (i := i)
        have fb := fun i => B3.frozen (i := i)
        simp (disch := (first | omega | decide | (simp only [World.size_alloc, World.size_setCell, World.size_drew, size_sets, List.mem_cons, List.not_mem_nil, or_false, not_false_eq_true] <;> omega) | fail)) only [↓rsObjG_0, rsObjG_1, Option.isNone_some, Option.isNone_none, tick_eq, tickV_eq, ne_eq, Int.reduceAdd, Int.reduceSub, Int.reduceMul, Int.reduceEq, Int.reduceLT, Int.reduceLE, Int.reduceToNat, Nat.reduceMul, Nat.reduceAdd, Nat.reduceSub, List.nil_append, List.cons_append, List.getElem?_toArray, List.getElem?_cons_zero, List.getElem?_cons_succ, List.setIfInBounds_toArray, List.set_cons_zero, List.set_cons_succ, Option.map_some, List.not_mem_nil, ←decide_not, ks1, k3, kb, fb]
        exact ⟨by trivial, ((((X.trans (F1.trans (X1.trans F3))).set' (.inr (Nat.le_of_eq hhz))).set' (.inr (Nat.le_of_eq hhz))).set' (.inr (Nat.le_of_eq hhz))).set' (.inr (Nat.le_of_eq hhz))⟩
    · obtain ⟨e1, e2, e3, e4, e5⟩ := head_bad hi
      rw [e1, e2, e3, e4, e5] at hh
      refine space_Space_Head_call (Gives.to hh fun w1 F1 => ?_)
      have B1 := B.ext F1 (by simp)
      have kb := fun i => B1.cell (i := i)
      have fb := fun i => B1.frozen (i := i)
      have z1 := B1.lt
      simp (disch := (first | omega | decide | (simp only [World.size_alloc, World.size_setCell, World.size_drew, size_sets, List.mem_cons, List.not_mem_nil, or_false, not_false_eq_true] <;> omega) | fail)) only [↓rsObjG_0, rsObjG_1, Option.isNone_some, Option.isNone_none, tick_eq, tickV_eq, ne_eq, Int.reduceAdd, Int.reduceSub, Int.reduceMul, Int.reduceEq, Int.reduceLT, Int.reduceLE, Int.reduceToNat, Nat.reduceMul, Nat.reduceAdd, Nat.reduceSub, List.nil_append, List.cons_append, List.getElem?_toArray, List.getElem?_cons_zero, List.getElem?_cons_succ, List.setIfInBounds_toArray, List.set_cons_zero, List.set_cons_succ, Option.map_some, List.not_mem_nil, ←decide_not, kb, fb]
      exact ⟨by trivial, (((((X.trans F1).set' (.inr (Nat.le_of_eq hhz))).set' (.inr (Nat.le_of_eq hhz))).set' (.inr (Nat.le_of_eq hhz))).set' (.inr (Nat.le_of_eq hhz))).trans (Ext.alloc _ _ _)⟩
  · rw [he]
    refine space_Space_Head_call (Gives.to (SHead_out Sy h1) fun w1 F1 => ?_)
    have B1 := B.ext F1 (by simp)
    have kb := fun i => B1.cell (i := i)
    have fb := fun i => B1.frozen (i := i)
    have z1 := B1.lt
    simp (disch := (first | omega | decide | (simp only [World.size_alloc, World.size_setCell, World.size_drew, size_sets, List.mem_cons, List.not_mem_nil, or_false, not_false_eq_true] <;> omega) | fail)) only [↓rsObjG_0, rsObjG_1, Option.isNone_some, Option.isNone_none, tick_eq, tickV_eq, ne_eq, Int.reduceAdd, Int.reduceSub, Int.reduceMul, Int.reduceEq, Int.reduceLT, Int.reduceLE, Int.reduceToNat, Nat.reduceMul, Nat.reduceAdd, Nat.reduceSub, List.nil_append, List.cons_append, List.getElem?_toArray, List.getElem?_cons_zero, List.getElem?_cons_succ, List.setIfInBounds_toArray, List.set_cons_zero, List.set_cons_succ, Option.map_some, List.not_mem_nil, ←decide_not, kb, fb]
    exact ⟨by trivial, (((((X.trans F1).set' (.inr (Nat.le_of_eq hhz))).set' (.inr (Nat.le_of_eq hhz))).set' (.inr (Nat.le_of_eq hhz))).set' (.inr (Nat.le_of_eq hhz))).trans (Ext.alloc _ _ _)⟩
/-- a pointer, read -/
def ptrG (ws : List (BitVec 64)) (b t : Nat) (o i : Int) : Int × Int :=
  if obE ws b t o ≠ 0 then (0, obE ws b t o) else if i < 0 ∨ (pN (wat ws o.toNat) : Int) ≤ i then (0, 1) else ptrV b t (wat ws (o.toNat + 1 + i.toNat))
abbrev rsObjG_2 := (And.intro @xBox_r (And.intro @loadK_some (And.intro @loadsK_s (And.intro @loadsK_n (And.intro @loadsR_s (And.intro @loadsR_n (And.intro @storesK_s (And.intro @storesK_n (And.intro @xPick_t (And.intro @xPick_f (And.intro @xGuard_tt (And.intro @xGuard_ff (And.intro @xGuard_tf (And.intro @xGuard_ft (And.intro @xGuard_u 
  (And.intro @xNil_r (And.intro @xIf_t (And.intro @xBin_add' (And.intro @xBin_sub' (And.intro @xBin_mul' (And.intro @xBin_quo' (And.intro @xBin_rem' (And.intro @xIf_f (And.intro @xIf_tt (And.intro @xEx0 (And.intro @xEx1 (And.intro @xEx2 (And.intro @xEx3 (And.intro @xBin_eqs (And.intro @xBin_nes (And.intro @xUn_not (And.intro @xu8_add (And.intro @xu8_sub 
  (And.intro @xu8_com (And.intro @xu8_eql (And.intro @xu8_neq (And.intro @xu8_lss (And.intro @xu8_gtr (And.intro @xu8_geq (And.intro @xu16_add (And.intro @xu16_sub (And.intro @xu16_com (And.intro @xu16_eql (And.intro @xu16_neq (And.intro @xu16_lss (And.intro @xu16_gtr (And.intro @xu16_geq (And.intro @xu32_add (And.intro @xu32_sub (And.intro @xu32_com 
  (And.intro @xu32_eql (And.intro @xu32_neq (And.intro @xu32_lss (And.intro @xu32_gtr (And.intro @xu32_geq (And.intro @xu64_add (And.intro @xu64_sub (And.intro @xu64_com (And.intro @xu64_eql (And.intro @xu64_neq (And.intro @xu64_lss (And.intro @xu64_gtr (And.intro @xu64_geq (And.intro @xi64_lss (And.intro @xi64_gtr (And.intro @xi64_geq (And.intro @xi64_eql 
  (And.intro @xi64_neq (And.intro @xi64_neg (And.intro @xMakeFunc_r (And.intro @xSq_r (And.intro @xPur_s (And.intro @xRd_s (And.intro @xRe_s (And.intro @xDet_s (And.intro @xDet_ld (And.intro @xDet_ld2 (And.intro @xDet_ld3 (And.intro @xDet_ld4 (And.intro @xGuard_tt (And.intro @ld_3 (And.intro @ld_24 (And.intro @fa_34_0 (And.intro @fa_65_0 (And.intro @al_34 
  (And.intro @st_34 @cv_69_3))))))))))))))))))))))))))))))))))))))))))))))))))))))))))))))))))))))))))))))))))))))
theorem Ptr_g (o i : Int) (S : SpIs w base s g a c ws b t e) : Gives Tryd.prog n_obj_Ptr #[ptr s, i64 o, i64 i] w (.tuple #[i64 (ptrG ws b t o i).1, i64 (ptrG ws b t o i).2]) := by
  by_cases h : obE ws b t o = 0
  · obtain ⟨k, rfl, hO, _⟩ : ∃ k : Nat, o = k ∧ ObjAt ws b t k ∧ obE ws b t o = 0 := by
      rcases obE_cases ws b t o with h1 | ⟨k, _, _, _, _, he⟩ | ⟨_, he⟩
      · exact h1
      · rw [h] at he; cases he
      · rw [h] at he; cases he
    by_cases hi : i < 0 ∨ (pN (wat ws k) : Int) ≤ i
    · have e1 : ptrG ws b t (k : Int) i = (0, 1) := by unfold ptrG; rw [if_neg (by simp [h]), if_pos (by simpa using hi)]
      rw [e1]
      exact Ptr_arg S hO hi
    · obtain ⟨j, rfl⟩ := Int.eq_ofNat_of_zero_le (show 0 ≤ i by omega)
      have e1 : ptrG ws b t (k : Int) (j : Int) = ptrV b t (wat ws (k + 1 + j)) := by unfold ptrG; rw [if_neg (by simp [h]), if_neg (by simpa using hi)]; simp
      rw [e1]
      exact Ptr_ok S hO (by omega)
  · have e1 : ptrG ws b t o i = (0, obE ws b t o) := by unfold ptrG; rw [if_pos h]
    rw [e1]
    have hw := whole_bad S h
    generalize hee : obE ws b t o = er at *
    refine obj_Ptr_of ?_
    unfold obj_Ptr
    refine obj_whole_call (Gives.to hw fun w1 F1 => ?_)
    simp (disch := (first | omega | decide | (simp only [World.size_alloc, World.size_setCell, World.size_drew, size_sets, List.mem_cons, List.not_mem_nil, or_false, not_false_eq_true] <;> omega) | fail)) only [↓rsObjG_2, rsObjG_1, Option.isNone_some, Option.isNone_none, tick_eq, tickV_eq, ne_eq, Int.reduceAdd, Int.reduceSub, Int.reduceMul, Int.reduceEq, Int.reduceLT, Int.reduceLE, Int.reduceToNat, Nat.reduceMul, Nat.reduceAdd, Nat.reduceSub, List.nil_append, List.cons_append, List.getElem?_toArray, List.getElem?_cons_zero, List.getElem?_cons_succ, List.setIfInBounds_toArray, List.set_cons_zero, List.set_cons_succ, Option.map_some, List.not_mem_nil, ←decide_not, eq_self]
    exact ⟨by trivial, by (repeat (first | with_reducible exact Ext.refl _ _ | with_reducible assumption | with_reducible refine Ext.alloc' ?_ _ | with_reducible refine Ext.drew' ?_ | with_reducible refine Ext.set' ?_ ?_ | exact .inr (by first | omega | (simp only [World.size_alloc, World.size_drew, World.size_setCell] <;> omega)) | refine Ext.trans ?_ (by with_reducible assumption)))⟩
/-- a pointer, set -/
def setE (ws : List (BitVec 64)) (b t : Nat) (o i to : Int) : Int :=
  if obE ws b t o ≠ 0 then obE ws b t o else if (i < 0 ∨ (pN (wat ws o.toNat) : Int) ≤ i) ∨ ¬ (to = -1 ∨ ((b : Int) ≤ to ∧ to < t)) then 1 else 0
def setG (ws : List (BitVec 64)) (b t : Nat) (o i to : Int) : List (BitVec 64) :=
  if setE ws b t o i to = 0 then ws.set (o.toNat + 1 + i.toNat) (BitVec.ofInt 64 (to + 1)) else ws
theorem obE_zero {ws : List (BitVec 64)} {b t : Nat} {o : Int} (h : obE ws b t o = 0) : ∃ k : Nat, o = k ∧ ObjAt ws b t k := by
  rcases obE_cases ws b t o with ⟨k, h1, h2, _⟩ | ⟨k, _, _, _, _, he⟩ | ⟨_, he⟩
  · exact ⟨k, h1, h2⟩
  · rw [h] at he; cases he
  · rw [h] at he; cases he
abbrev rsObjG_3 := (And.intro @xBox_r (And.intro @loadK_some (And.intro @loadsK_s (And.intro @loadsK_n (And.intro @loadsR_s (And.intro @loadsR_n (And.intro @storesK_s (And.intro @storesK_n (And.intro @xPick_t (And.intro @xPick_f (And.intro @xGuard_tt (And.intro @xGuard_ff (And.intro @xGuard_tf (And.intro @xGuard_ft (And.intro @xGuard_u 
  (And.intro @xNil_r (And.intro @xIf_t (And.intro @xBin_add' (And.intro @xBin_sub' (And.intro @xBin_mul' (And.intro @xBin_quo' (And.intro @xBin_rem' (And.intro @xIf_f (And.intro @xIf_tt (And.intro @xEx0 (And.intro @xEx1 (And.intro @xEx2 (And.intro @xEx3 (And.intro @xBin_eqs (And.intro @xBin_nes (And.intro @xUn_not (And.intro @xu8_add (And.intro @xu8_com 
  (And.intro @xu8_neq (And.intro @xu8_lss (And.intro @xu8_geq (And.intro @xu16_add (And.intro @xu16_com (And.intro @xu16_neq (And.intro @xu16_lss (And.intro @xu16_geq (And.intro @xu32_add (And.intro @xu32_com (And.intro @xu32_neq (And.intro @xu32_lss (And.intro @xu32_geq (And.intro @xu64_add (And.intro @xu64_com (And.intro @xu64_neq (And.intro @xu64_lss 
  (And.intro @xu64_geq (And.intro @xi64_lss (And.intro @xi64_geq (And.intro @xi64_neq (And.intro @xi64_neg (And.intro @xMakeFunc_r (And.intro @xSq_r (And.intro @xPur_s (And.intro @xRd_s (And.intro @xRe_s (And.intro @xDet_s (And.intro @xDet_ld (And.intro @xDet_ld2 (And.intro @xDet_ld3 (And.intro @xDet_ld4 (And.intro @xGuard_tt (And.intro @ld_3 (And.intro @ld_24 
  (And.intro @fa_34_0 (And.intro @fa_65_0 (And.intro @al_34 (And.intro @st_34 @cv_3_69))))))))))))))))))))))))))))))))))))))))))))))))))))))))))))))))))))))))
theorem SetPtr_g (o i to : Int) (S : SpIs w base s g a c ws b t e) : Yld Tryd.prog n_obj_SetPtr #[ptr s, i64 o, i64 i, i64 to] w fun u w' => u = i64 (setE ws b t o i to) ∧ Ext (bO ws a) w w' ∧ SpIs w' base s g a c (setG ws b t o i to) b t e := by
  by_cases h : obE ws b t o = 0
  · obtain ⟨k, rfl, hO⟩ := obE_zero h
    by_cases hi : i < 0 ∨ (pN (wat ws k) : Int) ≤ i
    · have e1 : setE ws b t (k : Int) i to = 1 := by unfold setE; rw [if_neg (by simp [h]), if_pos (.inl (by simpa using hi))]
      have e2 : setG ws b t (k : Int) i to = ws := by unfold setG; rw [e1]; rfl
      rw [e1, e2]
      refine obj_SetPtr_of ?_
      unfold obj_SetPtr
      refine obj_whole_call (Gives.to (whole_ok S hO) fun w1 F1 => ?_)
      by_cases h0 : i < 0
      · simp (disch := (first | omega | decide | (simp only [World.size_alloc, World.size_setCell, World.size_drew, size_sets, List.mem_cons, List.not_mem_nil, or_false, not_false_eq_true] <;> omega) | fail)) only [↓rsObjG_3, rsObjG_1, Option.isNone_some, Option.isNone_none, tick_eq, tickV_eq, ne_eq, Int.reduceAdd, Int.reduceSub, Int.reduceMul, Int.reduceEq, Int.reduceLT, Int.reduceLE, Int.reduceToNat, Nat.reduceMul, Nat.reduceAdd, Nat.reduceSub, List.nil_append, List.cons_append, List.getElem?_toArray, List.getElem?_cons_zero, List.getElem?_cons_succ, List.setIfInBounds_toArray, List.set_cons_zero, List.set_cons_succ, Option.map_some, List.not_mem_nil, ←decide_not, eq_self]
        exact ⟨by trivial, (F1.trans (Ext.alloc _ _ _)).more (by simp), (S.ext0 F1).ext0 (Ext.alloc _ _ _)⟩
      · simp (disch := (first | omega | decide | (simp only [World.size_alloc, World.size_setCell, World.size_drew, size_sets, List.mem_cons, List.not_mem_nil, or_false, not_false_eq_true] <;> omega) | fail)) only [↓rsObjG_3, rsObjG_1, Option.isNone_some, Option.isNone_none, tick_eq, tickV_eq, ne_eq, Int.reduceAdd, Int.reduceSub, Int.reduceMul, Int.reduceEq, Int.reduceLT, Int.reduceLE, Int.reduceToNat, Nat.reduceMul, Nat.reduceAdd, Nat.reduceSub, List.nil_append, List.cons_append, List.getElem?_toArray, List.getElem?_cons_zero, List.getElem?_cons_succ, List.setIfInBounds_toArray, List.set_cons_zero, List.set_cons_succ, Option.map_some, List.not_mem_nil, ←decide_not, eq_self]
        exact ⟨by trivial, (F1.trans (Ext.alloc _ _ _)).more (by simp), (S.ext0 F1).ext0 (Ext.alloc _ _ _)⟩
    · obtain ⟨j, rfl⟩ := Int.eq_ofNat_of_zero_le (show 0 ≤ i by omega)
      by_cases hto : to = -1 ∨ ((b : Int) ≤ to ∧ to < t)
      · have e1 : setE ws b t (k : Int) (j : Int) to = 0 := by unfold setE; rw [if_neg (by simp [h]), if_neg (by simp only [Int.toNat_natCast]; rintro (h1 | h1); exact hi h1; exact h1 hto)]
        have e2 : setG ws b t (k : Int) (j : Int) to = ws.set (k + 1 + j) (BitVec.ofInt 64 (to + 1)) := by unfold setG; rw [if_pos e1]; simp
        rw [e1, e2]
        have hw : ws ≠ [] := fun e => by subst e; have := S.te; have := S.el; have := hO.lt; simp at *; omega
        rw [bO, if_neg hw]
        exact SetPtr_ok S hO (by omega) hto
      · have e1 : setE ws b t (k : Int) (j : Int) to = 1 := by unfold setE; rw [if_neg (by simp [h]), if_pos (.inr hto)]
        have e2 : setG ws b t (k : Int) (j : Int) to = ws := by unfold setG; rw [e1]; rfl
        rw [e1, e2]
        have hin : decide ((b : Int) ≤ to ∧ to < t) = false := decide_eq_false (fun h => hto (.inr h))
        have hne : ¬ to = -1 := fun h => hto (.inl h)
        refine obj_SetPtr_of ?_
        unfold obj_SetPtr
        refine obj_whole_call (Gives.to (whole_ok S hO) fun w1 F1 => ?_)
        have X1 : Ext [] w1 (w1.alloc (.cells #[i64 (pN (wat ws k)), i64 (bN (wat ws k)), .bool false, i64 0] 34)) := Ext.alloc _ _ _
        have Sy := (S.ext0 F1).ext0 X1
        simp (disch := (first | omega | decide | (simp only [World.size_alloc, World.size_setCell, World.size_drew, size_sets, List.mem_cons, List.not_mem_nil, or_false, not_false_eq_true] <;> omega) | fail)) only [↓rsObjG_3, rsObjG_1, Option.isNone_some, Option.isNone_none, tick_eq, tickV_eq, ne_eq, Int.reduceAdd, Int.reduceSub, Int.reduceMul, Int.reduceEq, Int.reduceLT, Int.reduceLE, Int.reduceToNat, Nat.reduceMul, Nat.reduceAdd, Nat.reduceSub, List.nil_append, List.cons_append, List.getElem?_toArray, List.getElem?_cons_zero, List.getElem?_cons_succ, List.setIfInBounds_toArray, List.set_cons_zero, List.set_cons_succ, Option.map_some, List.not_mem_nil, ←decide_not, eq_self]
        generalize w1.alloc (.cells #[i64 (pN (wat ws k)), i64 (bN (wat ws k)), .bool false, i64 0] 34) = y at *
        refine obj_in_call (Gives.to (objIn_spec (o := to) Sy) fun w3 F3 => ?_)
        rw [hin]
        simp (disch := (first | omega | decide | (simp only [World.size_alloc, World.size_setCell, World.size_drew, size_sets, List.mem_cons, List.not_mem_nil, or_false, not_false_eq_true] <;> omega) | fail)) only [↓rsObjG_3, rsObjG_1, Option.isNone_some, Option.isNone_none, tick_eq, tickV_eq, ne_eq, Int.reduceAdd, Int.reduceSub, Int.reduceMul, Int.reduceEq, Int.reduceLT, Int.reduceLE, Int.reduceToNat, Nat.reduceMul, Nat.reduceAdd, Nat.reduceSub, List.nil_append, List.cons_append, List.getElem?_toArray, List.getElem?_cons_zero, List.getElem?_cons_succ, List.setIfInBounds_toArray, List.set_cons_zero, List.set_cons_succ, Option.map_some, List.not_mem_nil, ←decide_not, eq_self]
        exact ⟨by trivial, (F1.trans (X1.trans F3)).more (by simp), Sy.ext0 F3⟩
  · have e1 : setE ws b t o i to = obE ws b t o := by unfold setE; rw [if_pos h]
    have e2 : setG ws b t o i to = ws := by unfold setG; rw [e1, if_neg h]
    rw [e1, e2]
    have hw := whole_bad S h
    generalize hee : obE ws b t o = er at *
    refine obj_SetPtr_of ?_
    unfold obj_SetPtr
    refine obj_whole_call (Gives.to hw fun w1 F1 => ?_)
    simp (disch := (first | omega | decide | (simp only [World.size_alloc, World.size_setCell, World.size_drew, size_sets, List.mem_cons, List.not_mem_nil, or_false, not_false_eq_true] <;> omega) | fail)) only [↓rsObjG_3, rsObjG_1, Option.isNone_some, Option.isNone_none, tick_eq, tickV_eq, ne_eq, Int.reduceAdd, Int.reduceSub, Int.reduceMul, Int.reduceEq, Int.reduceLT, Int.reduceLE, Int.reduceToNat, Nat.reduceMul, Nat.reduceAdd, Nat.reduceSub, List.nil_append, List.cons_append, List.getElem?_toArray, List.getElem?_cons_zero, List.getElem?_cons_succ, List.setIfInBounds_toArray, List.set_cons_zero, List.set_cons_succ, Option.map_some, List.not_mem_nil, ←decide_not, eq_self]
    exact ⟨by trivial, (F1.trans (Ext.alloc _ _ _)).more (by simp), (S.ext0 F1).ext0 (Ext.alloc _ _ _)⟩
/-- bytes of an object -/
def rdE (ws : List (BitVec 64)) (b t : Nat) (o f n : Int) : Int :=
  if obE ws b t o ≠ 0 then obE ws b t o else if f < 0 ∨ n < 0 ∨ (bN (wat ws o.toNat) : Int) < f + n then 1 else 0
def rdA (ws : List (BitVec 64)) (o : Int) (f : Int) : Nat := (o.toNat + 1 + pN (wat ws o.toNat)) * 8 + f.toNat
def rdG (ws : List (BitVec 64)) (b t : Nat) (o f n : Int) : List (BitVec 8) := if rdE ws b t o f n = 0 then bytesW ws (rdA ws o f) n.toNat else []
def wrG (ws : List (BitVec 64)) (b t : Nat) (o f : Int) (l : List (BitVec 8)) : List (BitVec 64) := if rdE ws b t o f l.length = 0 then setBytesW ws (rdA ws o f) l else ws
theorem rdE_zero {ws : List (BitVec 64)} {b t : Nat} {o f n : Int} (h : rdE ws b t o f n = 0) : ∃ k i m : Nat, o = k ∧ f = i ∧ n = m ∧ ObjAt ws b t k ∧ i + m ≤ bN (wat ws k) := by
  unfold rdE at h
  by_cases h1 : obE ws b t o = 0
  · obtain ⟨k, rfl, hO⟩ := obE_zero h1
    rw [if_neg (by simp [h1])] at h
    by_cases h2 : f < 0 ∨ n < 0 ∨ (bN (wat ws k) : Int) < f + n
    · rw [if_pos (by simpa using h2)] at h; cases h
    · obtain ⟨i, rfl⟩ := Int.eq_ofNat_of_zero_le (show 0 ≤ f by omega)
      obtain ⟨m, rfl⟩ := Int.eq_ofNat_of_zero_le (show 0 ≤ n by omega)
      exact ⟨k, i, m, rfl, rfl, rfl, hO, by omega⟩
  · rw [if_pos h1] at h
    exact absurd h h1
abbrev rsObjG_4 := (And.intro @xBox_r (And.intro @loadK_some (And.intro @loadsK_s (And.intro @loadsK_n (And.intro @loadsR_s (And.intro @loadsR_n (And.intro @storesK_s (And.intro @storesK_n (And.intro @xPick_t (And.intro @xPick_f (And.intro @xGuard_tt (And.intro @xGuard_ff (And.intro @xGuard_tf (And.intro @xGuard_ft (And.intro @xGuard_u 
  (And.intro @xNil_r (And.intro @xIf_t (And.intro @xBin_add' (And.intro @xBin_sub' (And.intro @xBin_mul' (And.intro @xBin_quo' (And.intro @xBin_rem' (And.intro @xIf_f (And.intro @xIf_tt (And.intro @xEx0 (And.intro @xEx1 (And.intro @xEx2 (And.intro @xEx3 (And.intro @xBin_eqs (And.intro @xBin_nes (And.intro @xUn_not (And.intro @xu8_add (And.intro @xu8_sub 
  (And.intro @xu8_mul (And.intro @xu8_neq (And.intro @xu8_lss (And.intro @xu8_gtr (And.intro @xu16_add (And.intro @xu16_sub (And.intro @xu16_mul (And.intro @xu16_neq (And.intro @xu16_lss (And.intro @xu16_gtr (And.intro @xu32_add (And.intro @xu32_sub (And.intro @xu32_mul (And.intro @xu32_neq (And.intro @xu32_lss (And.intro @xu32_gtr (And.intro @xu64_add 
  (And.intro @xu64_sub (And.intro @xu64_mul (And.intro @xu64_neq (And.intro @xu64_lss (And.intro @xu64_gtr (And.intro @xi64_lss (And.intro @xi64_gtr (And.intro @xi64_neq (And.intro @xi64_neg (And.intro @xMakeFunc_r (And.intro @xSq_r (And.intro @xPur_s (And.intro @xRd_s (And.intro @xRe_s (And.intro @xDet_s (And.intro @xDet_ld (And.intro @xDet_ld2 
  (And.intro @xDet_ld3 (And.intro @xDet_ld4 (And.intro @xGuard_tt (And.intro @ld_3 (And.intro @fa_34_0 (And.intro @fa_34_1 (And.intro @al_34 @st_34))))))))))))))))))))))))))))))))))))))))))))))))))))))))))))))))))))))))))
theorem bytes_bad {o f n : Int} (S : SpIs w base s g a c ws b t e) (h : rdE ws b t o f n ≠ 0) : Gives Tryd.prog n_obj_bytes #[ptr s, i64 o, i64 f, i64 n] w (.tuple #[i64 0, i64 (rdE ws b t o f n)]) := by
  refine obj_bytes_of ?_
  unfold obj_bytes
  by_cases h1 : obE ws b t o = 0
  · obtain ⟨k, rfl, hO⟩ := obE_zero h1
    obtain ⟨v1, v2, v3, v4, v5, v6, v7, v8⟩ := okW_v hO.ok
    have e0 : rdE ws b t (k : Int) f n = if f < 0 ∨ n < 0 ∨ (bN (wat ws k) : Int) < f + n then 1 else 0 := by unfold rdE; rw [if_neg (by simp [h1])]; simp
    by_cases h2 : f < 0 ∨ n < 0 ∨ (bN (wat ws k) : Int) < f + n
    · rw [e0, if_pos h2]
      refine obj_whole_call (Gives.to (whole_ok S hO) fun w1 F1 => ?_)
      by_cases g1 : f < 0
      · simp (disch := (first | omega | decide | (simp only [World.size_alloc, World.size_setCell, World.size_drew, size_sets, List.mem_cons, List.not_mem_nil, or_false, not_false_eq_true] <;> omega) | fail)) only [↓rsObjG_4, rsObjG_1, Option.isNone_some, Option.isNone_none, tick_eq, tickV_eq, ne_eq, Int.reduceAdd, Int.reduceSub, Int.reduceMul, Int.reduceEq, Int.reduceLT, Int.reduceLE, Int.reduceToNat, Nat.reduceMul, Nat.reduceAdd, Nat.reduceSub, List.nil_append, List.cons_append, List.getElem?_toArray, List.getElem?_cons_zero, List.getElem?_cons_succ, List.setIfInBounds_toArray, List.set_cons_zero, List.set_cons_succ, Option.map_some, List.not_mem_nil, ←decide_not, eq_self]
        exact ⟨by trivial, F1.trans (Ext.alloc _ _ _)⟩
      by_cases g2 : n < 0
      · simp (disch := (first | omega | decide | (simp only [World.size_alloc, World.size_setCell, World.size_drew, size_sets, List.mem_cons, List.not_mem_nil, or_false, not_false_eq_true] <;> omega) | fail)) only [↓rsObjG_4, rsObjG_1, Option.isNone_some, Option.isNone_none, tick_eq, tickV_eq, ne_eq, Int.reduceAdd, Int.reduceSub, Int.reduceMul, Int.reduceEq, Int.reduceLT, Int.reduceLE, Int.reduceToNat, Nat.reduceMul, Nat.reduceAdd, Nat.reduceSub, List.nil_append, List.cons_append, List.getElem?_toArray, List.getElem?_cons_zero, List.getElem?_cons_succ, List.setIfInBounds_toArray, List.set_cons_zero, List.set_cons_succ, Option.map_some, List.not_mem_nil, ←decide_not, eq_self]
        exact ⟨by trivial, F1.trans (Ext.alloc _ _ _)⟩
      by_cases g3 : (bN (wat ws k) : Int) < n
      · simp (disch := (first | omega | decide | (simp only [World.size_alloc, World.size_setCell, World.size_drew, size_sets, List.mem_cons, List.not_mem_nil, or_false, not_false_eq_true] <;> omega) | fail)) only [↓rsObjG_4, rsObjG_1, Option.isNone_some, Option.isNone_none, tick_eq, tickV_eq, ne_eq, Int.reduceAdd, Int.reduceSub, Int.reduceMul, Int.reduceEq, Int.reduceLT, Int.reduceLE, Int.reduceToNat, Nat.reduceMul, Nat.reduceAdd, Nat.reduceSub, List.nil_append, List.cons_append, List.getElem?_toArray, List.getElem?_cons_zero, List.getElem?_cons_succ, List.setIfInBounds_toArray, List.set_cons_zero, List.set_cons_succ, Option.map_some, List.not_mem_nil, ←decide_not, eq_self]
        exact ⟨by trivial, F1.trans (Ext.alloc _ _ _)⟩
      have g4 : (bN (wat ws k) : Int) - n < f := by omega
      simp (disch := (first | omega | decide | (simp only [World.size_alloc, World.size_setCell, World.size_drew, size_sets, List.mem_cons, List.not_mem_nil, or_false, not_false_eq_true] <;> omega) | fail)) only [↓rsObjG_4, rsObjG_1, Option.isNone_some, Option.isNone_none, tick_eq, tickV_eq, ne_eq, Int.reduceAdd, Int.reduceSub, Int.reduceMul, Int.reduceEq, Int.reduceLT, Int.reduceLE, Int.reduceToNat, Nat.reduceMul, Nat.reduceAdd, Nat.reduceSub, List.nil_append, List.cons_append, List.getElem?_toArray, List.getElem?_cons_zero, List.getElem?_cons_succ, List.setIfInBounds_toArray, List.set_cons_zero, List.set_cons_succ, Option.map_some, List.not_mem_nil, ←decide_not, eq_self]
      exact ⟨by trivial, F1.trans (Ext.alloc _ _ _)⟩
    · rw [e0, if_neg h2] at h
      exact absurd rfl h
  · have e1 : rdE ws b t o f n = obE ws b t o := by unfold rdE; rw [if_pos h1]
    rw [e1]
    have hw := whole_bad S h1
    generalize hee : obE ws b t o = er at *
    refine obj_whole_call (Gives.to hw fun w1 F1 => ?_)
    simp (disch := (first | omega | decide | (simp only [World.size_alloc, World.size_setCell, World.size_drew, size_sets, List.mem_cons, List.not_mem_nil, or_false, not_false_eq_true] <;> omega) | fail)) only [↓rsObjG_4, rsObjG_1, Option.isNone_some, Option.isNone_none, tick_eq, tickV_eq, ne_eq, Int.reduceAdd, Int.reduceSub, Int.reduceMul, Int.reduceEq, Int.reduceLT, Int.reduceLE, Int.reduceToNat, Nat.reduceMul, Nat.reduceAdd, Nat.reduceSub, List.nil_append, List.cons_append, List.getElem?_toArray, List.getElem?_cons_zero, List.getElem?_cons_succ, List.setIfInBounds_toArray, List.set_cons_zero, List.set_cons_succ, Option.map_some, List.not_mem_nil, ←decide_not, eq_self]
    exact ⟨by trivial, F1.trans (Ext.alloc _ _ _)⟩
abbrev rsObjG_5 := (And.intro @xBox_r (And.intro @loadK_some (And.intro @loadsK_s (And.intro @loadsK_n (And.intro @loadsR_s (And.intro @loadsR_n (And.intro @storesK_s (And.intro @storesK_n (And.intro @xPick_t (And.intro @xPick_f (And.intro @xGuard_tt (And.intro @xGuard_ff (And.intro @xGuard_tf (And.intro @xGuard_ft (And.intro @xGuard_u 
  (And.intro @xNil_r (And.intro @xIf_t (And.intro @xBin_add' (And.intro @xBin_sub' (And.intro @xBin_mul' (And.intro @xBin_quo' (And.intro @xBin_rem' (And.intro @xIf_f (And.intro @xIf_tt (And.intro @xEx0 (And.intro @xEx1 (And.intro @xEx2 (And.intro @xEx3 (And.intro @xBin_eqs (And.intro @xBin_nes (And.intro @xUn_not (And.intro @xu8_neq (And.intro @xu16_neq 
  (And.intro @xu32_neq (And.intro @xu64_neq (And.intro @xi64_neq (And.intro @xi64_neg (And.intro @xMakeFunc_r (And.intro @xSq_r (And.intro @xPur_s (And.intro @xRd_s (And.intro @xRe_s (And.intro @xDet_s (And.intro @xDet_ld (And.intro @xDet_ld2 (And.intro @xDet_ld3 (And.intro @xDet_ld4 (And.intro @xGuard_tt (And.intro @ld_24 @fa_65_0)))))))))))))))))))))))))))))))))))))))))))))))))
theorem Read_g (o f n : Int) (S : SpIs w base s g a c ws b t e) : Yld Tryd.prog n_obj_Read #[ptr s, i64 o, i64 f, i64 n] w fun u w' => Ext [] w w' ∧ ∃ a2 c2, u = .tuple #[.slice a2 (rdG ws b t o f n).length c2, i64 (rdE ws b t o f n)] ∧ RowAt w' a2 (bys (rdG ws b t o f n)) ∧ ∀ x, a2 = some x → w.heap.size ≤ x.block := by
  by_cases h : rdE ws b t o f n = 0
  · have h' := h
    obtain ⟨k, i, m, rfl, rfl, rfl, hO, hm⟩ := rdE_zero h'
    have e1 : rdG ws b t (k : Int) (i : Int) (m : Int) = bytesW ws ((k + 1 + pN (wat ws k)) * 8 + i) m := by unfold rdG; rw [if_pos h]; simp [rdA]
    rw [e1, h]
    refine Yld.mono (ORead_ok S hO hm) ?_
    rintro u w' ⟨F, a2, c2, rfl, hc, R, U⟩
    exact ⟨F, a2, c2, rfl, R, U⟩
  · have e1 : rdG ws b t o f n = [] := by unfold rdG; rw [if_neg h]
    rw [e1]
    refine obj_Read_of ?_
    unfold obj_Read
    have hb := bytes_bad (w := w) (o := o) (f := f) (n := n) S h
    generalize hee : rdE ws b t o f n = er at *
    refine obj_bytes_call (Gives.to hb fun w1 F1 => ?_)
    simp (disch := (first | omega | decide | (simp only [World.size_alloc, World.size_setCell, World.size_drew, size_sets, List.mem_cons, List.not_mem_nil, or_false, not_false_eq_true] <;> omega) | fail)) only [↓rsObjG_5, rsObjG_1, Option.isNone_some, Option.isNone_none, tick_eq, tickV_eq, ne_eq, Int.reduceAdd, Int.reduceSub, Int.reduceMul, Int.reduceEq, Int.reduceLT, Int.reduceLE, Int.reduceToNat, Nat.reduceMul, Nat.reduceAdd, Nat.reduceSub, List.nil_append, List.cons_append, List.getElem?_toArray, List.getElem?_cons_zero, List.getElem?_cons_succ, List.setIfInBounds_toArray, List.set_cons_zero, List.set_cons_succ, Option.map_some, List.not_mem_nil, ←decide_not, eq_self]
    exact ⟨F1, none, 0, by trivial, RowAt.nil, fun x hx => by cases hx⟩
abbrev rsObjG_6 := (And.intro @xBox_r (And.intro @loadK_some (And.intro @loadsK_s (And.intro @loadsK_n (And.intro @loadsR_s (And.intro @loadsR_n (And.intro @storesK_s (And.intro @storesK_n (And.intro @xPick_t (And.intro @xPick_f (And.intro @xGuard_tt (And.intro @xGuard_ff (And.intro @xGuard_tf (And.intro @xGuard_ft (And.intro @xGuard_u 
  (And.intro @xNil_r (And.intro @xIf_t (And.intro @xBin_add' (And.intro @xBin_sub' (And.intro @xBin_mul' (And.intro @xBin_quo' (And.intro @xBin_rem' (And.intro @xIf_f (And.intro @xIf_tt (And.intro @xEx0 (And.intro @xEx1 (And.intro @xEx2 (And.intro @xEx3 (And.intro @xBin_eqs (And.intro @xBin_nes (And.intro @xUn_not (And.intro @xu8_neq (And.intro @xu16_neq 
  (And.intro @xu32_neq (And.intro @xu64_neq (And.intro @xi64_neq (And.intro @xi64_neg (And.intro @xMakeFunc_r (And.intro @xSq_r (And.intro @xPur_s (And.intro @xRd_s (And.intro @xRe_s (And.intro @xDet_s (And.intro @xDet_ld (And.intro @xDet_ld2 (And.intro @xDet_ld3 (And.intro @xDet_ld4 (And.intro @xGuard_tt (And.intro @ld_24 (And.intro @fa_65_0 @ln_22))))))))))))))))))))))))))))))))))))))))))))))))))
theorem Write_g (o f : Int) (l : List (BitVec 8)) (ab : Option Addr) (cb : Nat) (S : SpIs w base s g a c ws b t e) (hb : RowAt w ab (bys l)) (hap : l ≠ [] → ∀ b o, ab = some ⟨b, o, none⟩ → b ∉ blkOf a) :
    Yld Tryd.prog n_obj_Write #[ptr s, i64 o, i64 f, .slice ab l.length cb] w fun u w' => u = i64 (rdE ws b t o f l.length) ∧ Ext (bO ws a) w w' ∧ SpIs w' base s g a c (wrG ws b t o f l) b t e := by
  by_cases h : rdE ws b t o f l.length = 0
  · have h' := h
    obtain ⟨k, i, m, rfl, rfl, hm', hO, hm⟩ := rdE_zero h'
    have hm2 : m = l.length := by omega
    subst hm2
    have e1 : wrG ws b t (k : Int) (i : Int) l = setBytesW ws ((k + 1 + pN (wat ws k)) * 8 + i) l := by unfold wrG; rw [if_pos h]; simp [rdA]
    rw [e1, h]
    have hw : ws ≠ [] := fun e => by subst e; have := S.te; have := S.el; have := hO.lt; simp at *; omega
    rw [bO, if_neg hw]
    exact OWrite_ok S hO hm hb hap
  · have e1 : wrG ws b t o f l = ws := by unfold wrG; rw [if_neg h]
    rw [e1]
    refine obj_Write_of ?_
    unfold obj_Write
    have hb := bytes_bad (w := w) (o := o) (f := f) (n := l.length) S h
    generalize hee : rdE ws b t o f l.length = er at *
    simp (disch := (first | omega | decide | (simp only [World.size_alloc, World.size_setCell, World.size_drew, size_sets, List.mem_cons, List.not_mem_nil, or_false, not_false_eq_true] <;> omega) | fail)) only [↓rsObjG_6, rsObjG_1, Option.isNone_some, Option.isNone_none, tick_eq, tickV_eq, ne_eq, Int.reduceAdd, Int.reduceSub, Int.reduceMul, Int.reduceEq, Int.reduceLT, Int.reduceLE, Int.reduceToNat, Nat.reduceMul, Nat.reduceAdd, Nat.reduceSub, List.nil_append, List.cons_append, List.getElem?_toArray, List.getElem?_cons_zero, List.getElem?_cons_succ, List.setIfInBounds_toArray, List.set_cons_zero, List.set_cons_succ, Option.map_some, List.not_mem_nil, ←decide_not, eq_self]
    refine obj_bytes_call (Gives.to hb fun w1 F1 => ?_)
    simp (disch := (first | omega | decide | (simp only [World.size_alloc, World.size_setCell, World.size_drew, size_sets, List.mem_cons, List.not_mem_nil, or_false, not_false_eq_true] <;> omega) | fail)) only [↓rsObjG_6, rsObjG_1, Option.isNone_some, Option.isNone_none, tick_eq, tickV_eq, ne_eq, Int.reduceAdd, Int.reduceSub, Int.reduceMul, Int.reduceEq, Int.reduceLT, Int.reduceLE, Int.reduceToNat, Nat.reduceMul, Nat.reduceAdd, Nat.reduceSub, List.nil_append, List.cons_append, List.getElem?_toArray, List.getElem?_cons_zero, List.getElem?_cons_succ, List.setIfInBounds_toArray, List.set_cons_zero, List.set_cons_succ, Option.map_some, List.not_mem_nil, ←decide_not, eq_self]
    exact ⟨by trivial, F1.more (by simp), S.ext0 F1⟩
end
end Go.Proofs.YtknineilpenbnaaDoor
set_option maxHeartbeats 4000000
namespace Go.Proofs.YtknineilpenbnaaDoor
open Go.Sh Go.RowKit

section
variable {w : World} {m : Nat} {r : Option Addr} {c : Nat} {ws : List (BitVec 64)} {b t e : Nat}
abbrev rsObjR_0 := (And.intro @xBox_r (And.intro @loadK_some (And.intro @loadsK_s (And.intro @loadsK_n (And.intro @loadsR_s (And.intro @loadsR_n (And.intro @storesK_s (And.intro @storesK_n (And.intro @xPick_t (And.intro @xPick_f (And.intro @xGuard_tt (And.intro @xGuard_ff (And.intro @xGuard_tf (And.intro @xGuard_ft (And.intro @xGuard_u 
  (And.intro @xNil_r (And.intro @xIf_t (And.intro @xBin_add' (And.intro @xBin_sub' (And.intro @xBin_mul' (And.intro @xBin_quo' (And.intro @xBin_rem' (And.intro @xIf_f (And.intro @xIf_tt (And.intro @xEx0 (And.intro @xEx1 (And.intro @xEx2 (And.intro @xEx3 (And.intro @xBin_eqs (And.intro @xBin_nes (And.intro @xUn_not (And.intro @xu8_sub (And.intro @xu8_neq 
  (And.intro @xu8_gtr (And.intro @xu16_sub (And.intro @xu16_neq (And.intro @xu16_gtr (And.intro @xu32_sub (And.intro @xu32_neq (And.intro @xu32_gtr (And.intro @xu64_sub (And.intro @xu64_neq (And.intro @xu64_gtr (And.intro @xi64_gtr (And.intro @xi64_neq (And.intro @xi64_neg (And.intro @xMakeFunc_r (And.intro @xSq_r (And.intro @xPur_s (And.intro @xRd_s 
  (And.intro @xRe_s (And.intro @xDet_s (And.intro @xDet_ld (And.intro @xDet_ld2 (And.intro @xDet_ld3 (And.intro @xDet_ld4 (And.intro @xGuard_tt (And.intro @ld_3 (And.intro @ld_4 (And.intro @ld_92 (And.intro @lr_92 (And.intro @fa_48_2 (And.intro @fa_92_2 (And.intro @al_92 (And.intro @st_92 (And.intro @bd_92_0_1 (And.intro @bd_92_2_3 @bd_92)))))))))))))))))))))))))))))))))))))))))))))))))))))))))))))))))))
abbrev rsObjR_1 := (And.intro @setCells_c (And.intro @setCells_n (And.intro @World.setCell_alloc_at (And.intro @World.setCell_alloc_past (And.intro @World.cell?_alloc_at (And.intro @World.cell?_alloc_past (And.intro @World.frozen?_alloc_at (And.intro @World.frozen?_alloc_past 
  (And.intro @World.size_alloc (And.intro @dlt_t (And.intro @dlt_f (And.intro @dle_t (And.intro @dle_f (And.intro @deq_t (And.intro @deq_f (And.intro @dne_t (And.intro @dne_f (And.intro @not_true_eq_false (And.intro @Bool.false_and (And.intro @Bool.true_and (And.intro @Bool.and_true (And.intro @Bool.and_false (And.intro @wrap_in (And.intro @Int.toNat_natCast 
  (And.intro @Nat.mul_one (And.intro @cells_int (And.intro @cells_bool (And.intro @cells_string (And.intro @cells_slice (And.intro @cells_pointer (And.intro @cells_agg (And.intro @one_int (And.intro @one_bool (And.intro @one_string (And.intro @one_slice (And.intro @one_pointer (And.intro @beq_tt (And.intro @beq_ff (And.intro @beq_tf 
  (And.intro @beq_ft (And.intro @cell_sets_b (And.intro @frozen_sets (And.intro @size_sets (And.intro @World.size_drew (And.intro @Nat.zero_add (And.intro @Nat.add_zero (And.intro @cell_drew (And.intro @frozen_drew (And.intro @cell_set_eq (And.intro @cell_set_o (And.intro @cell_set_b (And.intro @World.frozen?_setCell 
  (And.intro @decide_true (And.intro @decide_false (And.intro @not_false_eq_true (And.intro @Bool.not_true @Bool.not_false))))))))))))))))))))))))))))))))))))))))))))))))))))))))
theorem rObj_ok {o : Nat} (S : RfIs w m r c ws b t e) (h : ObjAt ws b t o) : Gives Tryd.prog n_loamref14_Space_object #[ptr m, i64 (o : Int)] w (.tuple #[hd (pN (wat ws o)) (bN (wat ws o)) false 0, i64 0]) := by
  obtain ⟨v1, v2, v3, v4, v5, v6, v7, v8⟩ := okW_v h.ok
  have q1 := S.te
  have q2 := S.el
  have q3 := S.len
  have hlt := h.lt
  have hhi := h.hi
  refine loamref14_Space_object_of ?_
  unfold loamref14_Space_object
  simp (disch := (first | omega | decide | (simp only [World.size_alloc, World.size_setCell, World.size_drew, size_sets, List.mem_cons, List.not_mem_nil, or_false, not_false_eq_true] <;> omega) | fail)) only [↓rsObjR_0, rsObjR_1, Option.isNone_some, Option.isNone_none, tick_eq, tickV_eq, ne_eq, Int.reduceAdd, Int.reduceSub, Int.reduceMul, Int.reduceEq, Int.reduceLT, Int.reduceLE, Int.reduceToNat, Nat.reduceMul, Nat.reduceAdd, Nat.reduceSub, List.nil_append, List.cons_append, List.getElem?_toArray, List.getElem?_cons_zero, List.getElem?_cons_succ, List.setIfInBounds_toArray, List.set_cons_zero, List.set_cons_succ, Option.map_some, List.not_mem_nil, ←decide_not, eq_self]
  have B : Blk (w.alloc (.cells #[i64 0, i64 0, .bool false, i64 0] 92)) w.heap.size 92 [i64 0, i64 0, .bool false, i64 0] := Blk.at rfl
  have X : Ext [] w (w.alloc (.cells #[i64 0, i64 0, .bool false, i64 0] 92)) := Ext.alloc _ _ _
  have zs := S.blk.lt
  generalize hhz : w.heap.size = hz at *
  generalize w.alloc (.cells #[i64 0, i64 0, .bool false, i64 0] 92) = y at *
  have hh2 := rHead_in (o := o) (S.ext0 X) h.lo hlt
  rw [v1, v2, v3, v4, v5] at hh2
  refine loamref14_Space_Head_call (Gives.to hh2 fun w1 F1 => ?_)
  have B1 := B.ext F1 (by simp)
  have S1 := (S.ext0 X).ext0 F1
  have z1 := B1.lt
  have zs1 := S1.blk.lt
  have ks := fun i => S1.blk.cell (i := i)
  simp (disch := (first | omega | decide | (simp only [World.size_alloc, World.size_setCell, World.size_drew, size_sets, List.mem_cons, List.not_mem_nil, or_false, not_false_eq_true] <;> omega) | fail)) only [↓rsObjR_0, rsObjR_1, Option.isNone_some, Option.isNone_none, tick_eq, tickV_eq, ne_eq, Int.reduceAdd, Int.reduceSub, Int.reduceMul, Int.reduceEq, Int.reduceLT, Int.reduceLE, Int.reduceToNat, Nat.reduceMul, Nat.reduceAdd, Nat.reduceSub, List.nil_append, List.cons_append, List.getElem?_toArray, List.getElem?_cons_zero, List.getElem?_cons_succ, List.setIfInBounds_toArray, List.set_cons_zero, List.set_cons_succ, Option.map_some, List.not_mem_nil, ←decide_not, ks]
  have C : Blk (w1.alloc (.cells #[i64 (pN (wat ws o)), i64 (bN (wat ws o)), .bool false, i64 0] 92)) w1.heap.size 92 [i64 (pN (wat ws o)), i64 (bN (wat ws o)), .bool false, i64 0] := Blk.at rfl
  have X1 : Ext [] w1 (w1.alloc (.cells #[i64 (pN (wat ws o)), i64 (bN (wat ws o)), .bool false, i64 0] 92)) := Ext.alloc _ _ _
  have B2 := B1.ext X1 (by simp)
  have S2 := S1.ext0 X1
  have hsz : ∀ w, Gives Tryd.prog n_loamref14_Size #[hd (pN (wat ws o)) (bN (wat ws o)) false 0] w (i64 (szW (wat ws o) : Int)) := fun w => by
    have := rSizeW_spec h.ok w
    rw [v1, v2, v4] at this
    exact this
  refine loamref14_Size_call (Gives.to (hsz _) fun w3 F3d => ?_)
  have F3 := (Ext.drew [] _).trans F3d
  have B3 := B2.ext F3 (by simp)
  have C3 := C.ext F3 (by simp)
  have S3 := S2.ext0 F3
  have k3 := fun i => S3.blk.cell (i := i)
  have kb := fun i => B3.cell (i := i)
  have fb := fun i => B3.frozen (i := i)
  have kc := fun i => C3.cell (i := i)
  simp (disch := (first | omega | decide | (simp only [World.size_alloc, World.size_setCell, World.size_drew, size_sets, List.mem_cons, List.not_mem_nil, or_false, not_false_eq_true] <;> omega) | fail)) only [↓rsObjR_0, rsObjR_1, Option.isNone_some, Option.isNone_none, tick_eq, tickV_eq, ne_eq, Int.reduceAdd, Int.reduceSub, Int.reduceMul, Int.reduceEq, Int.reduceLT, Int.reduceLE, Int.reduceToNat, Nat.reduceMul, Nat.reduceAdd, Nat.reduceSub, List.nil_append, List.cons_append, List.getElem?_toArray, List.getElem?_cons_zero, List.getElem?_cons_succ, List.setIfInBounds_toArray, List.set_cons_zero, List.set_cons_succ, Option.map_some, List.not_mem_nil, ←decide_not, ks, k3, kc, kb, fb]
  exact ⟨by trivial, ((((X.trans (F1.trans (X1.trans F3))).set' (.inr (Nat.le_of_eq hhz))).set' (.inr (Nat.le_of_eq hhz))).set' (.inr (Nat.le_of_eq hhz))).set' (.inr (Nat.le_of_eq hhz))⟩
theorem rObj_bad {o : Int} (S : RfIs w m r c ws b t e) (h : obE ws b t o ≠ 0) : Gives Tryd.prog n_loamref14_Space_object #[ptr m, i64 o] w (.tuple #[hd 0 0 false 0, i64 (obE ws b t o)]) := by
  have q1 := S.te
  have q2 := S.el
  have q3 := S.len
  have zs := S.blk.lt
  refine loamref14_Space_object_of ?_
  unfold loamref14_Space_object
  simp (disch := (first | omega | decide | (simp only [World.size_alloc, World.size_setCell, World.size_drew, size_sets, List.mem_cons, List.not_mem_nil, or_false, not_false_eq_true] <;> omega) | fail)) only [↓rsObjR_0, rsObjR_1, Option.isNone_some, Option.isNone_none, tick_eq, tickV_eq, ne_eq, Int.reduceAdd, Int.reduceSub, Int.reduceMul, Int.reduceEq, Int.reduceLT, Int.reduceLE, Int.reduceToNat, Nat.reduceMul, Nat.reduceAdd, Nat.reduceSub, List.nil_append, List.cons_append, List.getElem?_toArray, List.getElem?_cons_zero, List.getElem?_cons_succ, List.setIfInBounds_toArray, List.set_cons_zero, List.set_cons_succ, Option.map_some, List.not_mem_nil, ←decide_not, eq_self]
  have B : Blk (w.alloc (.cells #[i64 0, i64 0, .bool false, i64 0] 92)) w.heap.size 92 [i64 0, i64 0, .bool false, i64 0] := Blk.at rfl
  have X : Ext [] w (w.alloc (.cells #[i64 0, i64 0, .bool false, i64 0] 92)) := Ext.alloc _ _ _
  have Sy := S.ext0 X
  generalize hhz : w.heap.size = hz at *
  generalize w.alloc (.cells #[i64 0, i64 0, .bool false, i64 0] 92) = y at *
  rcases obE_cases ws b t o with ⟨k, rfl, hO, he⟩ | ⟨k, rfl, h1, h2, h3, he⟩ | ⟨h1, he⟩
  · exact absurd he h
  · rw [he]
    have hh := rHead_in (o := k) Sy h1 h2
    by_cases hi : isHead (wat ws k)
    · have hu : unErr (wat ws k) = 0 := if_pos hi
      rw [hu] at hh
      by_cases hm : vM (wat ws k) = true
      · rw [hm] at hh
        refine loamref14_Space_Head_call (Gives.to hh fun w1 F1 => ?_)
        have B1 := B.ext F1 (by simp)
        have kb := fun i => B1.cell (i := i)
        have fb := fun i => B1.frozen (i := i)
        have z1 := B1.lt
        simp (disch := (first | omega | decide | (simp only [World.size_alloc, World.size_setCell, World.size_drew, size_sets, List.mem_cons, List.not_mem_nil, or_false, not_false_eq_true] <;> omega) | fail)) only [↓rsObjR_0, rsObjR_1, Option.isNone_some, Option.isNone_none, tick_eq, tickV_eq, ne_eq, Int.reduceAdd, Int.reduceSub, Int.reduceMul, Int.reduceEq, Int.reduceLT, Int.reduceLE, Int.reduceToNat, Nat.reduceMul, Nat.reduceAdd, Nat.reduceSub, List.nil_append, List.cons_append, List.getElem?_toArray, List.getElem?_cons_zero, List.getElem?_cons_succ, List.setIfInBounds_toArray, List.set_cons_zero, List.set_cons_succ, Option.map_some, List.not_mem_nil, ←decide_not, kb, fb]
        exact ⟨by trivial, (((((X.trans F1).trans (Ext.alloc _ _ _)).trans (Ext.drew [] _)).set' (.inr (Nat.le_of_eq hhz))).set' (.inr (Nat.le_of_eq hhz))).set' (.inr (Nat.le_of_eq hhz)) |>.set' (.inr (Nat.le_of_eq hhz))⟩
      · have hm' : vM (wat ws k) = false := by simpa using hm
        have hok : okW (wat ws k) := ⟨hi, by simpa [vM, hi] using hm'⟩
        have hsz : t < k + szW (wat ws k) := by
          by_cases h5 : k + szW (wat ws k) ≤ t
          · exact absurd ⟨hok, h5⟩ h3
          · omega
        rw [hm'] at hh
        refine loamref14_Space_Head_call (Gives.to hh fun w1 F1 => ?_)
        have B1 := B.ext F1 (by simp)
        have S1 := Sy.ext0 F1
        have z1 := B1.lt
        have ks1 := fun i => S1.blk.cell (i := i)
        have zs1 := S1.blk.lt
        simp (disch := (first | omega | decide | (simp only [World.size_alloc, World.size_setCell, World.size_drew, size_sets, List.mem_cons, List.not_mem_nil, or_false, not_false_eq_true] <;> omega) | fail)) only [↓rsObjR_0, rsObjR_1, Option.isNone_some, Option.isNone_none, tick_eq, tickV_eq, ne_eq, Int.reduceAdd, Int.reduceSub, Int.reduceMul, Int.reduceEq, Int.reduceLT, Int.reduceLE, Int.reduceToNat, Nat.reduceMul, Nat.reduceAdd, Nat.reduceSub, List.nil_append, List.cons_append, List.getElem?_toArray, List.getElem?_cons_zero, List.getElem?_cons_succ, List.setIfInBounds_toArray, List.set_cons_zero, List.set_cons_succ, Option.map_some, List.not_mem_nil, ←decide_not, ks1]
        have C : Blk (w1.alloc (.cells #[i64 (vP (wat ws k)), i64 (vB (wat ws k)), .bool false, i64 (vT (wat ws k))] 92)) w1.heap.size 92 [i64 (vP (wat ws k)), i64 (vB (wat ws k)), .bool false, i64 (vT (wat ws k))] := Blk.at rfl
        have X1 : Ext [] w1 (w1.alloc (.cells #[i64 (vP (wat ws k)), i64 (vB (wat ws k)), .bool false, i64 (vT (wat ws k))] 92)) := Ext.alloc _ _ _
        have B2 := B1.ext X1 (by simp)
        have S2 := S1.ext0 X1
        refine loamref14_Size_call (Gives.to (rSizeW_spec hok _) fun w3 F3d => ?_)
        have F3 := (Ext.drew [] _).trans F3d
        have B3 := B2.ext F3 (by simp)
        have S3 := S2.ext0 F3
        have k3 := fun i => S3.blk.cell (i := i)
        have kb := fun i => B3.cell (i := i)
        have fb := fun i => B3.frozen (i := i)
        simp (disch := (first | omega | decide | (simp only [World.size_alloc, World.size_setCell, World.size_drew, size_sets, List.mem_cons, List.not_mem_nil, or_false, not_false_eq_true] <;> omega) | fail)) only [↓rsObjR_0, rsObjR_1, Option.isNone_some, Option.isNone_none, tick_eq, tickV_eq, ne_eq, Int.reduceAdd, Int.reduceSub, Int.reduceMul, Int.reduceEq, Int.reduceLT, Int.reduceLE, Int.reduceToNat, Nat.reduceMul, Nat.reduceAdd, Nat.reduceSub, List.nil_append, List.cons_append, List.getElem?_toArray, List.getElem?_cons_zero, List.getElem?_cons_succ, List.setIfInBounds_toArray, List.set_cons_zero, List.set_cons_succ, Option.map_some, List.not_mem_nil, ←decide_not, ks1, k3, kb, fb]
        exact ⟨by trivial, ((((X.trans (F1.trans (X1.trans F3))).set' (.inr (Nat.le_of_eq hhz))).set' (.inr (Nat.le_of_eq hhz))).set' (.inr (Nat.le_of_eq hhz))).set' (.inr (Nat.le_of_eq hhz))⟩
    · obtain ⟨e1, e2, e3, e4, e5⟩ := head_bad hi
      rw [e1, e2, e3, e4, e5] at hh
      refine loamref14_Space_Head_call (Gives.to hh fun w1 F1 => ?_)
      have B1 := B.ext F1 (by simp)
      have kb := fun i => B1.cell (i := i)
      have fb := fun i => B1.frozen (i := i)
      have z1 := B1.lt
      simp (disch := (first | omega | decide | (simp only [World.size_alloc, World.size_setCell, World.size_drew, size_sets, List.mem_cons, List.not_mem_nil, or_false, not_false_eq_true] <;> omega) | fail)) only [↓rsObjR_0, rsObjR_1, Option.isNone_some, Option.isNone_none, tick_eq, tickV_eq, ne_eq, Int.reduceAdd, Int.reduceSub, Int.reduceMul, Int.reduceEq, Int.reduceLT, Int.reduceLE, Int.reduceToNat, Nat.reduceMul, Nat.reduceAdd, Nat.reduceSub, List.nil_append, List.cons_append, List.getElem?_toArray, List.getElem?_cons_zero, List.getElem?_cons_succ, List.setIfInBounds_toArray, List.set_cons_zero, List.set_cons_succ, Option.map_some, List.not_mem_nil, ←decide_not, kb, fb]
      exact ⟨by trivial, (((((X.trans F1).set' (.inr (Nat.le_of_eq hhz))).set' (.inr (Nat.le_of_eq hhz))).set' (.inr (Nat.le_of_eq hhz))).set' (.inr (Nat.le_of_eq hhz))).trans (Ext.alloc _ _ _)⟩
  · rw [he]
    refine loamref14_Space_Head_call (Gives.to (rHead_out Sy h1) fun w1 F1 => ?_)
    have B1 := B.ext F1 (by simp)
    have kb := fun i => B1.cell (i := i)
    have fb := fun i => B1.frozen (i := i)
    have z1 := B1.lt
    simp (disch := (first | omega | decide | (simp only [World.size_alloc, World.size_setCell, World.size_drew, size_sets, List.mem_cons, List.not_mem_nil, or_false, not_false_eq_true] <;> omega) | fail)) only [↓rsObjR_0, rsObjR_1, Option.isNone_some, Option.isNone_none, tick_eq, tickV_eq, ne_eq, Int.reduceAdd, Int.reduceSub, Int.reduceMul, Int.reduceEq, Int.reduceLT, Int.reduceLE, Int.reduceToNat, Nat.reduceMul, Nat.reduceAdd, Nat.reduceSub, List.nil_append, List.cons_append, List.getElem?_toArray, List.getElem?_cons_zero, List.getElem?_cons_succ, List.setIfInBounds_toArray, List.set_cons_zero, List.set_cons_succ, Option.map_some, List.not_mem_nil, ←decide_not, kb, fb]
    exact ⟨by trivial, (((((X.trans F1).set' (.inr (Nat.le_of_eq hhz))).set' (.inr (Nat.le_of_eq hhz))).set' (.inr (Nat.le_of_eq hhz))).set' (.inr (Nat.le_of_eq hhz))).trans (Ext.alloc _ _ _)⟩
abbrev rsObjR_2 := (And.intro @xBox_r (And.intro @loadK_some (And.intro @loadsK_s (And.intro @loadsK_n (And.intro @loadsR_s (And.intro @loadsR_n (And.intro @storesK_s (And.intro @storesK_n (And.intro @xPick_t (And.intro @xPick_f (And.intro @xGuard_tt (And.intro @xGuard_ff (And.intro @xGuard_tf (And.intro @xGuard_ft (And.intro @xGuard_u 
  (And.intro @xNil_r (And.intro @xIf_t (And.intro @xBin_add' (And.intro @xBin_sub' (And.intro @xBin_mul' (And.intro @xBin_quo' (And.intro @xBin_rem' (And.intro @xIf_f (And.intro @xIf_tt (And.intro @xEx0 (And.intro @xEx1 (And.intro @xEx2 (And.intro @xEx3 (And.intro @xBin_eqs (And.intro @xBin_nes (And.intro @xUn_not (And.intro @xu8_lss (And.intro @xu8_geq 
  (And.intro @xu16_lss (And.intro @xu16_geq (And.intro @xu32_lss (And.intro @xu32_geq (And.intro @xu64_lss (And.intro @xu64_geq (And.intro @xi64_lss (And.intro @xi64_geq (And.intro @xMakeFunc_r (And.intro @xSq_r (And.intro @xPur_s (And.intro @xRd_s (And.intro @xRe_s (And.intro @xDet_s (And.intro @xDet_ld (And.intro @xDet_ld2 (And.intro @xDet_ld3 
  (And.intro @xDet_ld4 (And.intro @xGuard_tt (And.intro @ld_3 (And.intro @fa_48_1 @fa_48_2))))))))))))))))))))))))))))))))))))))))))))))))))))))
theorem rPlace_spec {o : Int} (S : RfIs w m r c ws b t e) : Gives Tryd.prog n_loamref14_Space_place #[ptr m, i64 o] w (.bool (decide ((b : Int) ≤ o ∧ o < t))) := by
  refine loamref14_Space_place_of ?_
  unfold loamref14_Space_place
  have k := fun i => S.blk.cell (i := i)
  by_cases g1 : (b : Int) ≤ o
  · by_cases g2 : o < (t : Int)
    · have hv : decide ((b : Int) ≤ o ∧ o < t) = true := decide_eq_true ⟨g1, g2⟩
      rw [hv]
      simp (disch := (first | omega | decide | (simp only [World.size_alloc, World.size_setCell, World.size_drew, size_sets, List.mem_cons, List.not_mem_nil, or_false, not_false_eq_true] <;> omega) | fail)) only [↓rsObjR_2, rsObjR_1, Option.isNone_some, Option.isNone_none, tick_eq, tickV_eq, ne_eq, Int.reduceAdd, Int.reduceSub, Int.reduceMul, Int.reduceEq, Int.reduceLT, Int.reduceLE, Int.reduceToNat, Nat.reduceMul, Nat.reduceAdd, Nat.reduceSub, List.nil_append, List.cons_append, List.getElem?_toArray, List.getElem?_cons_zero, List.getElem?_cons_succ, List.setIfInBounds_toArray, List.set_cons_zero, List.set_cons_succ, Option.map_some, List.not_mem_nil, ←decide_not, k]
      exact ⟨by trivial, by (repeat (first | with_reducible exact Ext.refl _ _ | with_reducible assumption | with_reducible refine Ext.alloc' ?_ _ | with_reducible refine Ext.drew' ?_ | with_reducible refine Ext.set' ?_ ?_ | exact .inr (by first | omega | (simp only [World.size_alloc, World.size_drew, World.size_setCell] <;> omega)) | refine Ext.trans ?_ (by with_reducible assumption)))⟩
    · have hv : decide ((b : Int) ≤ o ∧ o < t) = false := decide_eq_false (fun h => g2 h.2)
      rw [hv]
      simp (disch := (first | omega | decide | (simp only [World.size_alloc, World.size_setCell, World.size_drew, size_sets, List.mem_cons, List.not_mem_nil, or_false, not_false_eq_true] <;> omega) | fail)) only [↓rsObjR_2, rsObjR_1, Option.isNone_some, Option.isNone_none, tick_eq, tickV_eq, ne_eq, Int.reduceAdd, Int.reduceSub, Int.reduceMul, Int.reduceEq, Int.reduceLT, Int.reduceLE, Int.reduceToNat, Nat.reduceMul, Nat.reduceAdd, Nat.reduceSub, List.nil_append, List.cons_append, List.getElem?_toArray, List.getElem?_cons_zero, List.getElem?_cons_succ, List.setIfInBounds_toArray, List.set_cons_zero, List.set_cons_succ, Option.map_some, List.not_mem_nil, ←decide_not, k]
      exact ⟨by trivial, by (repeat (first | with_reducible exact Ext.refl _ _ | with_reducible assumption | with_reducible refine Ext.alloc' ?_ _ | with_reducible refine Ext.drew' ?_ | with_reducible refine Ext.set' ?_ ?_ | exact .inr (by first | omega | (simp only [World.size_alloc, World.size_drew, World.size_setCell] <;> omega)) | refine Ext.trans ?_ (by with_reducible assumption)))⟩
  · have hv : decide ((b : Int) ≤ o ∧ o < t) = false := decide_eq_false (fun h => g1 h.1)
    rw [hv]
    simp (disch := (first | omega | decide | (simp only [World.size_alloc, World.size_setCell, World.size_drew, size_sets, List.mem_cons, List.not_mem_nil, or_false, not_false_eq_true] <;> omega) | fail)) only [↓rsObjR_2, rsObjR_1, Option.isNone_some, Option.isNone_none, tick_eq, tickV_eq, ne_eq, Int.reduceAdd, Int.reduceSub, Int.reduceMul, Int.reduceEq, Int.reduceLT, Int.reduceLE, Int.reduceToNat, Nat.reduceMul, Nat.reduceAdd, Nat.reduceSub, List.nil_append, List.cons_append, List.getElem?_toArray, List.getElem?_cons_zero, List.getElem?_cons_succ, List.setIfInBounds_toArray, List.set_cons_zero, List.set_cons_succ, Option.map_some, List.not_mem_nil, ←decide_not, k]
    exact ⟨by trivial, by (repeat (first | with_reducible exact Ext.refl _ _ | with_reducible assumption | with_reducible refine Ext.alloc' ?_ _ | with_reducible refine Ext.drew' ?_ | with_reducible refine Ext.set' ?_ ?_ | exact .inr (by first | omega | (simp only [World.size_alloc, World.size_drew, World.size_setCell] <;> omega)) | refine Ext.trans ?_ (by with_reducible assumption)))⟩
abbrev rsObjR_3 := (And.intro @xBox_r (And.intro @loadK_some (And.intro @loadsK_s (And.intro @loadsK_n (And.intro @loadsR_s (And.intro @loadsR_n (And.intro @storesK_s (And.intro @storesK_n (And.intro @xPick_t (And.intro @xPick_f (And.intro @xGuard_tt (And.intro @xGuard_ff (And.intro @xGuard_tf (And.intro @xGuard_ft (And.intro @xGuard_u 
  (And.intro @xNil_r (And.intro @xIf_t (And.intro @xBin_add' (And.intro @xBin_sub' (And.intro @xBin_mul' (And.intro @xBin_quo' (And.intro @xBin_rem' (And.intro @xIf_f (And.intro @xIf_tt (And.intro @xEx0 (And.intro @xEx1 (And.intro @xEx2 (And.intro @xEx3 (And.intro @xBin_eqs (And.intro @xBin_nes (And.intro @xUn_not (And.intro @xu8_add (And.intro @xu8_sub 
  (And.intro @xu8_com (And.intro @xu8_eql (And.intro @xu8_neq (And.intro @xu8_lss (And.intro @xu8_geq (And.intro @xu16_add (And.intro @xu16_sub (And.intro @xu16_com (And.intro @xu16_eql (And.intro @xu16_neq (And.intro @xu16_lss (And.intro @xu16_geq (And.intro @xu32_add (And.intro @xu32_sub (And.intro @xu32_com (And.intro @xu32_eql (And.intro @xu32_neq 
  (And.intro @xu32_lss (And.intro @xu32_geq (And.intro @xu64_add (And.intro @xu64_sub (And.intro @xu64_com (And.intro @xu64_eql (And.intro @xu64_neq (And.intro @xu64_lss (And.intro @xu64_geq (And.intro @xi64_lss (And.intro @xi64_geq (And.intro @xi64_eql (And.intro @xi64_neq (And.intro @xi64_neg (And.intro @xMakeFunc_r (And.intro @xSq_r (And.intro @xPur_s 
  (And.intro @xRd_s (And.intro @xRe_s (And.intro @xDet_s (And.intro @xDet_ld (And.intro @xDet_ld2 (And.intro @xDet_ld3 (And.intro @xDet_ld4 (And.intro @xGuard_tt (And.intro @ld_3 (And.intro @ld_44 (And.intro @ld_69 (And.intro @fa_48_0 (And.intro @fa_92_0 (And.intro @al_92 (And.intro @st_92 (And.intro @cv_69_3 @ia_44)))))))))))))))))))))))))))))))))))))))))))))))))))))))))))))))))))))))))))))))))))
theorem rPtr_g (o i : Int) (S : RfIs w m r c ws b t e) : Gives Tryd.prog n_loamref14_Space_Ptr #[ptr m, i64 o, i64 i] w (.tuple #[i64 (ptrG ws b t o i).1, i64 (ptrG ws b t o i).2]) := by
  have q1 := S.te
  have q2 := S.el
  have q3 := S.len
  refine loamref14_Space_Ptr_of ?_
  unfold loamref14_Space_Ptr
  by_cases h : obE ws b t o = 0
  · obtain ⟨k, rfl, hO⟩ := obE_zero h
    obtain ⟨v1, v2, v3, v4, v5, v6, v7, v8⟩ := okW_v hO.ok
    have hhi := hO.hi
    refine loamref14_Space_object_call (Gives.to (rObj_ok S hO) fun w1 F1 => ?_)
    by_cases hi : i < 0 ∨ (pN (wat ws k) : Int) ≤ i
    · have e1 : ptrG ws b t (k : Int) i = (0, 1) := by unfold ptrG; rw [if_neg (by simp [h]), if_pos (by simpa using hi)]
      rw [e1]
      by_cases h0 : i < 0
      · simp (disch := (first | omega | decide | (simp only [World.size_alloc, World.size_setCell, World.size_drew, size_sets, List.mem_cons, List.not_mem_nil, or_false, not_false_eq_true] <;> omega) | fail)) only [↓rsObjR_3, rsObjR_1, Option.isNone_some, Option.isNone_none, tick_eq, tickV_eq, ne_eq, Int.reduceAdd, Int.reduceSub, Int.reduceMul, Int.reduceEq, Int.reduceLT, Int.reduceLE, Int.reduceToNat, Nat.reduceMul, Nat.reduceAdd, Nat.reduceSub, List.nil_append, List.cons_append, List.getElem?_toArray, List.getElem?_cons_zero, List.getElem?_cons_succ, List.setIfInBounds_toArray, List.set_cons_zero, List.set_cons_succ, Option.map_some, List.not_mem_nil, ←decide_not, eq_self]
        exact ⟨by trivial, F1.trans (Ext.alloc _ _ _)⟩
      · simp (disch := (first | omega | decide | (simp only [World.size_alloc, World.size_setCell, World.size_drew, size_sets, List.mem_cons, List.not_mem_nil, or_false, not_false_eq_true] <;> omega) | fail)) only [↓rsObjR_3, rsObjR_1, Option.isNone_some, Option.isNone_none, tick_eq, tickV_eq, ne_eq, Int.reduceAdd, Int.reduceSub, Int.reduceMul, Int.reduceEq, Int.reduceLT, Int.reduceLE, Int.reduceToNat, Nat.reduceMul, Nat.reduceAdd, Nat.reduceSub, List.nil_append, List.cons_append, List.getElem?_toArray, List.getElem?_cons_zero, List.getElem?_cons_succ, List.setIfInBounds_toArray, List.set_cons_zero, List.set_cons_succ, Option.map_some, List.not_mem_nil, ←decide_not, eq_self]
        exact ⟨by trivial, F1.trans (Ext.alloc _ _ _)⟩
    · obtain ⟨j, rfl⟩ := Int.eq_ofNat_of_zero_le (show 0 ≤ i by omega)
      have e1 : ptrG ws b t (k : Int) (j : Int) = ptrV b t (wat ws (k + 1 + j)) := by unfold ptrG; rw [if_neg (by simp [h]), if_neg (by simpa using hi)]; simp
      rw [e1]
      have X1 : Ext [] w1 (w1.alloc (.cells #[i64 (pN (wat ws k)), i64 (bN (wat ws k)), .bool false, i64 0] 92)) := Ext.alloc _ _ _
      have S1 := S.ext0 F1
      have Sy := S1.ext0 X1
      have ks := fun i => Sy.blk.cell (i := i)
      have ks1 := fun i => S1.blk.cell (i := i)
      have hi2 : k + 1 + j < ws.length := by omega
      have t1 : ((k : Int) + 1 + (j : Int)).toNat = k + 1 + j := by omega
      obtain ⟨b5, o5, rfl, z5, k5⟩ := S1.row.at (i := k + 1 + j) (by simpa using hi2)
      simp only [List.getElem_map] at k5
      have hv : ws[k + 1 + j] = wat ws (k + 1 + j) := by unfold wat; rw [List.getD_eq_getElem?_getD, List.getElem?_eq_getElem hi2]; rfl
      rw [hv] at k5
      have zs1 := S1.blk.lt
      generalize wat ws (k + 1 + j) = x at *
      have hx := x.isLt
      by_cases h0 : x.toNat = 0
      · have hx0 : x = BitVec.ofNat 64 0 := BitVec.eq_of_toNat_eq h0
        subst hx0
        simp (disch := (first | omega | decide | (simp only [World.size_alloc, World.size_setCell, World.size_drew, size_sets, List.mem_cons, List.not_mem_nil, or_false, not_false_eq_true] <;> omega) | fail)) only [↓rsObjR_3, rsObjR_1, Option.isNone_some, Option.isNone_none, tick_eq, tickV_eq, ne_eq, Int.reduceAdd, Int.reduceSub, Int.reduceMul, Int.reduceEq, Int.reduceLT, Int.reduceLE, Int.reduceToNat, Nat.reduceMul, Nat.reduceAdd, Nat.reduceSub, List.nil_append, List.cons_append, List.getElem?_toArray, List.getElem?_cons_zero, List.getElem?_cons_succ, List.setIfInBounds_toArray, List.set_cons_zero, List.set_cons_succ, Option.map_some, List.not_mem_nil, ←decide_not, ks1, t1, k5]
        exact ⟨by simp [ptrV], F1.trans X1⟩
      have hne : x ≠ BitVec.ofNat 64 0 := fun h => h0 (by rw [h]; rfl)
      have hs : (x - BitVec.ofNat 64 1).toNat = x.toNat - 1 := by
        rw [BitVec.toNat_sub]
        have : (BitVec.ofNat 64 1).toNat = 1 := by decide
        omega
      have h30 : (BitVec.ofNat 64 1073741824).toNat = 1073741824 := by decide
      by_cases h1 : x.toNat - 1 < 1073741824
      · have hlt : decide ((BitVec.ofNat 64 1073741824).toNat ≤ (x - BitVec.ofNat 64 1).toNat) = false := decide_eq_false (by omega)
        have hxi : (x - BitVec.ofNat 64 1).toInt = ((x.toNat - 1 : Nat) : Int) := by rw [BitVec.toInt_eq_toNat_of_lt (by omega), hs]
        simp (disch := (first | omega | decide | (simp only [World.size_alloc, World.size_setCell, World.size_drew, size_sets, List.mem_cons, List.not_mem_nil, or_false, not_false_eq_true] <;> omega) | fail)) only [↓rsObjR_3, rsObjR_1, Option.isNone_some, Option.isNone_none, tick_eq, tickV_eq, ne_eq, Int.reduceAdd, Int.reduceSub, Int.reduceMul, Int.reduceEq, Int.reduceLT, Int.reduceLE, Int.reduceToNat, Nat.reduceMul, Nat.reduceAdd, Nat.reduceSub, List.nil_append, List.cons_append, List.getElem?_toArray, List.getElem?_cons_zero, List.getElem?_cons_succ, List.setIfInBounds_toArray, List.set_cons_zero, List.set_cons_succ, Option.map_some, List.not_mem_nil, ←decide_not, ks1, t1, k5, decide_eq_false hne, hlt, hxi]
        refine loamref14_Space_place_call (Gives.to (rPlace_spec (o := ((x.toNat - 1 : Nat) : Int)) Sy) fun w3 F3 => ?_)
        by_cases h2 : b ≤ x.toNat - 1 ∧ x.toNat - 1 < t
        · rw [decide_eq_true (show (b : Int) ≤ ((x.toNat - 1 : Nat) : Int) ∧ ((x.toNat - 1 : Nat) : Int) < t by omega)]
          simp (disch := (first | omega | decide | (simp only [World.size_alloc, World.size_setCell, World.size_drew, size_sets, List.mem_cons, List.not_mem_nil, or_false, not_false_eq_true] <;> omega) | fail)) only [↓rsObjR_3, rsObjR_1, Option.isNone_some, Option.isNone_none, tick_eq, tickV_eq, ne_eq, Int.reduceAdd, Int.reduceSub, Int.reduceMul, Int.reduceEq, Int.reduceLT, Int.reduceLE, Int.reduceToNat, Nat.reduceMul, Nat.reduceAdd, Nat.reduceSub, List.nil_append, List.cons_append, List.getElem?_toArray, List.getElem?_cons_zero, List.getElem?_cons_succ, List.setIfInBounds_toArray, List.set_cons_zero, List.set_cons_succ, Option.map_some, List.not_mem_nil, ←decide_not, ks1, t1, k5, decide_eq_false hne, hlt, hxi]
          refine ⟨?_, F1.trans (X1.trans F3)⟩
          have e3 : ((x.toNat - 1 : Nat) : Int) = (x.toNat : Int) - 1 := by omega
          simp only [ptrV, if_neg h0, if_pos (show x.toNat ≤ 8192 ∧ b ≤ x.toNat - 1 ∧ x.toNat - 1 < t from ⟨by omega, h2⟩), e3]
        · rw [decide_eq_false (show ¬ ((b : Int) ≤ ((x.toNat - 1 : Nat) : Int) ∧ ((x.toNat - 1 : Nat) : Int) < t) by omega)]
          simp (disch := (first | omega | decide | (simp only [World.size_alloc, World.size_setCell, World.size_drew, size_sets, List.mem_cons, List.not_mem_nil, or_false, not_false_eq_true] <;> omega) | fail)) only [↓rsObjR_3, rsObjR_1, Option.isNone_some, Option.isNone_none, tick_eq, tickV_eq, ne_eq, Int.reduceAdd, Int.reduceSub, Int.reduceMul, Int.reduceEq, Int.reduceLT, Int.reduceLE, Int.reduceToNat, Nat.reduceMul, Nat.reduceAdd, Nat.reduceSub, List.nil_append, List.cons_append, List.getElem?_toArray, List.getElem?_cons_zero, List.getElem?_cons_succ, List.setIfInBounds_toArray, List.set_cons_zero, List.set_cons_succ, Option.map_some, List.not_mem_nil, ←decide_not, ks1, t1, k5, decide_eq_false hne, hlt, hxi]
          exact ⟨by simp only [ptrV, if_neg h0, if_neg (fun h : x.toNat ≤ 8192 ∧ b ≤ x.toNat - 1 ∧ x.toNat - 1 < t => h2 h.2)], F1.trans (X1.trans F3)⟩
      · have hlt : decide ((BitVec.ofNat 64 1073741824).toNat ≤ (x - BitVec.ofNat 64 1).toNat) = true := decide_eq_true (by omega)
        simp (disch := (first | omega | decide | (simp only [World.size_alloc, World.size_setCell, World.size_drew, size_sets, List.mem_cons, List.not_mem_nil, or_false, not_false_eq_true] <;> omega) | fail)) only [↓rsObjR_3, rsObjR_1, Option.isNone_some, Option.isNone_none, tick_eq, tickV_eq, ne_eq, Int.reduceAdd, Int.reduceSub, Int.reduceMul, Int.reduceEq, Int.reduceLT, Int.reduceLE, Int.reduceToNat, Nat.reduceMul, Nat.reduceAdd, Nat.reduceSub, List.nil_append, List.cons_append, List.getElem?_toArray, List.getElem?_cons_zero, List.getElem?_cons_succ, List.setIfInBounds_toArray, List.set_cons_zero, List.set_cons_succ, Option.map_some, List.not_mem_nil, ←decide_not, ks1, t1, k5, decide_eq_false hne, hlt]
        exact ⟨by simp only [ptrV, if_neg h0, if_neg (fun h : x.toNat ≤ 8192 ∧ b ≤ x.toNat - 1 ∧ x.toNat - 1 < t => by omega)], F1.trans X1⟩
  · have e1 : ptrG ws b t o i = (0, obE ws b t o) := by unfold ptrG; rw [if_pos h]
    rw [e1]
    have hw := rObj_bad S h
    generalize hee : obE ws b t o = er at *
    refine loamref14_Space_object_call (Gives.to hw fun w1 F1 => ?_)
    simp (disch := (first | omega | decide | (simp only [World.size_alloc, World.size_setCell, World.size_drew, size_sets, List.mem_cons, List.not_mem_nil, or_false, not_false_eq_true] <;> omega) | fail)) only [↓rsObjR_3, rsObjR_1, Option.isNone_some, Option.isNone_none, tick_eq, tickV_eq, ne_eq, Int.reduceAdd, Int.reduceSub, Int.reduceMul, Int.reduceEq, Int.reduceLT, Int.reduceLE, Int.reduceToNat, Nat.reduceMul, Nat.reduceAdd, Nat.reduceSub, List.nil_append, List.cons_append, List.getElem?_toArray, List.getElem?_cons_zero, List.getElem?_cons_succ, List.setIfInBounds_toArray, List.set_cons_zero, List.set_cons_succ, Option.map_some, List.not_mem_nil, ←decide_not, eq_self]
    exact ⟨by trivial, by (repeat (first | with_reducible exact Ext.refl _ _ | with_reducible assumption | with_reducible refine Ext.alloc' ?_ _ | with_reducible refine Ext.drew' ?_ | with_reducible refine Ext.set' ?_ ?_ | exact .inr (by first | omega | (simp only [World.size_alloc, World.size_drew, World.size_setCell] <;> omega)) | refine Ext.trans ?_ (by with_reducible assumption)))⟩
/-- what a call may leave of the document's space -/
def RStep (w w' : World) (m : Nat) (r : Option Addr) (ws : List (BitVec 64)) (b t e : Nat) : Prop := Ext [m] w w' ∧ ∃ r' c', RfIs w' m r' c' ws b t e ∧ ∀ x ∈ blkOf r', x ∈ blkOf r ∨ w.heap.size ≤ x
theorem RStep.same {w' : World} (S : RfIs w m r c ws b t e) (F : Ext [] w w') : RStep w w' m r ws b t e := ⟨F.more (by simp), r, c, S.ext0 F, fun x hx => .inl hx⟩
theorem RStep.own {w1 w' : World} {v : Value} {ws' : List (BitVec 64)} (S : RfIs w1 m r c ws b t e) (F : Ext [] w w1) (O : OwnU w1 v ws') (hU : ∀ x ∈ blk v, w.heap.size ≤ x) (hm : m < w.heap.size) (hlen : ws'.length = ws.length) (hw : w' = w1.setCell ⟨m, 0, none⟩ v) : RStep w w' m r ws' b t e := by
  subst hw
  obtain ⟨a2, c2, rfl, hc2, _, hn2, hr2, _⟩ := O.slice
  have M := S.blk.set (i := 0) (v := .slice a2 ws'.length c2)
  have X : Ext [m] w1 (w1.setCell ⟨m, 0, none⟩ (.slice a2 ws'.length c2)) := Ext.set (w := w1) (b := m)
  have R := hr2.ext X (fun z o hz hm2 => by
    have := hU z (by subst hz; simp [blk, Value.ownBlock])
    simp only [List.mem_singleton] at hm2
    omega)
  refine ⟨(F.more (by simp)).set' (.inl (by simp)), a2, c2, ⟨M, R, hc2, hn2, fun _ hx => ?_, by have := S.len; omega, S.bt, S.te, by have := S.el; omega⟩, fun x hx => ?_⟩
  · rw [blkOf_eq (n := ws'.length) (c := c2)] at hx
    have := hU _ hx
    omega
  · rw [blkOf_eq (n := ws'.length) (c := c2)] at hx
    exact .inr (hU _ hx)
abbrev rsObjR_4 := (And.intro @xBox_r (And.intro @loadK_some (And.intro @loadsK_s (And.intro @loadsK_n (And.intro @loadsR_s (And.intro @loadsR_n (And.intro @storesK_s (And.intro @storesK_n (And.intro @xPick_t (And.intro @xPick_f (And.intro @xGuard_tt (And.intro @xGuard_ff (And.intro @xGuard_tf (And.intro @xGuard_ft (And.intro @xGuard_u 
  (And.intro @xNil_r (And.intro @xIf_t (And.intro @xBin_add' (And.intro @xBin_sub' (And.intro @xBin_mul' (And.intro @xBin_quo' (And.intro @xBin_rem' (And.intro @xIf_f (And.intro @xIf_tt (And.intro @xEx0 (And.intro @xEx1 (And.intro @xEx2 (And.intro @xEx3 (And.intro @xBin_eqs (And.intro @xBin_nes (And.intro @xUn_not (And.intro @xu8_add (And.intro @xu8_com 
  (And.intro @xu8_neq (And.intro @xu8_lss (And.intro @xu8_geq (And.intro @xu16_add (And.intro @xu16_com (And.intro @xu16_neq (And.intro @xu16_lss (And.intro @xu16_geq (And.intro @xu32_add (And.intro @xu32_com (And.intro @xu32_neq (And.intro @xu32_lss (And.intro @xu32_geq (And.intro @xu64_add (And.intro @xu64_com (And.intro @xu64_neq (And.intro @xu64_lss 
  (And.intro @xu64_geq (And.intro @xi64_lss (And.intro @xi64_geq (And.intro @xi64_neq (And.intro @xi64_neg (And.intro @xMakeFunc_r (And.intro @xSq_r (And.intro @xPur_s (And.intro @xRd_s (And.intro @xRe_s (And.intro @xDet_s (And.intro @xDet_ld (And.intro @xDet_ld2 (And.intro @xDet_ld3 (And.intro @xDet_ld4 (And.intro @xGuard_tt (And.intro @ld_3 (And.intro @ld_44 
  (And.intro @fa_48_0 (And.intro @fa_92_0 (And.intro @al_92 (And.intro @st_44 (And.intro @st_69 (And.intro @st_92 (And.intro @cv_3_69 (And.intro @ia_44 @bs_44_0))))))))))))))))))))))))))))))))))))))))))))))))))))))))))))))))))))))))))))
theorem rSetPtr_g (o i to : Int) (S : RfIs w m r c ws b t e) : Yld Tryd.prog n_loamref14_Space_SetPtr #[ptr m, i64 o, i64 i, i64 to] w fun u w' => u = i64 (setE ws b t o i to) ∧ RStep w w' m r (setG ws b t o i to) b t e := by
  have q1 := S.te
  have q2 := S.el
  have q3 := S.len
  have zm := S.blk.lt
  refine loamref14_Space_SetPtr_of ?_
  unfold loamref14_Space_SetPtr
  by_cases h : obE ws b t o = 0
  · obtain ⟨k, rfl, hO⟩ := obE_zero h
    obtain ⟨v1, v2, v3, v4, v5, v6, v7, v8⟩ := okW_v hO.ok
    have hhi := hO.hi
    refine loamref14_Space_object_call (Gives.to (rObj_ok S hO) fun w1 F1 => ?_)
    by_cases hi : i < 0 ∨ (pN (wat ws k) : Int) ≤ i
    · have e1 : setE ws b t (k : Int) i to = 1 := by unfold setE; rw [if_neg (by simp [h]), if_pos (.inl (by simpa using hi))]
      have e2 : setG ws b t (k : Int) i to = ws := by unfold setG; rw [e1]; rfl
      rw [e1, e2]
      by_cases h0 : i < 0
      · simp (disch := (first | omega | decide | (simp only [World.size_alloc, World.size_setCell, World.size_drew, size_sets, List.mem_cons, List.not_mem_nil, or_false, not_false_eq_true] <;> omega) | fail)) only [↓rsObjR_4, rsObjR_1, Option.isNone_some, Option.isNone_none, tick_eq, tickV_eq, ne_eq, Int.reduceAdd, Int.reduceSub, Int.reduceMul, Int.reduceEq, Int.reduceLT, Int.reduceLE, Int.reduceToNat, Nat.reduceMul, Nat.reduceAdd, Nat.reduceSub, List.nil_append, List.cons_append, List.getElem?_toArray, List.getElem?_cons_zero, List.getElem?_cons_succ, List.setIfInBounds_toArray, List.set_cons_zero, List.set_cons_succ, Option.map_some, List.not_mem_nil, ←decide_not, eq_self]
        exact ⟨by trivial, RStep.same S (F1.trans (Ext.alloc _ _ _))⟩
      · simp (disch := (first | omega | decide | (simp only [World.size_alloc, World.size_setCell, World.size_drew, size_sets, List.mem_cons, List.not_mem_nil, or_false, not_false_eq_true] <;> omega) | fail)) only [↓rsObjR_4, rsObjR_1, Option.isNone_some, Option.isNone_none, tick_eq, tickV_eq, ne_eq, Int.reduceAdd, Int.reduceSub, Int.reduceMul, Int.reduceEq, Int.reduceLT, Int.reduceLE, Int.reduceToNat, Nat.reduceMul, Nat.reduceAdd, Nat.reduceSub, List.nil_append, List.cons_append, List.getElem?_toArray, List.getElem?_cons_zero, List.getElem?_cons_succ, List.setIfInBounds_toArray, List.set_cons_zero, List.set_cons_succ, Option.map_some, List.not_mem_nil, ←decide_not, eq_self]
        exact ⟨by trivial, RStep.same S (F1.trans (Ext.alloc _ _ _))⟩
    · obtain ⟨j, rfl⟩ := Int.eq_ofNat_of_zero_le (show 0 ≤ i by omega)
      have X1 : Ext [] w1 (w1.alloc (.cells #[i64 (pN (wat ws k)), i64 (bN (wat ws k)), .bool false, i64 0] 92)) := Ext.alloc _ _ _
      have Sy := (S.ext0 F1).ext0 X1
      have Xy := F1.trans X1
      by_cases hto : to = -1 ∨ ((b : Int) ≤ to ∧ to < t)
      · have e1 : setE ws b t (k : Int) (j : Int) to = 0 := by unfold setE; rw [if_neg (by simp [h]), if_neg (by simp only [Int.toNat_natCast]; rintro (h1 | h1); exact hi h1; exact h1 hto)]
        have e2 : setG ws b t (k : Int) (j : Int) to = ws.set (k + 1 + j) (BitVec.ofInt 64 (to + 1)) := by unfold setG; rw [if_pos e1]; simp
        rw [e1, e2]
        have hi2 : k + 1 + j < ws.length := by omega
        have t1 : ((k : Int) + 1 + (j : Int)).toNat = k + 1 + j := by omega
        have fin : ∀ (y w' : World) (v : Value), Ext [] w y → OwnU y v ws → (∀ x ∈ blk v, w.heap.size ≤ x) → ∃ g cap, v = .slice (some ⟨g, 0, none⟩) ws.length cap ∧ y.frozen? ⟨g, k + 1 + j, none⟩ = false ∧ (∃ x, y.cell? ⟨g, k + 1 + j, none⟩ = some (u64 x)) ∧ (∀ i, (y.setCell ⟨g, k + 1 + j, none⟩ (u64 (BitVec.ofInt 64 (to + 1)))).cell? ⟨m, i, none⟩ = (rfC r ws.length c b t e)[i]?) ∧ (∀ i, (y.setCell ⟨g, k + 1 + j, none⟩ (u64 (BitVec.ofInt 64 (to + 1)))).frozen? ⟨m, i, none⟩ = false) ∧
            RStep w ((y.setCell ⟨g, k + 1 + j, none⟩ (u64 (BitVec.ofInt 64 (to + 1)))).setCell ⟨m, 0, none⟩ (.slice (some ⟨g, 0, none⟩) ws.length cap)) m r (ws.set (k + 1 + j) (BitVec.ofInt 64 (to + 1))) b t e := by
          intro y w' v Xy O U
          obtain ⟨g, cap, rfl, c1, f1, O2, X2, zg⟩ := O.at hi2 (BitVec.ofInt 64 (to + 1))
          have ug := U g (by simp [blk, Value.ownBlock])
          have S2 := (S.ext0 Xy).ext X2 (by simp [blk, Value.ownBlock]; omega) (fun hw x hx hx2 => by
            simp only [blk, Value.ownBlock, Option.map_some, Option.toList_some, List.mem_singleton] at hx2
            obtain ⟨b9, o9, h9, z9, _⟩ := S.row.get (by simpa using hw)
            subst h9
            simp only [blkOf, List.mem_singleton] at hx
            omega)
          have X3 : Ext [] w (y.setCell ⟨g, k + 1 + j, none⟩ (u64 (BitVec.ofInt 64 (to + 1)))) := Xy.set' (.inr ug)
          refine ⟨g, cap, rfl, f1, ⟨_, c1⟩, fun i => S2.blk.cell, fun i => S2.blk.frozen, ?_⟩
          exact RStep.own S2 X3 O2 U zm (by simp) (by simp)
        by_cases hm : to = -1
        · subst hm
          have ky := fun i => (Sy.ext0 (Ext.alloc [] _ (.cells #[] 69))).blk.cell (i := i)
          simp (disch := (first | omega | decide | (simp only [World.size_alloc, World.size_setCell, World.size_drew, size_sets, List.mem_cons, List.not_mem_nil, or_false, not_false_eq_true] <;> omega) | fail)) only [↓rsObjR_4, rsObjR_1, Option.isNone_some, Option.isNone_none, tick_eq, tickV_eq, ne_eq, Int.reduceAdd, Int.reduceSub, Int.reduceMul, Int.reduceEq, Int.reduceLT, Int.reduceLE, Int.reduceToNat, Nat.reduceMul, Nat.reduceAdd, Nat.reduceSub, List.nil_append, List.cons_append, List.getElem?_toArray, List.getElem?_cons_zero, List.getElem?_cons_succ, List.setIfInBounds_toArray, List.set_cons_zero, List.set_cons_succ, Option.map_some, List.not_mem_nil, ←decide_not, ky]
          refine appUn Sy.row Sy.nil Sy.cap (by omega) fun v3 w3 O3 F3 U3 => ?_
          have zz := Xy.size
          obtain ⟨g, cap, rfl, f1, ⟨x, c1⟩, km, fm, hR⟩ := fin w3 w3 v3 (Xy.trans F3) O3 (fun x hx => Nat.le_trans zz (U3 x hx))
          rw [show (-1 : Int) + 1 = 0 by decide] at km fm hR ⊢
          simp (disch := (first | omega | decide | (simp only [World.size_alloc, World.size_setCell, World.size_drew, size_sets, List.mem_cons, List.not_mem_nil, or_false, not_false_eq_true] <;> omega) | fail)) only [↓rsObjR_4, rsObjR_1, Option.isNone_some, Option.isNone_none, tick_eq, tickV_eq, ne_eq, Int.reduceAdd, Int.reduceSub, Int.reduceMul, Int.reduceEq, Int.reduceLT, Int.reduceLE, Int.reduceToNat, Nat.reduceMul, Nat.reduceAdd, Nat.reduceSub, List.nil_append, List.cons_append, List.getElem?_toArray, List.getElem?_cons_zero, List.getElem?_cons_succ, List.setIfInBounds_toArray, List.set_cons_zero, List.set_cons_succ, Option.map_some, List.not_mem_nil, ←decide_not, ky, t1, c1, f1, km, fm]
          exact ⟨by trivial, hR⟩
        · have hin : decide ((b : Int) ≤ to ∧ to < t) = true := decide_eq_true (by omega)
          have hm2 : ¬ to = -1 := hm
          simp (disch := (first | omega | decide | (simp only [World.size_alloc, World.size_setCell, World.size_drew, size_sets, List.mem_cons, List.not_mem_nil, or_false, not_false_eq_true] <;> omega) | fail)) only [↓rsObjR_4, rsObjR_1, Option.isNone_some, Option.isNone_none, tick_eq, tickV_eq, ne_eq, Int.reduceAdd, Int.reduceSub, Int.reduceMul, Int.reduceEq, Int.reduceLT, Int.reduceLE, Int.reduceToNat, Nat.reduceMul, Nat.reduceAdd, Nat.reduceSub, List.nil_append, List.cons_append, List.getElem?_toArray, List.getElem?_cons_zero, List.getElem?_cons_succ, List.setIfInBounds_toArray, List.set_cons_zero, List.set_cons_succ, Option.map_some, List.not_mem_nil, ←decide_not, eq_self]
          generalize w1.alloc (.cells #[i64 (pN (wat ws k)), i64 (bN (wat ws k)), .bool false, i64 0] 92) = y at *
          refine loamref14_Space_place_call (Gives.to (rPlace_spec (o := to) Sy) fun w2 F2 => ?_)
          rw [hin]
          have S2 := Sy.ext0 F2
          have ky := fun i => (S2.ext0 (Ext.alloc [] _ (.cells #[] 69))).blk.cell (i := i)
          simp (disch := (first | omega | decide | (simp only [World.size_alloc, World.size_setCell, World.size_drew, size_sets, List.mem_cons, List.not_mem_nil, or_false, not_false_eq_true] <;> omega) | fail)) only [↓rsObjR_4, rsObjR_1, Option.isNone_some, Option.isNone_none, tick_eq, tickV_eq, ne_eq, Int.reduceAdd, Int.reduceSub, Int.reduceMul, Int.reduceEq, Int.reduceLT, Int.reduceLE, Int.reduceToNat, Nat.reduceMul, Nat.reduceAdd, Nat.reduceSub, List.nil_append, List.cons_append, List.getElem?_toArray, List.getElem?_cons_zero, List.getElem?_cons_succ, List.setIfInBounds_toArray, List.set_cons_zero, List.set_cons_succ, Option.map_some, List.not_mem_nil, ←decide_not, ky]
          refine appUn S2.row S2.nil S2.cap (by omega) fun v3 w3 O3 F3 U3 => ?_
          have zz := (Xy.trans F2).size
          obtain ⟨g, cap, rfl, f1, ⟨x, c1⟩, km, fm, hR⟩ := fin w3 w3 v3 ((Xy.trans F2).trans F3) O3 (fun x hx => Nat.le_trans zz (U3 x hx))
          simp (disch := (first | omega | decide | (simp only [World.size_alloc, World.size_setCell, World.size_drew, size_sets, List.mem_cons, List.not_mem_nil, or_false, not_false_eq_true] <;> omega) | fail)) only [↓rsObjR_4, rsObjR_1, Option.isNone_some, Option.isNone_none, tick_eq, tickV_eq, ne_eq, Int.reduceAdd, Int.reduceSub, Int.reduceMul, Int.reduceEq, Int.reduceLT, Int.reduceLE, Int.reduceToNat, Nat.reduceMul, Nat.reduceAdd, Nat.reduceSub, List.nil_append, List.cons_append, List.getElem?_toArray, List.getElem?_cons_zero, List.getElem?_cons_succ, List.setIfInBounds_toArray, List.set_cons_zero, List.set_cons_succ, Option.map_some, List.not_mem_nil, ←decide_not, ky, t1, c1, f1, km, fm]
          exact ⟨by trivial, hR⟩
      · have e1 : setE ws b t (k : Int) (j : Int) to = 1 := by unfold setE; rw [if_neg (by simp [h]), if_pos (.inr hto)]
        have e2 : setG ws b t (k : Int) (j : Int) to = ws := by unfold setG; rw [e1]; rfl
        rw [e1, e2]
        have hin : decide ((b : Int) ≤ to ∧ to < t) = false := decide_eq_false (fun h => hto (.inr h))
        have hne : ¬ to = -1 := fun h => hto (.inl h)
        simp (disch := (first | omega | decide | (simp only [World.size_alloc, World.size_setCell, World.size_drew, size_sets, List.mem_cons, List.not_mem_nil, or_false, not_false_eq_true] <;> omega) | fail)) only [↓rsObjR_4, rsObjR_1, Option.isNone_some, Option.isNone_none, tick_eq, tickV_eq, ne_eq, Int.reduceAdd, Int.reduceSub, Int.reduceMul, Int.reduceEq, Int.reduceLT, Int.reduceLE, Int.reduceToNat, Nat.reduceMul, Nat.reduceAdd, Nat.reduceSub, List.nil_append, List.cons_append, List.getElem?_toArray, List.getElem?_cons_zero, List.getElem?_cons_succ, List.setIfInBounds_toArray, List.set_cons_zero, List.set_cons_succ, Option.map_some, List.not_mem_nil, ←decide_not, eq_self]
        generalize w1.alloc (.cells #[i64 (pN (wat ws k)), i64 (bN (wat ws k)), .bool false, i64 0] 92) = y at *
        refine loamref14_Space_place_call (Gives.to (rPlace_spec (o := to) Sy) fun w2 F2 => ?_)
        rw [hin]
        simp (disch := (first | omega | decide | (simp only [World.size_alloc, World.size_setCell, World.size_drew, size_sets, List.mem_cons, List.not_mem_nil, or_false, not_false_eq_true] <;> omega) | fail)) only [↓rsObjR_4, rsObjR_1, Option.isNone_some, Option.isNone_none, tick_eq, tickV_eq, ne_eq, Int.reduceAdd, Int.reduceSub, Int.reduceMul, Int.reduceEq, Int.reduceLT, Int.reduceLE, Int.reduceToNat, Nat.reduceMul, Nat.reduceAdd, Nat.reduceSub, List.nil_append, List.cons_append, List.getElem?_toArray, List.getElem?_cons_zero, List.getElem?_cons_succ, List.setIfInBounds_toArray, List.set_cons_zero, List.set_cons_succ, Option.map_some, List.not_mem_nil, ←decide_not, eq_self]
        exact ⟨by trivial, RStep.same S (Xy.trans F2)⟩
  · have e1 : setE ws b t o i to = obE ws b t o := by unfold setE; rw [if_pos h]
    have e2 : setG ws b t o i to = ws := by unfold setG; rw [e1, if_neg h]
    rw [e1, e2]
    have hw := rObj_bad S h
    generalize hee : obE ws b t o = er at *
    refine loamref14_Space_object_call (Gives.to hw fun w1 F1 => ?_)
    simp (disch := (first | omega | decide | (simp only [World.size_alloc, World.size_setCell, World.size_drew, size_sets, List.mem_cons, List.not_mem_nil, or_false, not_false_eq_true] <;> omega) | fail)) only [↓rsObjR_4, rsObjR_1, Option.isNone_some, Option.isNone_none, tick_eq, tickV_eq, ne_eq, Int.reduceAdd, Int.reduceSub, Int.reduceMul, Int.reduceEq, Int.reduceLT, Int.reduceLE, Int.reduceToNat, Nat.reduceMul, Nat.reduceAdd, Nat.reduceSub, List.nil_append, List.cons_append, List.getElem?_toArray, List.getElem?_cons_zero, List.getElem?_cons_succ, List.setIfInBounds_toArray, List.set_cons_zero, List.set_cons_succ, Option.map_some, List.not_mem_nil, ←decide_not, eq_self]
    exact ⟨by trivial, RStep.same S (F1.trans (Ext.alloc _ _ _))⟩
end
end Go.Proofs.YtknineilpenbnaaDoor
set_option maxHeartbeats 4000000
namespace Go.Proofs.YtknineilpenbnaaDoor
open Go.Sh Go.RowKit

section
variable {w : World} {m : Nat} {r : Option Addr} {c : Nat} {ws : List (BitVec 64)} {b t e : Nat}
abbrev rsObjS_0 := (And.intro @xBox_r (And.intro @loadK_some (And.intro @loadsK_s (And.intro @loadsK_n (And.intro @loadsR_s (And.intro @loadsR_n (And.intro @storesK_s (And.intro @storesK_n (And.intro @xPick_t (And.intro @xPick_f (And.intro @xGuard_tt (And.intro @xGuard_ff (And.intro @xGuard_tf (And.intro @xGuard_ft (And.intro @xGuard_u 
  (And.intro @xNil_r (And.intro @xIf_t (And.intro @xBin_add' (And.intro @xBin_sub' (And.intro @xBin_mul' (And.intro @xBin_quo' (And.intro @xBin_rem' (And.intro @xIf_f (And.intro @xIf_tt (And.intro @xEx0 (And.intro @xEx1 (And.intro @xEx2 (And.intro @xEx3 (And.intro @xBin_eqs (And.intro @xBin_nes (And.intro @xUn_not (And.intro @xu8_add (And.intro @xu8_sub 
  (And.intro @xu8_mul (And.intro @xu8_neq (And.intro @xu8_lss (And.intro @xu8_gtr (And.intro @xu16_add (And.intro @xu16_sub (And.intro @xu16_mul (And.intro @xu16_neq (And.intro @xu16_lss (And.intro @xu16_gtr (And.intro @xu32_add (And.intro @xu32_sub (And.intro @xu32_mul (And.intro @xu32_neq (And.intro @xu32_lss (And.intro @xu32_gtr (And.intro @xu64_add 
  (And.intro @xu64_sub (And.intro @xu64_mul (And.intro @xu64_neq (And.intro @xu64_lss (And.intro @xu64_gtr (And.intro @xi64_lss (And.intro @xi64_gtr (And.intro @xi64_neq (And.intro @xi64_neg (And.intro @xMakeFunc_r (And.intro @xSq_r (And.intro @xPur_s (And.intro @xRd_s (And.intro @xRe_s (And.intro @xDet_s (And.intro @xDet_ld (And.intro @xDet_ld2 
  (And.intro @xDet_ld3 (And.intro @xDet_ld4 (And.intro @xGuard_tt (And.intro @ld_3 (And.intro @ld_44 (And.intro @fa_48_0 (And.intro @fa_92_0 (And.intro @fa_92_1 (And.intro @al_92 @st_92))))))))))))))))))))))))))))))))))))))))))))))))))))))))))))))))))))))))))))
abbrev rsObjS_1 := (And.intro @setCells_c (And.intro @setCells_n (And.intro @World.setCell_alloc_at (And.intro @World.setCell_alloc_past (And.intro @World.cell?_alloc_at (And.intro @World.cell?_alloc_past (And.intro @World.frozen?_alloc_at (And.intro @World.frozen?_alloc_past 
  (And.intro @World.size_alloc (And.intro @dlt_t (And.intro @dlt_f (And.intro @dle_t (And.intro @dle_f (And.intro @deq_t (And.intro @deq_f (And.intro @dne_t (And.intro @dne_f (And.intro @not_true_eq_false (And.intro @Bool.false_and (And.intro @Bool.true_and (And.intro @Bool.and_true (And.intro @Bool.and_false (And.intro @wrap_in (And.intro @Int.toNat_natCast 
  (And.intro @Nat.mul_one (And.intro @cells_int (And.intro @cells_bool (And.intro @cells_string (And.intro @cells_slice (And.intro @cells_pointer (And.intro @cells_agg (And.intro @one_int (And.intro @one_bool (And.intro @one_string (And.intro @one_slice (And.intro @one_pointer (And.intro @beq_tt (And.intro @beq_ff (And.intro @beq_tf 
  (And.intro @beq_ft (And.intro @cell_sets_b (And.intro @frozen_sets (And.intro @size_sets (And.intro @World.size_drew (And.intro @Nat.zero_add (And.intro @Nat.add_zero (And.intro @cell_drew (And.intro @frozen_drew (And.intro @cell_set_eq (And.intro @cell_set_o (And.intro @cell_set_b (And.intro @World.frozen?_setCell 
  (And.intro @decide_true (And.intro @decide_false (And.intro @not_false_eq_true (And.intro @Bool.not_true @Bool.not_false))))))))))))))))))))))))))))))))))))))))))))))))))))))))
theorem rRead_g (o f n : Int) (S : RfIs w m r c ws b t e) : Yld Tryd.prog n_loamref14_Space_Read #[ptr m, i64 o, i64 f, i64 n] w fun u w' => Ext [] w w' ∧ ∃ a2 c2, u = .tuple #[.slice a2 (rdG ws b t o f n).length c2, i64 (rdE ws b t o f n)] ∧ RowAt w' a2 (bys (rdG ws b t o f n)) := by
  have q1 := S.te
  have q2 := S.el
  have q3 := S.len
  refine loamref14_Space_Read_of ?_
  unfold loamref14_Space_Read
  by_cases h : obE ws b t o = 0
  · obtain ⟨k, rfl, hO⟩ := obE_zero h
    obtain ⟨v1, v2, v3, v4, v5, v6, v7, v8⟩ := okW_v hO.ok
    have hhi := hO.hi
    have e0 : rdE ws b t (k : Int) f n = if f < 0 ∨ n < 0 ∨ (bN (wat ws k) : Int) < f + n then 1 else 0 := by unfold rdE; rw [if_neg (by simp [h])]; simp
    refine loamref14_Space_object_call (Gives.to (rObj_ok S hO) fun w1 F1 => ?_)
    have X1 : Ext [] w1 (w1.alloc (.cells #[i64 (pN (wat ws k)), i64 (bN (wat ws k)), .bool false, i64 0] 92)) := Ext.alloc _ _ _
    by_cases h2 : f < 0 ∨ n < 0 ∨ (bN (wat ws k) : Int) < f + n
    · rw [if_pos h2] at e0
      have e1 : rdG ws b t (k : Int) f n = [] := by unfold rdG; rw [e0]; rfl
      rw [e0, e1]
      by_cases g1 : f < 0
      · simp (disch := (first | omega | decide | (simp only [World.size_alloc, World.size_setCell, World.size_drew, size_sets, List.mem_cons, List.not_mem_nil, or_false, not_false_eq_true] <;> omega) | fail)) only [↓rsObjS_0, rsObjS_1, Option.isNone_some, Option.isNone_none, tick_eq, tickV_eq, ne_eq, Int.reduceAdd, Int.reduceSub, Int.reduceMul, Int.reduceEq, Int.reduceLT, Int.reduceLE, Int.reduceToNat, Nat.reduceMul, Nat.reduceAdd, Nat.reduceSub, List.nil_append, List.cons_append, List.getElem?_toArray, List.getElem?_cons_zero, List.getElem?_cons_succ, List.setIfInBounds_toArray, List.set_cons_zero, List.set_cons_succ, Option.map_some, List.not_mem_nil, ←decide_not, eq_self]
        exact ⟨F1.trans X1, none, 0, by trivial, RowAt.nil⟩
      by_cases g2 : n < 0
      · simp (disch := (first | omega | decide | (simp only [World.size_alloc, World.size_setCell, World.size_drew, size_sets, List.mem_cons, List.not_mem_nil, or_false, not_false_eq_true] <;> omega) | fail)) only [↓rsObjS_0, rsObjS_1, Option.isNone_some, Option.isNone_none, tick_eq, tickV_eq, ne_eq, Int.reduceAdd, Int.reduceSub, Int.reduceMul, Int.reduceEq, Int.reduceLT, Int.reduceLE, Int.reduceToNat, Nat.reduceMul, Nat.reduceAdd, Nat.reduceSub, List.nil_append, List.cons_append, List.getElem?_toArray, List.getElem?_cons_zero, List.getElem?_cons_succ, List.setIfInBounds_toArray, List.set_cons_zero, List.set_cons_succ, Option.map_some, List.not_mem_nil, ←decide_not, eq_self]
        exact ⟨F1.trans X1, none, 0, by trivial, RowAt.nil⟩
      by_cases g3 : (bN (wat ws k) : Int) < f
      · simp (disch := (first | omega | decide | (simp only [World.size_alloc, World.size_setCell, World.size_drew, size_sets, List.mem_cons, List.not_mem_nil, or_false, not_false_eq_true] <;> omega) | fail)) only [↓rsObjS_0, rsObjS_1, Option.isNone_some, Option.isNone_none, tick_eq, tickV_eq, ne_eq, Int.reduceAdd, Int.reduceSub, Int.reduceMul, Int.reduceEq, Int.reduceLT, Int.reduceLE, Int.reduceToNat, Nat.reduceMul, Nat.reduceAdd, Nat.reduceSub, List.nil_append, List.cons_append, List.getElem?_toArray, List.getElem?_cons_zero, List.getElem?_cons_succ, List.setIfInBounds_toArray, List.set_cons_zero, List.set_cons_succ, Option.map_some, List.not_mem_nil, ←decide_not, eq_self]
        exact ⟨F1.trans X1, none, 0, by trivial, RowAt.nil⟩
      have g4 : (bN (wat ws k) : Int) - f < n := by omega
      simp (disch := (first | omega | decide | (simp only [World.size_alloc, World.size_setCell, World.size_drew, size_sets, List.mem_cons, List.not_mem_nil, or_false, not_false_eq_true] <;> omega) | fail)) only [↓rsObjS_0, rsObjS_1, Option.isNone_some, Option.isNone_none, tick_eq, tickV_eq, ne_eq, Int.reduceAdd, Int.reduceSub, Int.reduceMul, Int.reduceEq, Int.reduceLT, Int.reduceLE, Int.reduceToNat, Nat.reduceMul, Nat.reduceAdd, Nat.reduceSub, List.nil_append, List.cons_append, List.getElem?_toArray, List.getElem?_cons_zero, List.getElem?_cons_succ, List.setIfInBounds_toArray, List.set_cons_zero, List.set_cons_succ, Option.map_some, List.not_mem_nil, ←decide_not, eq_self]
      exact ⟨F1.trans X1, none, 0, by trivial, RowAt.nil⟩
    · rw [if_neg h2] at e0
      obtain ⟨i, rfl⟩ := Int.eq_ofNat_of_zero_le (show 0 ≤ f by omega)
      obtain ⟨n', rfl⟩ := Int.eq_ofNat_of_zero_le (show 0 ≤ n by omega)
      have e1 : rdG ws b t (k : Int) (i : Int) (n' : Int) = bytesW ws ((k + 1 + pN (wat ws k)) * 8 + i) n' := by unfold rdG; rw [if_pos e0]; simp [rdA]
      rw [e0, e1]
      have B : Blk (w1.alloc (.cells #[i64 (pN (wat ws k)), i64 (bN (wat ws k)), .bool false, i64 0] 92)) w1.heap.size 92 [i64 (pN (wat ws k)), i64 (bN (wat ws k)), .bool false, i64 0] := Blk.at rfl
      have Sy := (S.ext0 F1).ext0 X1
      have Sd := Sy.ext0 (Ext.drew [] _)
      have ks := fun i => Sy.blk.cell (i := i)
      have ks1 := fun i => (S.ext0 F1).blk.cell (i := i)
      have zs1 := (S.ext0 F1).blk.lt
      have e3 : 8 * ((k : Int) + 1 + (pN (wat ws k) : Int)) + (i : Int) = (((k + 1 + pN (wat ws k)) * 8 + i : Nat) : Int) := by omega
      simp (disch := (first | omega | decide | (simp only [World.size_alloc, World.size_setCell, World.size_drew, size_sets, List.mem_cons, List.not_mem_nil, or_false, not_false_eq_true] <;> omega) | fail)) only [↓rsObjS_0, rsObjS_1, Option.isNone_some, Option.isNone_none, tick_eq, tickV_eq, ne_eq, Int.reduceAdd, Int.reduceSub, Int.reduceMul, Int.reduceEq, Int.reduceLT, Int.reduceLE, Int.reduceToNat, Nat.reduceMul, Nat.reduceAdd, Nat.reduceSub, List.nil_append, List.cons_append, List.getElem?_toArray, List.getElem?_cons_zero, List.getElem?_cons_succ, List.setIfInBounds_toArray, List.set_cons_zero, List.set_cons_succ, Option.map_some, List.not_mem_nil, ←decide_not, ks1, e3]
      refine loamref14_Bytes_call (Yld.mono (rBytes_spec ws r c ((k + 1 + pN (wat ws k)) * 8 + i) n' Sd.row (by omega) (by omega)) ?_)
      rintro u w3 N
      obtain ⟨a2, c2, rfl, hc2, _, hn2, hr2, _⟩ := N.2.1.slice
      simp (disch := (first | omega | decide | (simp only [World.size_alloc, World.size_setCell, World.size_drew, size_sets, List.mem_cons, List.not_mem_nil, or_false, not_false_eq_true] <;> omega) | fail)) only [↓rsObjS_0, rsObjS_1, Option.isNone_some, Option.isNone_none, tick_eq, tickV_eq, ne_eq, Int.reduceAdd, Int.reduceSub, Int.reduceMul, Int.reduceEq, Int.reduceLT, Int.reduceLE, Int.reduceToNat, Nat.reduceMul, Nat.reduceAdd, Nat.reduceSub, List.nil_append, List.cons_append, List.getElem?_toArray, List.getElem?_cons_zero, List.getElem?_cons_succ, List.setIfInBounds_toArray, List.set_cons_zero, List.set_cons_succ, Option.map_some, List.not_mem_nil, ←decide_not, ks1, e3]
      exact ⟨F1.trans (X1.trans ((Ext.drew [] _).trans N.1)), a2, c2, by trivial, hr2⟩
  · have e0 : rdE ws b t o f n = obE ws b t o := by unfold rdE; rw [if_pos h]
    have e1 : rdG ws b t o f n = [] := by unfold rdG; rw [e0, if_neg h]
    rw [e0, e1]
    have hw := rObj_bad S h
    generalize hee : obE ws b t o = er at *
    refine loamref14_Space_object_call (Gives.to hw fun w1 F1 => ?_)
    simp (disch := (first | omega | decide | (simp only [World.size_alloc, World.size_setCell, World.size_drew, size_sets, List.mem_cons, List.not_mem_nil, or_false, not_false_eq_true] <;> omega) | fail)) only [↓rsObjS_0, rsObjS_1, Option.isNone_some, Option.isNone_none, tick_eq, tickV_eq, ne_eq, Int.reduceAdd, Int.reduceSub, Int.reduceMul, Int.reduceEq, Int.reduceLT, Int.reduceLE, Int.reduceToNat, Nat.reduceMul, Nat.reduceAdd, Nat.reduceSub, List.nil_append, List.cons_append, List.getElem?_toArray, List.getElem?_cons_zero, List.getElem?_cons_succ, List.setIfInBounds_toArray, List.set_cons_zero, List.set_cons_succ, Option.map_some, List.not_mem_nil, ←decide_not, eq_self]
    exact ⟨F1.trans (Ext.alloc _ _ _), none, 0, by trivial, RowAt.nil⟩
abbrev rsObjS_2 := (And.intro @xBox_r (And.intro @loadK_some (And.intro @loadsK_s (And.intro @loadsK_n (And.intro @loadsR_s (And.intro @loadsR_n (And.intro @storesK_s (And.intro @storesK_n (And.intro @xPick_t (And.intro @xPick_f (And.intro @xGuard_tt (And.intro @xGuard_ff (And.intro @xGuard_tf (And.intro @xGuard_ft (And.intro @xGuard_u 
  (And.intro @xNil_r (And.intro @xIf_t (And.intro @xBin_add' (And.intro @xBin_sub' (And.intro @xBin_mul' (And.intro @xBin_quo' (And.intro @xBin_rem' (And.intro @xIf_f (And.intro @xIf_tt (And.intro @xEx0 (And.intro @xEx1 (And.intro @xEx2 (And.intro @xEx3 (And.intro @xBin_eqs (And.intro @xBin_nes (And.intro @xUn_not (And.intro @xu8_add (And.intro @xu8_sub 
  (And.intro @xu8_mul (And.intro @xu8_neq (And.intro @xu8_lss (And.intro @xu8_gtr (And.intro @xu16_add (And.intro @xu16_sub (And.intro @xu16_mul (And.intro @xu16_neq (And.intro @xu16_lss (And.intro @xu16_gtr (And.intro @xu32_add (And.intro @xu32_sub (And.intro @xu32_mul (And.intro @xu32_neq (And.intro @xu32_lss (And.intro @xu32_gtr (And.intro @xu64_add 
  (And.intro @xu64_sub (And.intro @xu64_mul (And.intro @xu64_neq (And.intro @xu64_lss (And.intro @xu64_gtr (And.intro @xi64_lss (And.intro @xi64_gtr (And.intro @xi64_neq (And.intro @xi64_neg (And.intro @xMakeFunc_r (And.intro @xSq_r (And.intro @xPur_s (And.intro @xRd_s (And.intro @xRe_s (And.intro @xDet_s (And.intro @xDet_ld (And.intro @xDet_ld2 
  (And.intro @xDet_ld3 (And.intro @xDet_ld4 (And.intro @xGuard_tt (And.intro @ld_3 (And.intro @ld_44 (And.intro @fa_48_0 (And.intro @fa_92_0 (And.intro @fa_92_1 (And.intro @al_92 (And.intro @st_44 (And.intro @st_92 @ln_22))))))))))))))))))))))))))))))))))))))))))))))))))))))))))))))))))))))))))))))
theorem rWrite_g (o f : Int) (l : List (BitVec 8)) (ab : Option Addr) (cb : Nat) (S : RfIs w m r c ws b t e) (hb : RowAt w ab (bys l)) (hl : l.length ≤ 1000000) : Yld Tryd.prog n_loamref14_Space_Write #[ptr m, i64 o, i64 f, .slice ab l.length cb] w fun u w' => u = i64 (rdE ws b t o f l.length) ∧ RStep w w' m r (wrG ws b t o f l) b t e := by
  have q1 := S.te
  have q2 := S.el
  have q3 := S.len
  have zm := S.blk.lt
  refine loamref14_Space_Write_of ?_
  unfold loamref14_Space_Write
  by_cases h : obE ws b t o = 0
  · obtain ⟨k, rfl, hO⟩ := obE_zero h
    obtain ⟨v1, v2, v3, v4, v5, v6, v7, v8⟩ := okW_v hO.ok
    have hhi := hO.hi
    have e0 : rdE ws b t (k : Int) f l.length = if f < 0 ∨ (l.length : Int) < 0 ∨ (bN (wat ws k) : Int) < f + l.length then 1 else 0 := by unfold rdE; rw [if_neg (by simp [h])]; simp
    refine loamref14_Space_object_call (Gives.to (rObj_ok S hO) fun w1 F1 => ?_)
    have X1 : Ext [] w1 (w1.alloc (.cells #[i64 (pN (wat ws k)), i64 (bN (wat ws k)), .bool false, i64 0] 92)) := Ext.alloc _ _ _
    by_cases h2 : f < 0 ∨ (l.length : Int) < 0 ∨ (bN (wat ws k) : Int) < f + l.length
    · rw [if_pos h2] at e0
      have e1 : wrG ws b t (k : Int) f l = ws := by unfold wrG; rw [e0]; rfl
      rw [e0, e1]
      by_cases g1 : f < 0
      · simp (disch := (first | omega | decide | (simp only [World.size_alloc, World.size_setCell, World.size_drew, size_sets, List.mem_cons, List.not_mem_nil, or_false, not_false_eq_true] <;> omega) | fail)) only [↓rsObjS_2, rsObjS_1, Option.isNone_some, Option.isNone_none, tick_eq, tickV_eq, ne_eq, Int.reduceAdd, Int.reduceSub, Int.reduceMul, Int.reduceEq, Int.reduceLT, Int.reduceLE, Int.reduceToNat, Nat.reduceMul, Nat.reduceAdd, Nat.reduceSub, List.nil_append, List.cons_append, List.getElem?_toArray, List.getElem?_cons_zero, List.getElem?_cons_succ, List.setIfInBounds_toArray, List.set_cons_zero, List.set_cons_succ, Option.map_some, List.not_mem_nil, ←decide_not, eq_self]
        exact ⟨by trivial, RStep.same S (F1.trans X1)⟩
      by_cases g3 : (bN (wat ws k) : Int) < f
      · simp (disch := (first | omega | decide | (simp only [World.size_alloc, World.size_setCell, World.size_drew, size_sets, List.mem_cons, List.not_mem_nil, or_false, not_false_eq_true] <;> omega) | fail)) only [↓rsObjS_2, rsObjS_1, Option.isNone_some, Option.isNone_none, tick_eq, tickV_eq, ne_eq, Int.reduceAdd, Int.reduceSub, Int.reduceMul, Int.reduceEq, Int.reduceLT, Int.reduceLE, Int.reduceToNat, Nat.reduceMul, Nat.reduceAdd, Nat.reduceSub, List.nil_append, List.cons_append, List.getElem?_toArray, List.getElem?_cons_zero, List.getElem?_cons_succ, List.setIfInBounds_toArray, List.set_cons_zero, List.set_cons_succ, Option.map_some, List.not_mem_nil, ←decide_not, eq_self]
        exact ⟨by trivial, RStep.same S (F1.trans X1)⟩
      have g4 : (bN (wat ws k) : Int) - f < l.length := by omega
      simp (disch := (first | omega | decide | (simp only [World.size_alloc, World.size_setCell, World.size_drew, size_sets, List.mem_cons, List.not_mem_nil, or_false, not_false_eq_true] <;> omega) | fail)) only [↓rsObjS_2, rsObjS_1, Option.isNone_some, Option.isNone_none, tick_eq, tickV_eq, ne_eq, Int.reduceAdd, Int.reduceSub, Int.reduceMul, Int.reduceEq, Int.reduceLT, Int.reduceLE, Int.reduceToNat, Nat.reduceMul, Nat.reduceAdd, Nat.reduceSub, List.nil_append, List.cons_append, List.getElem?_toArray, List.getElem?_cons_zero, List.getElem?_cons_succ, List.setIfInBounds_toArray, List.set_cons_zero, List.set_cons_succ, Option.map_some, List.not_mem_nil, ←decide_not, eq_self]
      exact ⟨by trivial, RStep.same S (F1.trans X1)⟩
    · rw [if_neg h2] at e0
      obtain ⟨i, rfl⟩ := Int.eq_ofNat_of_zero_le (show 0 ≤ f by omega)
      have e1 : wrG ws b t (k : Int) (i : Int) l = setBytesW ws ((k + 1 + pN (wat ws k)) * 8 + i) l := by unfold wrG; rw [if_pos e0]; simp [rdA]
      rw [e0, e1]
      have B : Blk (w1.alloc (.cells #[i64 (pN (wat ws k)), i64 (bN (wat ws k)), .bool false, i64 0] 92)) w1.heap.size 92 [i64 (pN (wat ws k)), i64 (bN (wat ws k)), .bool false, i64 0] := Blk.at rfl
      have Sy := (S.ext0 F1).ext0 X1
      have Sd := Sy.ext0 (Ext.drew [] _)
      have ks := fun i => Sy.blk.cell (i := i)
      have ks1 := fun i => (S.ext0 F1).blk.cell (i := i)
      have zs1 := (S.ext0 F1).blk.lt
      have e3 : 8 * ((k : Int) + 1 + (pN (wat ws k) : Int)) + (i : Int) = (((k + 1 + pN (wat ws k)) * 8 + i : Nat) : Int) := by omega
      have hbd := ((hb.ext0 F1).ext0 X1).ext0 (Ext.drew [] _)
      simp (disch := (first | omega | decide | (simp only [World.size_alloc, World.size_setCell, World.size_drew, size_sets, List.mem_cons, List.not_mem_nil, or_false, not_false_eq_true] <;> omega) | fail)) only [↓rsObjS_2, rsObjS_1, Option.isNone_some, Option.isNone_none, tick_eq, tickV_eq, ne_eq, Int.reduceAdd, Int.reduceSub, Int.reduceMul, Int.reduceEq, Int.reduceLT, Int.reduceLE, Int.reduceToNat, Nat.reduceMul, Nat.reduceAdd, Nat.reduceSub, List.nil_append, List.cons_append, List.getElem?_toArray, List.getElem?_cons_zero, List.getElem?_cons_succ, List.setIfInBounds_toArray, List.set_cons_zero, List.set_cons_succ, Option.map_some, List.not_mem_nil, ←decide_not, ks1, e3]
      refine loamref14_SetBytes_call (Yld.mono (rSetBytes_spec ws r c ((k + 1 + pN (wat ws k)) * 8 + i) l ab cb Sd.row Sd.nil Sd.cap (by omega) hbd (by omega)) ?_)
      rintro u w3 ⟨F3, O3, U3⟩
      have X3 := F1.trans (X1.trans ((Ext.drew [] _).trans F3))
      have S3 := Sd.ext0 F3
      have km := fun i => S3.blk.cell (i := i)
      have fm := fun i => S3.blk.frozen (i := i)
      have zz := (F1.trans (X1.trans (Ext.drew [] _))).size
      have hO3 := O3
      obtain ⟨a2, c2, rfl, hc2, _, hn2, hr2, _⟩ := hO3.slice
      simp (disch := (first | omega | decide | (simp only [World.size_alloc, World.size_setCell, World.size_drew, size_sets, List.mem_cons, List.not_mem_nil, or_false, not_false_eq_true] <;> omega) | fail)) only [↓rsObjS_2, rsObjS_1, Option.isNone_some, Option.isNone_none, tick_eq, tickV_eq, ne_eq, Int.reduceAdd, Int.reduceSub, Int.reduceMul, Int.reduceEq, Int.reduceLT, Int.reduceLE, Int.reduceToNat, Nat.reduceMul, Nat.reduceAdd, Nat.reduceSub, List.nil_append, List.cons_append, List.getElem?_toArray, List.getElem?_cons_zero, List.getElem?_cons_succ, List.setIfInBounds_toArray, List.set_cons_zero, List.set_cons_succ, Option.map_some, List.not_mem_nil, ←decide_not, ks1, e3, km, fm]
      exact ⟨by trivial, RStep.own S3 X3 O3 (fun x hx => Nat.le_trans zz (U3 x hx)) zm (by rw [setBytesW_length]) rfl⟩
  · have e0 : rdE ws b t o f l.length = obE ws b t o := by unfold rdE; rw [if_pos h]
    have e1 : wrG ws b t o f l = ws := by unfold wrG; rw [e0, if_neg h]
    rw [e0, e1]
    have hw := rObj_bad S h
    generalize hee : obE ws b t o = er at *
    refine loamref14_Space_object_call (Gives.to hw fun w1 F1 => ?_)
    simp (disch := (first | omega | decide | (simp only [World.size_alloc, World.size_setCell, World.size_drew, size_sets, List.mem_cons, List.not_mem_nil, or_false, not_false_eq_true] <;> omega) | fail)) only [↓rsObjS_2, rsObjS_1, Option.isNone_some, Option.isNone_none, tick_eq, tickV_eq, ne_eq, Int.reduceAdd, Int.reduceSub, Int.reduceMul, Int.reduceEq, Int.reduceLT, Int.reduceLE, Int.reduceToNat, Nat.reduceMul, Nat.reduceAdd, Nat.reduceSub, List.nil_append, List.cons_append, List.getElem?_toArray, List.getElem?_cons_zero, List.getElem?_cons_succ, List.setIfInBounds_toArray, List.set_cons_zero, List.set_cons_succ, Option.map_some, List.not_mem_nil, ←decide_not, eq_self]
    exact ⟨by trivial, RStep.same S (F1.trans (Ext.alloc _ _ _))⟩
end
end Go.Proofs.YtknineilpenbnaaDoor
set_option maxHeartbeats 4000000
namespace Go.Proofs.YtknineilpenbnaaDoor
open Go.Sh Go.RowKit

/-- the table of powers of ten, laid -/
def Tab (w : World) : Prop := Lib.TabIs Tryd.prog w "internal/strconv.uint64pow10" .u64 Lib.pow10Tab
theorem Tab.ext {w w' : World} (h : Tab w) (hx : Ext [] w w') : Tab w' := by
  unfold Tab Lib.TabIs World.var? at h ⊢
  cases hg : (Tryd.prog).globalNamed "internal/strconv.uint64pow10" with
  | none => simp [hg] at h
  | some g =>
    simp only [hg, Option.bind_some] at h ⊢
    have hlt : g < w.heap.size := by
      rcases Nat.lt_or_ge g w.heap.size with h' | h'
      · exact h'
      · rw [Array.getElem?_eq_none h'] at h; cases h
    rw [hx.block g hlt (by simp)]
    exact h
/-- a number's digits -/
def dB (n : Nat) : List (BitVec 8) := (Lib.decDigits n).map UInt8.toBitVec
theorem strOf_dB (n : Nat) : strOf (dB n) = ⟨(Lib.decDigits n).toArray⟩ := by
  unfold strOf dB
  rw [List.map_map]
  congr 2
  exact (List.map_congr_left (g := id) fun x _ => rfl).trans (List.map_id _)
theorem dB_small {n : Nat} (h : n < 10) : dB n = [BitVec.ofNat 8 (48 + n)] := by
  unfold dB
  rw [Lib.decDigits, dif_pos h]
  rfl
theorem dB_big {n : Nat} (h : ¬ n < 10) : dB n = dB (n / 10) ++ [BitVec.ofNat 8 (48 + n % 10)] := by
  unfold dB
  rw [Lib.decDigits, dif_neg h, List.map_append]
  rfl
theorem dB_len : ∀ (k n : Nat), n < 10 ^ (k + 1) → (dB n).length ≤ k + 1
  | 0, n, h => by rw [dB_small (by simpa using h)]; simp
  | k + 1, n, h => by
    by_cases h1 : n < 10
    · rw [dB_small h1]; simp
    · rw [dB_big h1, List.length_append]
      have := dB_len k (n / 10) (by rw [Nat.pow_succ] at h; omega)
      simp only [List.length_cons, List.length_nil]
      omega
theorem grow_ext (w : World) (k : Nat) (os : Array Obj) : Ext [] w (Go.Sort.grow (w.drewN k) os) :=
  ⟨rfl, rfl, rfl, by simp [Go.Sort.grow], fun j hj _ => by simp only [Go.Sort.grow]; exact Array.getElem?_append_left hj⟩
theorem itoa_g (n : Nat) (hn : n < 10000) (w : World) (ht : Tab w) : Gives Tryd.prog 55 #[i64 (n : Int)] w (.string (strOf (dB n))) := by
  refine Calls.mono (Tryd.strconv_Itoa (n : Int) (by omega) (by omega) w ht) ?_
  rintro e w' ⟨rfl, k, os, rfl⟩
  refine ⟨_, rfl, ?_, grow_ext w k os⟩
  rw [strOf_dB]
  unfold Lib.itoa
  rw [if_neg (by omega)]
  rfl
theorem strOf_append (a b : List (BitVec 8)) : strOf a ++ strOf b = strOf (a ++ b) := by
  apply ByteArray.ext
  simp [strOf, ByteArray.data_append]
theorem addB {cx cy : Bool} (a b : List (BitVec 8)) (hs : a.length + b.length ≤ 1000000) (w : World) (K : K1) : xBin Tryd.prog .add 9 cx (.string (strOf a)) cy (.string (strOf b)) w K = K (.string (strOf (a ++ b))) w :=
  addS (strOf_append a b) (by rw [strOf_size, strOf_size]; exact hs)
abbrev B8 (m : List (BitVec 8)) : List UInt8 := m.map UInt8.ofBitVec
theorem cells_B8 (m : List (BitVec 8)) : Lib.byteCells (B8 m) = bys m := by
  simp [Lib.byteCells, bys, B8]
theorem wstrB {w0 w : World} {b : Nat} {m s : List (BitVec 8)} (h : BldIs w0 w b (B8 m)) (hl : m.length + s.length ≤ 1000000) : Yld Tryd.prog 54 #[ptr b, .string (strOf s)] w fun u w' => BldU w0 w' b (B8 (m ++ s)) := by
  refine Yld.mono (wstr_spec h (by rw [strOf_size]; simpa using hl)) ?_
  intro u w' h'
  have e : (strOf s).data.toList = B8 s := by simp [strOf]
  rw [e, ← List.map_append] at h'
  exact h'
def hexL : List (BitVec 8) := [48#8, 49#8, 50#8, 51#8, 52#8, 53#8, 54#8, 55#8, 56#8, 57#8, 97#8, 98#8, 99#8, 100#8, 101#8, 102#8]
def hexH (x : BitVec 8) : BitVec 8 := hexL.getD x.toNat 0#8
theorem digit_at (x : BitVec 8) (hx : x.toNat < 16) (w : World) (K : K1) : xIndex Tryd.prog 9 (.string { data := #[48, 49, 50, 51, 52, 53, 54, 55, 56, 57, 97, 98, 99, 100, 101, 102] }) (u8 x) w K = K (u8 (hexH x)) w := by
  have hc : x.toNat = 0 ∨ x.toNat = 1 ∨ x.toNat = 2 ∨ x.toNat = 3 ∨ x.toNat = 4 ∨ x.toNat = 5 ∨ x.toNat = 6 ∨ x.toNat = 7 ∨ x.toNat = 8 ∨ x.toNat = 9 ∨ x.toNat = 10 ∨ x.toNat = 11 ∨ x.toNat = 12 ∨ x.toNat = 13 ∨ x.toNat = 14 ∨ x.toNat = 15 := by omega
  have key : ∀ i, i < 16 → x.toNat = i → x = BitVec.ofNat 8 i := fun i hi h => BitVec.eq_of_toNat_eq (by rw [h, BitVec.toNat_ofNat]; omega)
  rcases hc with h | h | h | h | h | h | h | h | h | h | h | h | h | h | h | h <;>
    (have := key _ (by decide) h; subst this; exact xIndex_ok (by kernel_rfl))
theorem hi_lt (x : BitVec 8) : (x >>> (BitVec.ofNat 64 4).toNat).toNat < 16 := by
  have := x.isLt
  rw [show (BitVec.ofNat 64 4).toNat = 4 by decide, BitVec.toNat_ushiftRight, Nat.shiftRight_eq_div_pow]
  omega
theorem lo_lt (x : BitVec 8) : (x &&& BitVec.ofNat 8 15).toNat < 16 := by
  rw [BitVec.toNat_and, show (BitVec.ofNat 8 15).toNat = 2 ^ 4 - 1 by decide, Nat.and_two_pow_sub_one_eq_mod]
  omega
def hex2 (x : BitVec 8) : List (BitVec 8) := [hexH (x >>> (BitVec.ofNat 64 4).toNat), hexH (x &&& BitVec.ofNat 8 15)]
def hexB (l : List (BitVec 8)) : List (BitVec 8) := l.flatMap hex2
theorem hexB_len (l : List (BitVec 8)) : (hexB l).length = 2 * l.length := by
  induction l with
  | nil => rfl
  | cons x l ih => unfold hexB at *; rw [List.flatMap_cons, List.length_append, ih, List.length_cons]; simp [hex2]; omega
theorem hexB_succ {l : List (BitVec 8)} {j : Nat} (hj : j < l.length) : hexB (l.take (j + 1)) = hexB (l.take j) ++ hex2 l[j] := by
  unfold hexB
  rw [List.take_add_one, List.getElem?_eq_getElem hj, List.flatMap_append]
  simp
def ptB (x : Int) : List (BitVec 8) := if x = -1 then [32#8, 45#8] else 32#8 :: dB x.toNat
def ptsB (ws : List (BitVec 64)) (b t o : Nat) : Nat → List (BitVec 8)
  | 0 => []
  | k + 1 => ptsB ws b t o k ++ ptB (ptrV b t (wat ws (o + 1 + k))).1
def headB (p b : Nat) : List (BitVec 8) := dB p ++ [32#8] ++ dB b ++ [58#8]
def tailB (l : List (BitVec 8)) : List (BitVec 8) := if l = [] then [] else 32#8 :: hexB l
def bodyB (ws : List (BitVec 64)) (b t o : Nat) : List (BitVec 8) := headB (pN (wat ws o)) (bN (wat ws o)) ++ ptsB ws b t o (pN (wat ws o)) ++ tailB (bytesW ws ((o + 1 + pN (wat ws o)) * 8 + 0) (bN (wat ws o)))
def PtrsOk (ws : List (BitVec 64)) (b t o : Nat) : Prop := ∀ i, i < pN (wat ws o) → (ptrV b t (wat ws (o + 1 + i))).2 = 0
def argB : List (BitVec 8) := [97#8, 114#8, 103#8]
def formB : List (BitVec 8) := [102#8, 111#8, 114#8, 109#8]
def TextIs (ws : List (BitVec 64)) (b t : Nat) (o : Int) (l : List (BitVec 8)) : Prop :=
  (obE ws b t o = 1 ∧ l = argB) ∨ (obE ws b t o = 2 ∧ l = formB) ∨ (obE ws b t o = 0 ∧ ¬ PtrsOk ws b t o.toNat ∧ l = formB) ∨ (obE ws b t o = 0 ∧ PtrsOk ws b t o.toNat ∧ l = bodyB ws b t o.toNat)
theorem TextIs.eq {ws : List (BitVec 64)} {b t : Nat} {o : Int} {l l' : List (BitVec 8)} (h : TextIs ws b t o l) (h' : TextIs ws b t o l') : l = l' := by
  rcases h with ⟨h1, rfl⟩ | ⟨h1, rfl⟩ | ⟨h1, h2, rfl⟩ | ⟨h1, h2, rfl⟩ <;> rcases h' with ⟨h3, rfl⟩ | ⟨h3, rfl⟩ | ⟨h3, h4, rfl⟩ | ⟨h3, h4, rfl⟩ <;> first | rfl | (exact absurd h2 h4) | (exact absurd h4 h2) | (rw [h1] at h3; cases h3; done)
theorem ptrV_cases (b t : Nat) (x : BitVec 64) : (ptrV b t x = (-1, 0)) ∨ (∃ q : Nat, q < 8192 ∧ ptrV b t x = ((q : Int), 0)) ∨ ptrV b t x = (0, 2) := by
  unfold ptrV
  by_cases h0 : x.toNat = 0
  · exact .inl (if_pos h0)
  · by_cases h1 : x.toNat ≤ 8192 ∧ b ≤ x.toNat - 1 ∧ x.toNat - 1 < t
    · refine .inr (.inl ⟨x.toNat - 1, by omega, ?_⟩)
      rw [if_neg h0, if_pos h1]
      congr 1
      omega
    · exact .inr (.inr (by rw [if_neg h0, if_neg h1]))
theorem ptB_len (b t : Nat) (x : BitVec 64) : (ptB (ptrV b t x).1).length ≤ 5 := by
  rcases ptrV_cases b t x with h | ⟨q, hq, h⟩ | h
  · rw [h]; decide
  · rw [h]
    unfold ptB
    rw [if_neg (by simp only; omega)]
    have := dB_len 3 q (by omega)
    simpa using this
  · rw [h]
    have := dB_len 3 0 (by omega)
    simpa [ptB] using this
theorem ptsB_len (ws : List (BitVec 64)) (b t o : Nat) : ∀ k, (ptsB ws b t o k).length ≤ 5 * k
  | 0 => by simp [ptsB]
  | k + 1 => by
    have := ptsB_len ws b t o k
    have := ptB_len b t (wat ws (o + 1 + k))
    rw [ptsB, List.length_append]
    omega
theorem headB_len {p b : Nat} (hp : p ≤ 64) (hb : b ≤ 1024) : (headB p b).length ≤ 10 := by
  have := dB_len 3 p (by omega)
  have := dB_len 3 b (by omega)
  simp only [headB, List.length_append, List.length_cons, List.length_nil]
  omega
abbrev rsObjT_0 := (And.intro @xBox_r (And.intro @loadK_some (And.intro @loadsK_s (And.intro @loadsK_n (And.intro @loadsR_s (And.intro @loadsR_n (And.intro @storesK_s (And.intro @storesK_n (And.intro @xPick_t (And.intro @xPick_f (And.intro @xGuard_tt (And.intro @xGuard_ff (And.intro @xGuard_tf (And.intro @xGuard_ft (And.intro @xGuard_u 
  (And.intro @xNil_r (And.intro @xIf_t (And.intro @xBin_add' (And.intro @xBin_sub' (And.intro @xBin_mul' (And.intro @xBin_quo' (And.intro @xBin_rem' (And.intro @xIf_f (And.intro @xIf_tt (And.intro @xEx0 (And.intro @xEx1 (And.intro @xEx2 (And.intro @xEx3 (And.intro @xBin_eqs (And.intro @xBin_nes (And.intro @xUn_not (And.intro @xu8_eql (And.intro @xu16_eql 
  (And.intro @xu32_eql (And.intro @xu64_eql (And.intro @xi64_eql (And.intro @xMakeFunc_r (And.intro @xSq_r (And.intro @xPur_s (And.intro @xRd_s (And.intro @xRe_s (And.intro @xDet_s (And.intro @xDet_ld (And.intro @xDet_ld2 (And.intro @xDet_ld3 (And.intro @xDet_ld4 @xGuard_tt))))))))))))))))))))))))))))))))))))))))))))))
abbrev rsObjT_1 := (And.intro @setCells_c (And.intro @setCells_n (And.intro @World.setCell_alloc_at (And.intro @World.setCell_alloc_past (And.intro @World.cell?_alloc_at (And.intro @World.cell?_alloc_past (And.intro @World.frozen?_alloc_at (And.intro @World.frozen?_alloc_past 
  (And.intro @World.size_alloc (And.intro @dlt_t (And.intro @dlt_f (And.intro @dle_t (And.intro @dle_f (And.intro @deq_t (And.intro @deq_f (And.intro @dne_t (And.intro @dne_f (And.intro @not_true_eq_false (And.intro @Bool.false_and (And.intro @Bool.true_and (And.intro @Bool.and_true (And.intro @Bool.and_false (And.intro @wrap_in (And.intro @Int.toNat_natCast 
  (And.intro @Nat.mul_one (And.intro @cells_int (And.intro @cells_bool (And.intro @cells_string (And.intro @cells_slice (And.intro @cells_pointer (And.intro @cells_agg (And.intro @one_int (And.intro @one_bool (And.intro @one_string (And.intro @one_slice (And.intro @one_pointer (And.intro @beq_tt (And.intro @beq_ff (And.intro @beq_tf 
  (And.intro @beq_ft (And.intro @cell_sets_b (And.intro @frozen_sets (And.intro @size_sets (And.intro @World.size_drew (And.intro @Nat.zero_add (And.intro @Nat.add_zero (And.intro @cell_drew (And.intro @frozen_drew (And.intro @cell_set_eq (And.intro @cell_set_o (And.intro @cell_set_b (And.intro @World.frozen?_setCell 
  (And.intro @decide_true (And.intro @decide_false (And.intro @not_false_eq_true (And.intro @Bool.not_true @Bool.not_false))))))))))))))))))))))))))))))))))))))))))))))))))))))))
theorem Err_arg (w : World) : Gives Tryd.prog n_api_Errno_Error #[i64 1] w (.string (strOf argB)) := by
  have e1 : strOf argB = { data := #[97, 114, 103] } := by decide +kernel
  rw [e1]
  refine api_Errno_Error_of ?_
  unfold api_Errno_Error
  simp (disch := (first | omega | decide | (simp only [World.size_alloc, World.size_setCell, World.size_drew, size_sets, List.mem_cons, List.not_mem_nil, or_false, not_false_eq_true] <;> omega) | fail)) only [↓rsObjT_0, rsObjT_1, Option.isNone_some, Option.isNone_none, tick_eq, tickV_eq, ne_eq, Int.reduceAdd, Int.reduceSub, Int.reduceMul, Int.reduceEq, Int.reduceLT, Int.reduceLE, Int.reduceToNat, Nat.reduceMul, Nat.reduceAdd, Nat.reduceSub, List.nil_append, List.cons_append, List.getElem?_toArray, List.getElem?_cons_zero, List.getElem?_cons_succ, List.setIfInBounds_toArray, List.set_cons_zero, List.set_cons_succ, Option.map_some, List.not_mem_nil, ←decide_not, eq_self]
  exact ⟨by trivial, Ext.refl _ _⟩
theorem Err_form (w : World) : Gives Tryd.prog n_api_Errno_Error #[i64 2] w (.string (strOf formB)) := by
  have e1 : strOf formB = { data := #[102, 111, 114, 109] } := by decide +kernel
  rw [e1]
  refine api_Errno_Error_of ?_
  unfold api_Errno_Error
  simp (disch := (first | omega | decide | (simp only [World.size_alloc, World.size_setCell, World.size_drew, size_sets, List.mem_cons, List.not_mem_nil, or_false, not_false_eq_true] <;> omega) | fail)) only [↓rsObjT_0, rsObjT_1, Option.isNone_some, Option.isNone_none, tick_eq, tickV_eq, ne_eq, Int.reduceAdd, Int.reduceSub, Int.reduceMul, Int.reduceEq, Int.reduceLT, Int.reduceLE, Int.reduceToNat, Nat.reduceMul, Nat.reduceAdd, Nat.reduceSub, List.nil_append, List.cons_append, List.getElem?_toArray, List.getElem?_cons_zero, List.getElem?_cons_succ, List.setIfInBounds_toArray, List.set_cons_zero, List.set_cons_succ, Option.map_some, List.not_mem_nil, ←decide_not, eq_self]
  exact ⟨by trivial, Ext.refl _ _⟩
theorem tail_succ {l : List (BitVec 8)} {j : Nat} (hj : j < l.length) : tailB (l.take (j + 1)) = (if j = 0 then [32#8] else tailB (l.take j)) ++ hex2 l[j] := by
  have h1 : l.take (j + 1) ≠ [] := by
    intro h
    have := congrArg List.length h
    rw [List.length_take] at this
    simp only [List.length_nil] at this
    omega
  unfold tailB
  rw [if_neg h1, hexB_succ hj]
  by_cases h0 : j = 0
  · subst h0
    simp [hexB]
  · have h2 : l.take j ≠ [] := by
      intro h
      have := congrArg List.length h
      rw [List.length_take] at this
      simp only [List.length_nil] at this
      omega
    rw [if_neg h0, if_neg h2]
    rfl
end Go.Proofs.YtknineilpenbnaaDoor
set_option maxHeartbeats 4000000
namespace Go.Proofs.YtknineilpenbnaaDoor
open Go.Sh Go.RowKit

abbrev rsObjU_0 := (And.intro @xBox_r (And.intro @loadK_some (And.intro @loadsK_s (And.intro @loadsK_n (And.intro @loadsR_s (And.intro @loadsR_n (And.intro @storesK_s (And.intro @storesK_n (And.intro @xPick_t (And.intro @xPick_f (And.intro @xGuard_tt (And.intro @xGuard_ff (And.intro @xGuard_tf (And.intro @xGuard_ft (And.intro @xGuard_u 
  (And.intro @xNil_r (And.intro @xIf_t (And.intro @xBin_add' (And.intro @xBin_sub' (And.intro @xBin_mul' (And.intro @xBin_quo' (And.intro @xBin_rem' (And.intro @xIf_f (And.intro @xIf_tt (And.intro @xEx0 (And.intro @xEx1 (And.intro @xEx2 (And.intro @xEx3 (And.intro @xBin_eqs (And.intro @xBin_nes (And.intro @xUn_not (And.intro @xu8_add (And.intro @xu8_and 
  (And.intro @xu8_shr (And.intro @xu8_eql (And.intro @xu8_neq (And.intro @xu8_lss (And.intro @xu16_add (And.intro @xu16_and (And.intro @xu16_shr (And.intro @xu16_eql (And.intro @xu16_neq (And.intro @xu16_lss (And.intro @xu32_add (And.intro @xu32_and (And.intro @xu32_shr (And.intro @xu32_eql (And.intro @xu32_neq (And.intro @xu32_lss (And.intro @xu64_add 
  (And.intro @xu64_and (And.intro @xu64_shr (And.intro @xu64_eql (And.intro @xu64_neq (And.intro @xu64_lss (And.intro @xi64_lss (And.intro @xi64_eql (And.intro @xi64_neq (And.intro @xi64_and (And.intro @xi64_shr (And.intro @xi64_neg (And.intro @xMakeFunc_r (And.intro @xSq_r (And.intro @xPur_s (And.intro @xRd_s (And.intro @xRe_s (And.intro @xDet_s 
  (And.intro @xDet_ld (And.intro @xDet_ld2 (And.intro @xDet_ld3 (And.intro @xDet_ld4 (And.intro @xGuard_tt (And.intro @ld_3 (And.intro @ld_5 (And.intro @fa_34_0 (And.intro @fa_34_1 (And.intro @al_34 (And.intro @al_105 (And.intro @st_34 (And.intro @ia_22 @ln_22))))))))))))))))))))))))))))))))))))))))))))))))))))))))))))))))))))))))))))))))
abbrev rsObjU_1 := (And.intro @setCells_c (And.intro @setCells_n (And.intro @World.setCell_alloc_at (And.intro @World.setCell_alloc_past (And.intro @World.cell?_alloc_at (And.intro @World.cell?_alloc_past (And.intro @World.frozen?_alloc_at (And.intro @World.frozen?_alloc_past 
  (And.intro @World.size_alloc (And.intro @dlt_t (And.intro @dlt_f (And.intro @dle_t (And.intro @dle_f (And.intro @deq_t (And.intro @deq_f (And.intro @dne_t (And.intro @dne_f (And.intro @not_true_eq_false (And.intro @Bool.false_and (And.intro @Bool.true_and (And.intro @Bool.and_true (And.intro @Bool.and_false (And.intro @wrap_in (And.intro @Int.toNat_natCast 
  (And.intro @Nat.mul_one (And.intro @cells_int (And.intro @cells_bool (And.intro @cells_string (And.intro @cells_slice (And.intro @cells_pointer (And.intro @cells_agg (And.intro @one_int (And.intro @one_bool (And.intro @one_string (And.intro @one_slice (And.intro @one_pointer (And.intro @beq_tt (And.intro @beq_ff (And.intro @beq_tf 
  (And.intro @beq_ft (And.intro @cell_sets_b (And.intro @frozen_sets (And.intro @size_sets (And.intro @World.size_drew (And.intro @Nat.zero_add (And.intro @Nat.add_zero (And.intro @cell_drew (And.intro @frozen_drew (And.intro @cell_set_eq (And.intro @cell_set_o (And.intro @cell_set_b (And.intro @World.frozen?_setCell 
  (And.intro @decide_true (And.intro @decide_false (And.intro @not_false_eq_true (And.intro @Bool.not_true @Bool.not_false))))))))))))))))))))))))))))))))))))))))))))))))))))))))
theorem Text_g {w : World} {base s g : Nat} {a : Option Addr} {c : Nat} {ws : List (BitVec 64)} {b t e : Nat} (o : Int) (S : SpIs w base s g a c ws b t e) (ht : Tab w) :
    Yld Tryd.prog n_obj_Text #[ptr s, i64 o] w fun u w' => (∃ l, u = .string (strOf l) ∧ TextIs ws b t o l) ∧ Ext [] w w' := by
  have q1 := S.te
  have q2 := S.el
  have q3 := S.mem.len
  refine obj_Text_of ?_
  unfold obj_Text
  by_cases h : obE ws b t o = 0
  rotate_left
  · have hw := whole_bad S h
    rcases obE_cases ws b t o with ⟨k, _, _, he⟩ | ⟨k, _, _, _, _, he⟩ | ⟨_, he⟩
    · exact absurd he h
    · rw [he] at hw
      refine obj_whole_call (Gives.to hw fun w1 F1 => ?_)
      simp (disch := (first | omega | decide | (simp only [World.size_alloc, World.size_setCell, World.size_drew, size_sets, List.mem_cons, List.not_mem_nil, or_false, not_false_eq_true] <;> omega) | fail)) only [↓rsObjU_0, rsObjU_1, Option.isNone_some, Option.isNone_none, tick_eq, tickV_eq, ne_eq, Int.reduceAdd, Int.reduceSub, Int.reduceMul, Int.reduceEq, Int.reduceLT, Int.reduceLE, Int.reduceToNat, Nat.reduceMul, Nat.reduceAdd, Nat.reduceSub, List.nil_append, List.cons_append, List.getElem?_toArray, List.getElem?_cons_zero, List.getElem?_cons_succ, List.setIfInBounds_toArray, List.set_cons_zero, List.set_cons_succ, Option.map_some, List.not_mem_nil, ←decide_not, eq_self]
      refine api_Errno_Error_call (Gives.to (Err_form _) fun w2 F2 => ?_)
      exact ⟨⟨formB, rfl, .inr (.inl ⟨he, rfl⟩)⟩, F1.trans ((Ext.alloc _ _ _).trans F2)⟩
    · rw [he] at hw
      refine obj_whole_call (Gives.to hw fun w1 F1 => ?_)
      simp (disch := (first | omega | decide | (simp only [World.size_alloc, World.size_setCell, World.size_drew, size_sets, List.mem_cons, List.not_mem_nil, or_false, not_false_eq_true] <;> omega) | fail)) only [↓rsObjU_0, rsObjU_1, Option.isNone_some, Option.isNone_none, tick_eq, tickV_eq, ne_eq, Int.reduceAdd, Int.reduceSub, Int.reduceMul, Int.reduceEq, Int.reduceLT, Int.reduceLE, Int.reduceToNat, Nat.reduceMul, Nat.reduceAdd, Nat.reduceSub, List.nil_append, List.cons_append, List.getElem?_toArray, List.getElem?_cons_zero, List.getElem?_cons_succ, List.setIfInBounds_toArray, List.set_cons_zero, List.set_cons_succ, Option.map_some, List.not_mem_nil, ←decide_not, eq_self]
      refine api_Errno_Error_call (Gives.to (Err_arg _) fun w2 F2 => ?_)
      exact ⟨⟨argB, rfl, .inl ⟨he, rfl⟩⟩, F1.trans ((Ext.alloc _ _ _).trans F2)⟩
  obtain ⟨o, rfl, hO⟩ := obE_zero h
  obtain ⟨v1, v2, v3, v4, v5, v6, v7, v8⟩ := okW_v hO.ok
  have hhi := hO.hi
  refine obj_whole_call (Gives.to (whole_ok S hO) fun w1 F1 => ?_)
  simp (disch := (first | omega | decide | (simp only [World.size_alloc, World.size_setCell, World.size_drew, size_sets, List.mem_cons, List.not_mem_nil, or_false, not_false_eq_true] <;> omega) | fail)) only [↓rsObjU_0, rsObjU_1, Option.isNone_some, Option.isNone_none, tick_eq, tickV_eq, ne_eq, Int.reduceAdd, Int.reduceSub, Int.reduceMul, Int.reduceEq, Int.reduceLT, Int.reduceLE, Int.reduceToNat, Nat.reduceMul, Nat.reduceAdd, Nat.reduceSub, List.nil_append, List.cons_append, List.getElem?_toArray, List.getElem?_cons_zero, List.getElem?_cons_succ, List.setIfInBounds_toArray, List.set_cons_zero, List.set_cons_succ, Option.map_some, List.not_mem_nil, ←decide_not, eq_self]
  have B : Blk (w1.alloc (.cells #[i64 (pN (wat ws o)), i64 (bN (wat ws o)), .bool false, i64 0] 34)) w1.heap.size 34 [i64 (pN (wat ws o)), i64 (bN (wat ws o)), .bool false, i64 0] := Blk.at rfl
  have X1 : Ext [] w1 (w1.alloc (.cells #[i64 (pN (wat ws o)), i64 (bN (wat ws o)), .bool false, i64 0] 34)) := Ext.alloc _ _ _
  have L : BldIs (w1.alloc (.cells #[i64 (pN (wat ws o)), i64 (bN (wat ws o)), .bool false, i64 0] 34)) ((w1.alloc (.cells #[i64 (pN (wat ws o)), i64 (bN (wat ws o)), .bool false, i64 0] 34)).alloc (.cells #[.pointer none, .slice none 0 0] 105)).drew (w1.heap.size + 1) [] := by
    have := (BldIs.new (w1.alloc (.cells #[i64 (pN (wat ws o)), i64 (bN (wat ws o)), .bool false, i64 0] 34))).ext (Ext.drew _ _)
    simpa using this
  simp only [size_sets, World.size_alloc]
  have S1 := S.ext0 (F1.trans X1)
  have Xy := F1.trans X1
  have hO2 := hO
  generalize hP : pN (wat ws o) = P at *
  generalize hN : bN (wat ws o) = N at *
  generalize w1.alloc (.cells #[i64 (P : Int), i64 (N : Int), .bool false, i64 0] 34) = y1 at *
  generalize (y1.alloc (.cells #[.pointer none, .slice none 0 0] 105)).drew = y2 at *
  generalize w1.heap.size + 1 = bb at *
  generalize w1.heap.size = hb0 at *
  have ht1 := ht.ext Xy
  refine itoa_call (Gives.to (itoa_g P (by omega) y2 (ht1.ext L.2.1)) fun y3 G3 => ?_)
  have L3 := L.ext G3
  have kb := fun i => (B.ext L3.2.1 (by simp)).cell (i := i)
  have c1 : strOf [32#8] = { data := #[32] } := by decide +kernel
  have c2 : strOf [58#8] = { data := #[58] } := by decide +kernel
  have c3 : strOf [32#8, 45#8] = { data := #[32, 45] } := by decide +kernel
  have lP := dB_len 3 P (by omega)
  have lN := dB_len 3 N (by omega)
  have s1 := fun w K => addB (cx := false) (cy := true) (dB P) [32#8] (by simp; omega) w K
  have s2 := fun w K => addB (cx := false) (cy := false) (dB P ++ [32#8]) (dB N) (by simp; omega) w K
  have s3 := fun w K => addB (cx := false) (cy := true) (dB P ++ [32#8] ++ dB N) [58#8] (by simp; omega) w K
  rw [c1] at s1
  rw [c2] at s3
  simp (disch := (first | omega | decide | (simp only [World.size_alloc, World.size_setCell, World.size_drew, size_sets, List.mem_cons, List.not_mem_nil, or_false, not_false_eq_true] <;> omega) | fail)) only [↓rsObjU_0, rsObjU_1, Option.isNone_some, Option.isNone_none, tick_eq, tickV_eq, ne_eq, Int.reduceAdd, Int.reduceSub, Int.reduceMul, Int.reduceEq, Int.reduceLT, Int.reduceLE, Int.reduceToNat, Nat.reduceMul, Nat.reduceAdd, Nat.reduceSub, List.nil_append, List.cons_append, List.getElem?_toArray, List.getElem?_cons_zero, List.getElem?_cons_succ, List.setIfInBounds_toArray, List.set_cons_zero, List.set_cons_succ, Option.map_some, List.not_mem_nil, ←decide_not, kb, s1]
  refine itoa_call (Gives.to (itoa_g N (by omega) y3 (ht1.ext L3.2.1)) fun y4 G4 => ?_)
  have L4 := L3.ext G4
  simp (disch := (first | omega | decide | (simp only [World.size_alloc, World.size_setCell, World.size_drew, size_sets, List.mem_cons, List.not_mem_nil, or_false, not_false_eq_true] <;> omega) | fail)) only [↓rsObjU_0, rsObjU_1, Option.isNone_some, Option.isNone_none, tick_eq, tickV_eq, ne_eq, Int.reduceAdd, Int.reduceSub, Int.reduceMul, Int.reduceEq, Int.reduceLT, Int.reduceLE, Int.reduceToNat, Nat.reduceMul, Nat.reduceAdd, Nat.reduceSub, List.nil_append, List.cons_append, List.getElem?_toArray, List.getElem?_cons_zero, List.getElem?_cons_succ, List.setIfInBounds_toArray, List.set_cons_zero, List.set_cons_succ, Option.map_some, List.not_mem_nil, ←decide_not, kb, s1, s2, s3]
  refine wstr_call (Yld.mono (wstrB (m := []) L4 (by simp; omega)) ?_)
  intro u y5 L5
  have kb5 := fun i => (B.ext L5.2.1 (by simp)).cell (i := i)
  rw [List.nil_append] at L5
  simp (disch := (first | omega | decide | (simp only [World.size_alloc, World.size_setCell, World.size_drew, size_sets, List.mem_cons, List.not_mem_nil, or_false, not_false_eq_true] <;> omega) | fail)) only [↓rsObjU_0, rsObjU_1, Option.isNone_some, Option.isNone_none, tick_eq, tickV_eq, ne_eq, Int.reduceAdd, Int.reduceSub, Int.reduceMul, Int.reduceEq, Int.reduceLT, Int.reduceLE, Int.reduceToNat, Nat.reduceMul, Nat.reduceAdd, Nat.reduceSub, List.nil_append, List.cons_append, List.getElem?_toArray, List.getElem?_cons_zero, List.getElem?_cons_succ, List.setIfInBounds_toArray, List.set_cons_zero, List.set_cons_succ, Option.map_some, List.not_mem_nil, ←decide_not, kb, s1, s2, s3, kb5]
  refine xLoop_n P (fun j => [i64 (j : Int)]) (fun j w' => BldU y1 w' bb (B8 (headB P N ++ ptsB ws b t o j)) ∧ ∀ i, i < j → (ptrV b t (wat ws (o + 1 + i))).2 = 0) rfl ⟨by rw [ptsB, List.append_nil]; exact L5, by intro i hi; omega⟩ ?_ ?_
  · rintro j hj u v1 hu ⟨L6, hq⟩ nxt hnx
    simp only [List.map_cons, List.map_nil, List.cons.injEq, and_true] at hu
    rw [hu]
    have S6 := S1.ext0 L6.2.1
    have hPt := Ptr_ok (i := j) S6 hO (by omega)
    have lh := headB_len (p := P) (b := N) (by omega) (by omega)
    have lp := ptsB_len ws b t o j
    unfold obj_Text_l1
    simp (disch := (first | omega | decide | (simp only [World.size_alloc, World.size_setCell, World.size_drew, size_sets, List.mem_cons, List.not_mem_nil, or_false, not_false_eq_true] <;> omega) | fail)) only [↓rsObjU_0, rsObjU_1, Option.isNone_some, Option.isNone_none, tick_eq, tickV_eq, ne_eq, Int.reduceAdd, Int.reduceSub, Int.reduceMul, Int.reduceEq, Int.reduceLT, Int.reduceLE, Int.reduceToNat, Nat.reduceMul, Nat.reduceAdd, Nat.reduceSub, List.nil_append, List.cons_append, List.getElem?_toArray, List.getElem?_cons_zero, List.getElem?_cons_succ, List.setIfInBounds_toArray, List.set_cons_zero, List.set_cons_succ, Option.map_some, List.not_mem_nil, ←decide_not, kb, s1, s2, s3, kb5]
    rcases ptrV_cases b t (wat ws (o + 1 + j)) with hv | ⟨q, hq2, hv⟩ | hv
    · rw [hv] at hPt
      refine obj_Ptr_call (Gives.to hPt fun w5 F5 => ?_)
      simp (disch := (first | omega | decide | (simp only [World.size_alloc, World.size_setCell, World.size_drew, size_sets, List.mem_cons, List.not_mem_nil, or_false, not_false_eq_true] <;> omega) | fail)) only [↓rsObjU_0, rsObjU_1, Option.isNone_some, Option.isNone_none, tick_eq, tickV_eq, ne_eq, Int.reduceAdd, Int.reduceSub, Int.reduceMul, Int.reduceEq, Int.reduceLT, Int.reduceLE, Int.reduceToNat, Nat.reduceMul, Nat.reduceAdd, Nat.reduceSub, List.nil_append, List.cons_append, List.getElem?_toArray, List.getElem?_cons_zero, List.getElem?_cons_succ, List.setIfInBounds_toArray, List.set_cons_zero, List.set_cons_succ, Option.map_some, List.not_mem_nil, ←decide_not, kb, s1, s2, s3, kb5]
      rw [← c3]
      refine wstr_call (Yld.mono (wstrB (m := headB P N ++ ptsB ws b t o j) (L6.ext F5).is (by simp; omega)) ?_)
      intro u w7 L7
      unfold obj_Text_j1
      simp (disch := (first | omega | decide | (simp only [World.size_alloc, World.size_setCell, World.size_drew, size_sets, List.mem_cons, List.not_mem_nil, or_false, not_false_eq_true] <;> omega) | fail)) only [↓rsObjU_0, rsObjU_1, Option.isNone_some, Option.isNone_none, tick_eq, tickV_eq, ne_eq, Int.reduceAdd, Int.reduceSub, Int.reduceMul, Int.reduceEq, Int.reduceLT, Int.reduceLE, Int.reduceToNat, Nat.reduceMul, Nat.reduceAdd, Nat.reduceSub, List.nil_append, List.cons_append, List.getElem?_toArray, List.getElem?_cons_zero, List.getElem?_cons_succ, List.setIfInBounds_toArray, List.set_cons_zero, List.set_cons_succ, Option.map_some, List.not_mem_nil, ←decide_not, kb, s1, s2, s3, kb5]
      refine hnx _ ⟨?_, fun i hi => ?_⟩
      · rw [ptsB, hv, ← List.append_assoc]
        exact L7
      · by_cases e : i = j
        · subst e; rw [hv]
        · exact hq i (by omega)
    · rw [hv] at hPt
      refine obj_Ptr_call (Gives.to hPt fun w5 F5 => ?_)
      have hqn : ¬ (q : Int) = -1 := by omega
      simp (disch := (first | omega | decide | (simp only [World.size_alloc, World.size_setCell, World.size_drew, size_sets, List.mem_cons, List.not_mem_nil, or_false, not_false_eq_true] <;> omega) | fail)) only [↓rsObjU_0, rsObjU_1, Option.isNone_some, Option.isNone_none, tick_eq, tickV_eq, ne_eq, Int.reduceAdd, Int.reduceSub, Int.reduceMul, Int.reduceEq, Int.reduceLT, Int.reduceLE, Int.reduceToNat, Nat.reduceMul, Nat.reduceAdd, Nat.reduceSub, List.nil_append, List.cons_append, List.getElem?_toArray, List.getElem?_cons_zero, List.getElem?_cons_succ, List.setIfInBounds_toArray, List.set_cons_zero, List.set_cons_succ, Option.map_some, List.not_mem_nil, ←decide_not, kb, s1, s2, s3, kb5]
      refine itoa_call (Gives.to (itoa_g q (by omega) w5 ((ht1.ext L6.2.1).ext F5)) fun w6 G6 => ?_)
      have lq := dB_len 3 q (by omega)
      have s4 := fun w K => addB (cx := true) (cy := false) [32#8] (dB q) (by simp; omega) w K
      rw [c1] at s4
      simp (disch := (first | omega | decide | (simp only [World.size_alloc, World.size_setCell, World.size_drew, size_sets, List.mem_cons, List.not_mem_nil, or_false, not_false_eq_true] <;> omega) | fail)) only [↓rsObjU_0, rsObjU_1, Option.isNone_some, Option.isNone_none, tick_eq, tickV_eq, ne_eq, Int.reduceAdd, Int.reduceSub, Int.reduceMul, Int.reduceEq, Int.reduceLT, Int.reduceLE, Int.reduceToNat, Nat.reduceMul, Nat.reduceAdd, Nat.reduceSub, List.nil_append, List.cons_append, List.getElem?_toArray, List.getElem?_cons_zero, List.getElem?_cons_succ, List.setIfInBounds_toArray, List.set_cons_zero, List.set_cons_succ, Option.map_some, List.not_mem_nil, ←decide_not, kb, s1, s2, s3, kb5, s4]
      refine wstr_call (Yld.mono (wstrB (m := headB P N ++ ptsB ws b t o j) ((L6.ext F5).ext G6).is (by simp; omega)) ?_)
      intro u w7 L7
      unfold obj_Text_j1
      simp (disch := (first | omega | decide | (simp only [World.size_alloc, World.size_setCell, World.size_drew, size_sets, List.mem_cons, List.not_mem_nil, or_false, not_false_eq_true] <;> omega) | fail)) only [↓rsObjU_0, rsObjU_1, Option.isNone_some, Option.isNone_none, tick_eq, tickV_eq, ne_eq, Int.reduceAdd, Int.reduceSub, Int.reduceMul, Int.reduceEq, Int.reduceLT, Int.reduceLE, Int.reduceToNat, Nat.reduceMul, Nat.reduceAdd, Nat.reduceSub, List.nil_append, List.cons_append, List.getElem?_toArray, List.getElem?_cons_zero, List.getElem?_cons_succ, List.setIfInBounds_toArray, List.set_cons_zero, List.set_cons_succ, Option.map_some, List.not_mem_nil, ←decide_not, kb, s1, s2, s3, kb5, s4]
      refine hnx _ ⟨?_, fun i hi => ?_⟩
      · have e5 : ptB (q : Int) = [32#8] ++ dB q := by unfold ptB; rw [if_neg hqn]; simp
        rw [ptsB, hv, ← List.append_assoc, e5]
        exact L7
      · by_cases e : i = j
        · subst e; rw [hv]
        · exact hq i (by omega)
    · rw [hv] at hPt
      refine obj_Ptr_call (Gives.to hPt fun w5 F5 => ?_)
      simp (disch := (first | omega | decide | (simp only [World.size_alloc, World.size_setCell, World.size_drew, size_sets, List.mem_cons, List.not_mem_nil, or_false, not_false_eq_true] <;> omega) | fail)) only [↓rsObjU_0, rsObjU_1, Option.isNone_some, Option.isNone_none, tick_eq, tickV_eq, ne_eq, Int.reduceAdd, Int.reduceSub, Int.reduceMul, Int.reduceEq, Int.reduceLT, Int.reduceLE, Int.reduceToNat, Nat.reduceMul, Nat.reduceAdd, Nat.reduceSub, List.nil_append, List.cons_append, List.getElem?_toArray, List.getElem?_cons_zero, List.getElem?_cons_succ, List.setIfInBounds_toArray, List.set_cons_zero, List.set_cons_succ, Option.map_some, List.not_mem_nil, ←decide_not, kb, s1, s2, s3, kb5]
      refine api_Errno_Error_call (Gives.to (Err_form _) fun w6 F6 => ?_)
      refine ⟨⟨formB, rfl, .inr (.inr (.inl ⟨h, fun hp => ?_, rfl⟩))⟩, Xy.trans ((L6.2.1.trans F5).trans F6)⟩
      have := hp j (by simpa [hP] using hj)
      rw [Int.toNat_natCast, hv] at this
      cases this
  rintro u v1 hu ⟨L6, hq⟩ nxt
  simp only [List.map_cons, List.map_nil, List.cons.injEq, and_true] at hu
  rw [hu]
  have S6 := S1.ext0 L6.2.1
  have kb6 := fun i => (B.ext L6.2.1 (by simp)).cell (i := i)
  have lh := headB_len (p := P) (b := N) (by omega) (by omega)
  have lp := ptsB_len ws b t o P
  have hpo : PtrsOk ws b t o := fun i hi => hq i (by omega)
  unfold obj_Text_l1
  simp (disch := (first | omega | decide | (simp only [World.size_alloc, World.size_setCell, World.size_drew, size_sets, List.mem_cons, List.not_mem_nil, or_false, not_false_eq_true] <;> omega) | fail)) only [↓rsObjU_0, rsObjU_1, Option.isNone_some, Option.isNone_none, tick_eq, tickV_eq, ne_eq, Int.reduceAdd, Int.reduceSub, Int.reduceMul, Int.reduceEq, Int.reduceLT, Int.reduceLE, Int.reduceToNat, Nat.reduceMul, Nat.reduceAdd, Nat.reduceSub, List.nil_append, List.cons_append, List.getElem?_toArray, List.getElem?_cons_zero, List.getElem?_cons_succ, List.setIfInBounds_toArray, List.set_cons_zero, List.set_cons_succ, Option.map_some, List.not_mem_nil, ←decide_not, kb, s1, s2, s3, kb5, kb6]
  have hR := ORead_ok (from' := 0) (n := N) S6 hO (by omega)
  refine obj_Read_call (Yld.mono hR ?_)
  rintro u w5 ⟨F5, a5, c5, rfl, hc5, R5, U5⟩
  have hbody : bodyB ws b t o = headB P N ++ ptsB ws b t o P ++ tailB (bytesW ws ((o + 1 + pN (wat ws o)) * 8 + 0) N) := by unfold bodyB; rw [hP, hN]
  have hlen : (bytesW ws ((o + 1 + pN (wat ws o)) * 8 + 0) N).length = N := bytesW_length
  generalize bytesW ws ((o + 1 + pN (wat ws o)) * 8 + 0) N = Z at *
  generalize hH : headB P N ++ ptsB ws b t o P = H at *
  have lH : H.length ≤ 400 := by rw [← hH, List.length_append]; omega
  have hHne : H ≠ [] := by rw [← hH]; simp [headB]
  have fin : ∀ w9, BldIs y1 w9 bb (B8 (bodyB ws b t o)) → xCall Tryd.prog (fnv 57) [ptr bb] w9 fun u w' => (∃ l, u = .string (strOf l) ∧ TextIs ws b t (o : Int) l) ∧ Ext [] w w' := by
    intro w9 L9
    refine bstr_call (Yld.mono (bstr_spec L9 (by rw [hbody]; simp [hHne])) ?_)
    rintro u w10 ⟨rfl, F10⟩
    exact ⟨⟨bodyB ws b t o, rfl, .inr (.inr (.inr ⟨h, by simpa using hpo, by simp⟩))⟩, Xy.trans F10⟩
  by_cases hZ : Z = []
  · subst hZ
    have hN0 : N = 0 := by simpa using hlen.symm
    have L7 := (L6.ext F5).is
    have eb : bodyB ws b t o = H := by rw [hbody]; simp [tailB]
    rw [eb] at fin
    simp (disch := (first | omega | decide | (simp only [World.size_alloc, World.size_setCell, World.size_drew, size_sets, List.mem_cons, List.not_mem_nil, or_false, not_false_eq_true] <;> omega) | fail)) only [↓rsObjU_0, rsObjU_1, Option.isNone_some, Option.isNone_none, tick_eq, tickV_eq, ne_eq, Int.reduceAdd, Int.reduceSub, Int.reduceMul, Int.reduceEq, Int.reduceLT, Int.reduceLE, Int.reduceToNat, Nat.reduceMul, Nat.reduceAdd, Nat.reduceSub, List.nil_append, List.cons_append, List.getElem?_toArray, List.getElem?_cons_zero, List.getElem?_cons_succ, List.setIfInBounds_toArray, List.set_cons_zero, List.set_cons_succ, Option.map_some, List.not_mem_nil, ←decide_not, kb, s1, s2, s3, kb5, kb6]
    refine xLoop_n 0 (fun j => [i64 (j : Int)]) (fun j w' => BldIs y1 w' bb (B8 H)) rfl L7 ?_ ?_
    · intro j hj
      omega
    · intro u v6 hu L8 nxt6
      simp only [List.map_cons, List.map_nil, List.cons.injEq, and_true] at hu
      rw [hu]
      unfold obj_Text_l2
      simp (disch := (first | omega | decide | (simp only [World.size_alloc, World.size_setCell, World.size_drew, size_sets, List.mem_cons, List.not_mem_nil, or_false, not_false_eq_true] <;> omega) | fail)) only [↓rsObjU_0, rsObjU_1, Option.isNone_some, Option.isNone_none, tick_eq, tickV_eq, ne_eq, Int.reduceAdd, Int.reduceSub, Int.reduceMul, Int.reduceEq, Int.reduceLT, Int.reduceLE, Int.reduceToNat, Nat.reduceMul, Nat.reduceAdd, Nat.reduceSub, List.nil_append, List.cons_append, List.getElem?_toArray, List.getElem?_cons_zero, List.getElem?_cons_succ, List.setIfInBounds_toArray, List.set_cons_zero, List.set_cons_succ, Option.map_some, List.not_mem_nil, ←decide_not, kb, s1, s2, s3, kb5, kb6]
      exact fin _ L8
  obtain ⟨v5, L5'⟩ := L6.s (m := H) (cells_B8 _) (by simp)
  have zb := L5'.blk.lt
  have zv := L5'.own.lt
  have T5 : TL y1 w5 bb a5 (bys Z) H := by
    refine ⟨v5, L5'.ext0 F5, R5, fun z o ha => ?_⟩
    obtain ⟨b9, o9, h9, z9, _⟩ := R5.get (by simpa using hZ)
    have h10 := U5 _ ha
    rw [ha] at h9
    simp only [Option.some.injEq, Addr.mk.injEq, and_true] at h9
    simp only at h10
    refine ⟨by omega, by omega, fun hm => ?_⟩
    have := zv z hm
    omega
  simp (disch := (first | omega | decide | (simp only [World.size_alloc, World.size_setCell, World.size_drew, size_sets, List.mem_cons, List.not_mem_nil, or_false, not_false_eq_true] <;> omega) | fail)) only [↓rsObjU_0, rsObjU_1, Option.isNone_some, Option.isNone_none, tick_eq, tickV_eq, ne_eq, Int.reduceAdd, Int.reduceSub, Int.reduceMul, Int.reduceEq, Int.reduceLT, Int.reduceLE, Int.reduceToNat, Nat.reduceMul, Nat.reduceAdd, Nat.reduceSub, List.nil_append, List.cons_append, List.getElem?_toArray, List.getElem?_cons_zero, List.getElem?_cons_succ, List.setIfInBounds_toArray, List.set_cons_zero, List.set_cons_succ, Option.map_some, List.not_mem_nil, ←decide_not, kb, s1, s2, s3, kb5, kb6]
  refine xLoop_n Z.length (fun j => [i64 (j : Int)]) (fun j w' => TL y1 w' bb a5 (bys Z) (H ++ tailB (Z.take j))) rfl (by simpa [tailB] using T5) ?_ ?_
  · intro j hj u v6 hu T6 nxt6 hnx6
    simp only [List.map_cons, List.map_nil, List.cons.injEq, and_true] at hu
    rw [hu]
    have T6' := T6
    obtain ⟨v9, L6', R6, A6⟩ := T6'
    obtain ⟨b7, o7, he7, z7, c7⟩ := R6.at (i := j) (by simpa using hj)
    simp only [List.getElem_map] at c7
    have hts := tail_succ hj
    have lt : (tailB (Z.take j)).length ≤ 1 + 2 * N := by
      unfold tailB
      split
      · simp
      · rw [List.length_cons, hexB_len, List.length_take]
        omega
    have dh := fun w K => digit_at (Z[j] >>> (BitVec.ofNat 64 4).toNat) (hi_lt _) w K
    have dl := fun w K => digit_at (Z[j] &&& BitVec.ofNat 8 15) (lo_lt _) w K
    have step : ∀ (w7 : World) (m : List (BitVec 8)), TL y1 w7 bb a5 (bys Z) m → m.length ≤ 5000 → m ++ hex2 Z[j] = H ++ tailB (Z.take (j + 1)) →
        obj_Text_j2 (fun u w' => (∃ l, u = .string (strOf l) ∧ TextIs ws b t (o : Int) l) ∧ Ext [] w w') nxt6 (ptr bb) (u8 Z[j]) (i64 (j : Int)) w7 := by
      intro w7 m T7 hm he
      unfold obj_Text_j2
      simp (disch := (first | omega | decide | (simp only [World.size_alloc, World.size_setCell, World.size_drew, size_sets, List.mem_cons, List.not_mem_nil, or_false, not_false_eq_true] <;> omega) | fail)) only [↓rsObjU_0, rsObjU_1, Option.isNone_some, Option.isNone_none, tick_eq, tickV_eq, ne_eq, Int.reduceAdd, Int.reduceSub, Int.reduceMul, Int.reduceEq, Int.reduceLT, Int.reduceLE, Int.reduceToNat, Nat.reduceMul, Nat.reduceAdd, Nat.reduceSub, List.nil_append, List.cons_append, List.getElem?_toArray, List.getElem?_cons_zero, List.getElem?_cons_succ, List.setIfInBounds_toArray, List.set_cons_zero, List.set_cons_succ, Option.map_some, List.not_mem_nil, ←decide_not, kb, s1, s2, s3, kb5, kb6, dh]
      refine strings_Builder_WriteByte_call (Yld.mono (TL.put _ T7 (by omega)) ?_)
      intro u w9 T9
      simp (disch := (first | omega | decide | (simp only [World.size_alloc, World.size_setCell, World.size_drew, size_sets, List.mem_cons, List.not_mem_nil, or_false, not_false_eq_true] <;> omega) | fail)) only [↓rsObjU_0, rsObjU_1, Option.isNone_some, Option.isNone_none, tick_eq, tickV_eq, ne_eq, Int.reduceAdd, Int.reduceSub, Int.reduceMul, Int.reduceEq, Int.reduceLT, Int.reduceLE, Int.reduceToNat, Nat.reduceMul, Nat.reduceAdd, Nat.reduceSub, List.nil_append, List.cons_append, List.getElem?_toArray, List.getElem?_cons_zero, List.getElem?_cons_succ, List.setIfInBounds_toArray, List.set_cons_zero, List.set_cons_succ, Option.map_some, List.not_mem_nil, ←decide_not, kb, s1, s2, s3, kb5, kb6, dh, dl]
      refine strings_Builder_WriteByte_call (Yld.mono (TL.put _ T9 (by simp; omega)) ?_)
      intro u w10 T10
      rw [List.append_assoc] at T10
      have T11 : TL y1 w10 bb a5 (bys Z) (m ++ hex2 Z[j]) := T10
      rw [he] at T11
      simp (disch := (first | omega | decide | (simp only [World.size_alloc, World.size_setCell, World.size_drew, size_sets, List.mem_cons, List.not_mem_nil, or_false, not_false_eq_true] <;> omega) | fail)) only [↓rsObjU_0, rsObjU_1, Option.isNone_some, Option.isNone_none, tick_eq, tickV_eq, ne_eq, Int.reduceAdd, Int.reduceSub, Int.reduceMul, Int.reduceEq, Int.reduceLT, Int.reduceLE, Int.reduceToNat, Nat.reduceMul, Nat.reduceAdd, Nat.reduceSub, List.nil_append, List.cons_append, List.getElem?_toArray, List.getElem?_cons_zero, List.getElem?_cons_succ, List.setIfInBounds_toArray, List.set_cons_zero, List.set_cons_succ, Option.map_some, List.not_mem_nil, ←decide_not, kb, s1, s2, s3, kb5, kb6, dh, dl]
      exact hnx6 _ T11
    unfold obj_Text_l2
    subst he7
    by_cases hj0 : j = 0
    · subst hj0
      have c7' : v6.cell? ⟨b7, o7, none⟩ = some (u8 Z[0]) := c7
      simp (disch := (first | omega | decide | (simp only [World.size_alloc, World.size_setCell, World.size_drew, size_sets, List.mem_cons, List.not_mem_nil, or_false, not_false_eq_true] <;> omega) | fail)) only [↓rsObjU_0, rsObjU_1, Option.isNone_some, Option.isNone_none, tick_eq, tickV_eq, ne_eq, Int.reduceAdd, Int.reduceSub, Int.reduceMul, Int.reduceEq, Int.reduceLT, Int.reduceLE, Int.reduceToNat, Nat.reduceMul, Nat.reduceAdd, Nat.reduceSub, List.nil_append, List.cons_append, List.getElem?_toArray, List.getElem?_cons_zero, List.getElem?_cons_succ, List.setIfInBounds_toArray, List.set_cons_zero, List.set_cons_succ, Option.map_some, List.not_mem_nil, ←decide_not, kb, s1, s2, s3, kb5, kb6, c7']
      refine strings_Builder_WriteByte_call (Yld.mono (TL.put 32#8 T6 (by rw [List.length_append]; omega)) ?_)
      intro u w8 T8
      exact step _ _ T8 (by rw [List.length_append, List.length_append, List.length_singleton]; omega) (by rw [hts, if_pos rfl]; simp [tailB])
    · simp (disch := (first | omega | decide | (simp only [World.size_alloc, World.size_setCell, World.size_drew, size_sets, List.mem_cons, List.not_mem_nil, or_false, not_false_eq_true] <;> omega) | fail)) only [↓rsObjU_0, rsObjU_1, Option.isNone_some, Option.isNone_none, tick_eq, tickV_eq, ne_eq, Int.reduceAdd, Int.reduceSub, Int.reduceMul, Int.reduceEq, Int.reduceLT, Int.reduceLE, Int.reduceToNat, Nat.reduceMul, Nat.reduceAdd, Nat.reduceSub, List.nil_append, List.cons_append, List.getElem?_toArray, List.getElem?_cons_zero, List.getElem?_cons_succ, List.setIfInBounds_toArray, List.set_cons_zero, List.set_cons_succ, Option.map_some, List.not_mem_nil, ←decide_not, kb, s1, s2, s3, kb5, kb6, c7]
      exact step _ _ T6 (by rw [List.length_append]; omega) (by rw [hts, if_neg hj0]; simp)
  · intro u v6 hu ⟨v9, L6', _, _⟩ nxt6
    simp only [List.map_cons, List.map_nil, List.cons.injEq, and_true] at hu
    rw [hu]
    unfold obj_Text_l2
    simp (disch := (first | omega | decide | (simp only [World.size_alloc, World.size_setCell, World.size_drew, size_sets, List.mem_cons, List.not_mem_nil, or_false, not_false_eq_true] <;> omega) | fail)) only [↓rsObjU_0, rsObjU_1, Option.isNone_some, Option.isNone_none, tick_eq, tickV_eq, ne_eq, Int.reduceAdd, Int.reduceSub, Int.reduceMul, Int.reduceEq, Int.reduceLT, Int.reduceLE, Int.reduceToNat, Nat.reduceMul, Nat.reduceAdd, Nat.reduceSub, List.nil_append, List.cons_append, List.getElem?_toArray, List.getElem?_cons_zero, List.getElem?_cons_succ, List.setIfInBounds_toArray, List.set_cons_zero, List.set_cons_succ, Option.map_some, List.not_mem_nil, ←decide_not, kb, s1, s2, s3, kb5, kb6]
    have e9 : H ++ tailB (Z.take Z.length) = bodyB ws b t o := by rw [hbody, List.take_length]
    rw [e9] at L6'
    exact fin _ (L6'.is (cells_B8 _))
end Go.Proofs.YtknineilpenbnaaDoor
set_option maxHeartbeats 4000000
namespace Go.Proofs.YtknineilpenbnaaDoor
open Go.Sh Go.RowKit

theorem dig_of (n : Nat) : BitVec.ofInt 8 (48 + (n : Int) % 10) = BitVec.ofNat 8 (48 + n % 10) := by
  have e : (48 + (n : Int) % 10) = ((48 + n % 10 : Nat) : Int) := by omega
  rw [e]
  rfl
abbrev rsObjD_0 := (And.intro @xBox_r (And.intro @loadK_some (And.intro @loadsK_s (And.intro @loadsK_n (And.intro @loadsR_s (And.intro @loadsR_n (And.intro @storesK_s (And.intro @storesK_n (And.intro @xPick_t (And.intro @xPick_f (And.intro @xGuard_tt (And.intro @xGuard_ff (And.intro @xGuard_tf (And.intro @xGuard_ft (And.intro @xGuard_u 
  (And.intro @xNil_r (And.intro @xIf_t (And.intro @xBin_add' (And.intro @xBin_sub' (And.intro @xBin_mul' (And.intro @xBin_quo' (And.intro @xBin_rem' (And.intro @xIf_f (And.intro @xIf_tt (And.intro @xEx0 (And.intro @xEx1 (And.intro @xEx2 (And.intro @xEx3 (And.intro @xBin_eqs (And.intro @xBin_nes (And.intro @xUn_not (And.intro @xu8_add (And.intro @xu8_rem 
  (And.intro @xu8_quo (And.intro @xu8_geq (And.intro @xu16_add (And.intro @xu16_rem (And.intro @xu16_quo (And.intro @xu16_geq (And.intro @xu32_add (And.intro @xu32_rem (And.intro @xu32_quo (And.intro @xu32_geq (And.intro @xu64_add (And.intro @xu64_rem (And.intro @xu64_quo (And.intro @xu64_geq (And.intro @xi64_geq (And.intro @xMakeFunc_r 
  (And.intro @xSq_r (And.intro @xPur_s (And.intro @xRd_s (And.intro @xRe_s (And.intro @xDet_s (And.intro @xDet_ld (And.intro @xDet_ld2 (And.intro @xDet_ld3 (And.intro @xDet_ld4 (And.intro @xGuard_tt (And.intro @cv_3_5 (And.intro @bs_22_1 @bs_22_2)))))))))))))))))))))))))))))))))))))))))))))))))))))))))))))
abbrev rsObjD_1 := (And.intro @setCells_c (And.intro @setCells_n (And.intro @World.setCell_alloc_at (And.intro @World.setCell_alloc_past (And.intro @World.cell?_alloc_at (And.intro @World.cell?_alloc_past (And.intro @World.frozen?_alloc_at (And.intro @World.frozen?_alloc_past 
  (And.intro @World.size_alloc (And.intro @dlt_t (And.intro @dlt_f (And.intro @dle_t (And.intro @dle_f (And.intro @deq_t (And.intro @deq_f (And.intro @dne_t (And.intro @dne_f (And.intro @not_true_eq_false (And.intro @Bool.false_and (And.intro @Bool.true_and (And.intro @Bool.and_true (And.intro @Bool.and_false (And.intro @wrap_in (And.intro @Int.toNat_natCast 
  (And.intro @Nat.mul_one (And.intro @cells_int (And.intro @cells_bool (And.intro @cells_string (And.intro @cells_slice (And.intro @cells_pointer (And.intro @cells_agg (And.intro @one_int (And.intro @one_bool (And.intro @one_string (And.intro @one_slice (And.intro @one_pointer (And.intro @beq_tt (And.intro @beq_ff (And.intro @beq_tf 
  (And.intro @beq_ft (And.intro @cell_sets_b (And.intro @frozen_sets (And.intro @size_sets (And.intro @World.size_drew (And.intro @Nat.zero_add (And.intro @Nat.add_zero (And.intro @cell_drew (And.intro @frozen_drew (And.intro @cell_set_eq (And.intro @cell_set_o (And.intro @cell_set_b (And.intro @World.frozen?_setCell 
  (And.intro @decide_true (And.intro @decide_false (And.intro @not_false_eq_true (And.intro @Bool.not_true @Bool.not_false))))))))))))))))))))))))))))))))))))))))))))))))))))))))
theorem rDecimal_spec (n : Nat) (hn : n < 10000) (w : World) : Gives Tryd.prog n_loamref17_Decimal #[i64 (n : Int)] w (.string (strOf (dB n))) := by
  refine loamref17_Decimal_of ?_
  unfold loamref17_Decimal
  have hd := dig_of n
  simp (disch := (first | omega | decide | (simp only [World.size_alloc, World.size_setCell, World.size_drew, size_sets, List.mem_cons, List.not_mem_nil, or_false, not_false_eq_true] <;> omega) | fail)) only [↓rsObjD_0, rsObjD_1, Option.isNone_some, Option.isNone_none, tick_eq, tickV_eq, ne_eq, Int.reduceAdd, Int.reduceSub, Int.reduceMul, Int.reduceEq, Int.reduceLT, Int.reduceLE, Int.reduceToNat, Nat.reduceMul, Nat.reduceAdd, Nat.reduceSub, List.nil_append, List.cons_append, List.getElem?_toArray, List.getElem?_cons_zero, List.getElem?_cons_succ, List.setIfInBounds_toArray, List.set_cons_zero, List.set_cons_succ, Option.map_some, List.not_mem_nil, ←decide_not, hd]
  have X0 : Ext [] w (w.alloc (.cells #[u8 (BitVec.ofNat 8 (48 + n % 10))] 5)) := Ext.alloc _ _ _
  have s0 : ∀ K, xConv Tryd.prog 22 9 (.slice (some ⟨w.heap.size, 0, none⟩) 1 1) (w.alloc (.cells #[u8 (BitVec.ofNat 8 (48 + n % 10))] 5)) K = K (.string (strOf [BitVec.ofNat 8 (48 + n % 10)])) (w.alloc (.cells #[u8 (BitVec.ofNat 8 (48 + n % 10))] 5)) := strB (n := 1) (c := 1) (l := [BitVec.ofNat 8 (48 + n % 10)]) rfl (lit_row w [BitVec.ofNat 8 (48 + n % 10)])
  simp (disch := (first | omega | decide | (simp only [World.size_alloc, World.size_setCell, World.size_drew, size_sets, List.mem_cons, List.not_mem_nil, or_false, not_false_eq_true] <;> omega) | fail)) only [↓rsObjD_0, rsObjD_1, Option.isNone_some, Option.isNone_none, tick_eq, tickV_eq, ne_eq, Int.reduceAdd, Int.reduceSub, Int.reduceMul, Int.reduceEq, Int.reduceLT, Int.reduceLE, Int.reduceToNat, Nat.reduceMul, Nat.reduceAdd, Nat.reduceSub, List.nil_append, List.cons_append, List.getElem?_toArray, List.getElem?_cons_zero, List.getElem?_cons_succ, List.setIfInBounds_toArray, List.set_cons_zero, List.set_cons_succ, Option.map_some, List.not_mem_nil, ←decide_not, hd, s0]
  refine xLoop_r 4 (fun j vs w' => ∃ (n' : Nat) (s' : List (BitVec 8)), vs = [i64 (n' : Int), .string (strOf s')] ∧ n' < 10 ^ (4 - j) ∧ s'.length ≤ j + 1 ∧ dB n = (if n' < 10 then [] else dB (n' / 10)) ++ s' ∧ Ext [] w w') ⟨n, [BitVec.ofNat 8 (48 + n % 10)], rfl, hn, by simp, ?_, X0⟩ ?_ ?_
  · by_cases h : n < 10
    · rw [if_pos h, dB_small h, Nat.mod_eq_of_lt h]; rfl
    · rw [if_neg h, dB_big h]
  · rintro j hj u v1 ⟨n', s', hu, h1, h2, h3, F⟩ nxt hnx
    simp only [List.map_cons, List.map_nil, List.cons.injEq, and_true] at hu
    rw [hu.1, hu.2]
    unfold loamref17_Decimal_l1
    by_cases h : n' < 10
    · simp (disch := (first | omega | decide | (simp only [World.size_alloc, World.size_setCell, World.size_drew, size_sets, List.mem_cons, List.not_mem_nil, or_false, not_false_eq_true] <;> omega) | fail)) only [↓rsObjD_0, rsObjD_1, Option.isNone_some, Option.isNone_none, tick_eq, tickV_eq, ne_eq, Int.reduceAdd, Int.reduceSub, Int.reduceMul, Int.reduceEq, Int.reduceLT, Int.reduceLE, Int.reduceToNat, Nat.reduceMul, Nat.reduceAdd, Nat.reduceSub, List.nil_append, List.cons_append, List.getElem?_toArray, List.getElem?_cons_zero, List.getElem?_cons_succ, List.setIfInBounds_toArray, List.set_cons_zero, List.set_cons_succ, Option.map_some, List.not_mem_nil, ←decide_not, hd, s0]
      rw [if_pos h, List.nil_append] at h3
      exact ⟨by rw [h3], F⟩
    · have h9 : n' < 10 ^ 4 := Nat.lt_of_lt_of_le h1 (Nat.pow_le_pow_right (by decide) (by omega))
      have hd' := dig_of (n' / 10)
      have e1 : ((n' : Int) / 10) = ((n' / 10 : Nat) : Int) := by omega
      rw [← e1] at hd'
      simp (disch := (first | omega | decide | (simp only [World.size_alloc, World.size_setCell, World.size_drew, size_sets, List.mem_cons, List.not_mem_nil, or_false, not_false_eq_true] <;> omega) | fail)) only [↓rsObjD_0, rsObjD_1, Option.isNone_some, Option.isNone_none, tick_eq, tickV_eq, ne_eq, Int.reduceAdd, Int.reduceSub, Int.reduceMul, Int.reduceEq, Int.reduceLT, Int.reduceLE, Int.reduceToNat, Nat.reduceMul, Nat.reduceAdd, Nat.reduceSub, List.nil_append, List.cons_append, List.getElem?_toArray, List.getElem?_cons_zero, List.getElem?_cons_succ, List.setIfInBounds_toArray, List.set_cons_zero, List.set_cons_succ, Option.map_some, List.not_mem_nil, ←decide_not, hd, s0, hd']
      have s1 : ∀ K, xConv Tryd.prog 22 9 (.slice (some ⟨v1.heap.size, 0, none⟩) 1 1) (v1.alloc (.cells #[u8 (BitVec.ofNat 8 (48 + n' / 10 % 10))] 5)) K = K (.string (strOf [BitVec.ofNat 8 (48 + n' / 10 % 10)])) (v1.alloc (.cells #[u8 (BitVec.ofNat 8 (48 + n' / 10 % 10))] 5)) := strB (n := 1) (c := 1) (l := [BitVec.ofNat 8 (48 + n' / 10 % 10)]) rfl (lit_row v1 [BitVec.ofNat 8 (48 + n' / 10 % 10)])
      have s2 := fun w K => addB (cx := false) (cy := false) [BitVec.ofNat 8 (48 + n' / 10 % 10)] s' (by simp; omega) w K
      simp (disch := (first | omega | decide | (simp only [World.size_alloc, World.size_setCell, World.size_drew, size_sets, List.mem_cons, List.not_mem_nil, or_false, not_false_eq_true] <;> omega) | fail)) only [↓rsObjD_0, rsObjD_1, Option.isNone_some, Option.isNone_none, tick_eq, tickV_eq, ne_eq, Int.reduceAdd, Int.reduceSub, Int.reduceMul, Int.reduceEq, Int.reduceLT, Int.reduceLE, Int.reduceToNat, Nat.reduceMul, Nat.reduceAdd, Nat.reduceSub, List.nil_append, List.cons_append, List.getElem?_toArray, List.getElem?_cons_zero, List.getElem?_cons_succ, List.setIfInBounds_toArray, List.set_cons_zero, List.set_cons_succ, Option.map_some, List.not_mem_nil, ←decide_not, hd, s0, hd', s1, s2]
      rw [e1]
      refine hnx _ _ ⟨n' / 10, [BitVec.ofNat 8 (48 + n' / 10 % 10)] ++ s', rfl, ?_, by simp; omega, ?_, F.trans (Ext.alloc _ _ _)⟩
      · have e2 : 4 - j = (4 - (j + 1)) + 1 := by omega
        rw [e2, Nat.pow_succ] at h1
        omega
      · rw [h3, if_neg h, ← List.append_assoc]
        congr 1
        by_cases h5 : n' / 10 < 10
        · rw [if_pos h5, dB_small h5, Nat.mod_eq_of_lt h5]; rfl
        · rw [if_neg h5, dB_big h5]
  · rintro u v1 ⟨n', s', hu, h1, h2, h3, F⟩ nxt
    simp only [List.map_cons, List.map_nil, List.cons.injEq, and_true] at hu
    rw [hu.1, hu.2]
    have h : n' < 10 := by simp at h1; omega
    unfold loamref17_Decimal_l1
    simp (disch := (first | omega | decide | (simp only [World.size_alloc, World.size_setCell, World.size_drew, size_sets, List.mem_cons, List.not_mem_nil, or_false, not_false_eq_true] <;> omega) | fail)) only [↓rsObjD_0, rsObjD_1, Option.isNone_some, Option.isNone_none, tick_eq, tickV_eq, ne_eq, Int.reduceAdd, Int.reduceSub, Int.reduceMul, Int.reduceEq, Int.reduceLT, Int.reduceLE, Int.reduceToNat, Nat.reduceMul, Nat.reduceAdd, Nat.reduceSub, List.nil_append, List.cons_append, List.getElem?_toArray, List.getElem?_cons_zero, List.getElem?_cons_succ, List.setIfInBounds_toArray, List.set_cons_zero, List.set_cons_succ, Option.map_some, List.not_mem_nil, ←decide_not, hd, s0]
    rw [if_pos h, List.nil_append] at h3
    exact ⟨by rw [h3], F⟩
abbrev rsObjD_2 := (And.intro @xBox_r (And.intro @loadK_some (And.intro @loadsK_s (And.intro @loadsK_n (And.intro @loadsR_s (And.intro @loadsR_n (And.intro @storesK_s (And.intro @storesK_n (And.intro @xPick_t (And.intro @xPick_f (And.intro @xGuard_tt (And.intro @xGuard_ff (And.intro @xGuard_tf (And.intro @xGuard_ft (And.intro @xGuard_u 
  (And.intro @xNil_r (And.intro @xIf_t (And.intro @xBin_add' (And.intro @xBin_sub' (And.intro @xBin_mul' (And.intro @xBin_quo' (And.intro @xBin_rem' (And.intro @xIf_f (And.intro @xIf_tt (And.intro @xEx0 (And.intro @xEx1 (And.intro @xEx2 (And.intro @xEx3 (And.intro @xBin_eqs (And.intro @xBin_nes (And.intro @xUn_not (And.intro @xu8_add (And.intro @xu8_and 
  (And.intro @xu8_shr (And.intro @xu8_lss (And.intro @xu16_add (And.intro @xu16_and (And.intro @xu16_shr (And.intro @xu16_lss (And.intro @xu32_add (And.intro @xu32_and (And.intro @xu32_shr (And.intro @xu32_lss (And.intro @xu64_add (And.intro @xu64_and (And.intro @xu64_shr (And.intro @xu64_lss (And.intro @xi64_lss (And.intro @xi64_and (And.intro @xi64_shr 
  (And.intro @xMakeFunc_r (And.intro @xSq_r (And.intro @xPur_s (And.intro @xRd_s (And.intro @xRe_s (And.intro @xDet_s (And.intro @xDet_ld (And.intro @xDet_ld2 (And.intro @xDet_ld3 (And.intro @xDet_ld4 (And.intro @xGuard_tt (And.intro @ld_5 (And.intro @ia_22 (And.intro @ln_22 (And.intro @bs_22_1 @bs_22_2)))))))))))))))))))))))))))))))))))))))))))))))))))))))))))))))))
theorem rHex_spec {w : World} (l : List (BitVec 8)) (a : Option Addr) (c : Nat) (h : RowAt w a (bys l)) (hl : l.length ≤ 10000) : Gives Tryd.prog n_loamref17_Hex #[.slice a l.length c] w (.string (strOf (hexB l))) := by
  refine loamref17_Hex_of ?_
  unfold loamref17_Hex
  have e0 : ({ data := #[] } : ByteArray) = strOf (hexB (l.take 0)) := by simp [strOf, hexB]
  rw [e0]
  simp (disch := (first | omega | decide | (simp only [World.size_alloc, World.size_setCell, World.size_drew, size_sets, List.mem_cons, List.not_mem_nil, or_false, not_false_eq_true] <;> omega) | fail)) only [↓rsObjD_2, rsObjD_1, Option.isNone_some, Option.isNone_none, tick_eq, tickV_eq, ne_eq, Int.reduceAdd, Int.reduceSub, Int.reduceMul, Int.reduceEq, Int.reduceLT, Int.reduceLE, Int.reduceToNat, Nat.reduceMul, Nat.reduceAdd, Nat.reduceSub, List.nil_append, List.cons_append, List.getElem?_toArray, List.getElem?_cons_zero, List.getElem?_cons_succ, List.setIfInBounds_toArray, List.set_cons_zero, List.set_cons_succ, Option.map_some, List.not_mem_nil, ←decide_not, eq_self]
  refine xLoop_n l.length (fun j => [.string (strOf (hexB (l.take j))), i64 (j : Int)]) (fun _ w' => Ext [] w w') rfl (Ext.refl _ _) ?_ ?_
  · intro j hj u v1 hu F nxt hnx
    simp only [List.map_cons, List.map_nil, List.cons.injEq, and_true] at hu
    rw [hu.1, hu.2]
    obtain ⟨b1, o1, rfl, z1, k1⟩ := ((h.ext0 F).ext0 (Ext.drew [] v1)).at (i := j) (by simpa using hj)
    simp only [List.getElem_map] at k1
    have hx := hexB_succ hj
    have lx : (hexB (l.take j)).length ≤ 20000 := by rw [hexB_len, List.length_take]; omega
    generalize hexB (l.take j) = H at *
    generalize l[j] = x at *
    have dh := fun w K => digit_at (x >>> (BitVec.ofNat 64 4).toNat) (hi_lt _) w K
    have dl := fun w K => digit_at (x &&& BitVec.ofNat 8 15) (lo_lt _) w K
    have s1 : ∀ K, xConv Tryd.prog 22 9 (.slice (some ⟨v1.heap.size, 0, none⟩) 2 2) (v1.drew.alloc (.cells #[u8 (hexH (x >>> (BitVec.ofNat 64 4).toNat)), u8 (hexH (x &&& BitVec.ofNat 8 15))] 5)) K = K (.string (strOf (hex2 x))) (v1.drew.alloc (.cells #[u8 (hexH (x >>> (BitVec.ofNat 64 4).toNat)), u8 (hexH (x &&& BitVec.ofNat 8 15))] 5)) := strB (n := 2) (c := 2) (l := hex2 x) rfl (lit_row v1.drew (hex2 x))
    have s2 := fun w K => addB (cx := false) (cy := false) H (hex2 x) (by simp [hex2]; omega) w K
    unfold loamref17_Hex_l1
    simp (disch := (first | omega | decide | (simp only [World.size_alloc, World.size_setCell, World.size_drew, size_sets, List.mem_cons, List.not_mem_nil, or_false, not_false_eq_true] <;> omega) | fail)) only [↓rsObjD_2, rsObjD_1, Option.isNone_some, Option.isNone_none, tick_eq, tickV_eq, ne_eq, Int.reduceAdd, Int.reduceSub, Int.reduceMul, Int.reduceEq, Int.reduceLT, Int.reduceLE, Int.reduceToNat, Nat.reduceMul, Nat.reduceAdd, Nat.reduceSub, List.nil_append, List.cons_append, List.getElem?_toArray, List.getElem?_cons_zero, List.getElem?_cons_succ, List.setIfInBounds_toArray, List.set_cons_zero, List.set_cons_succ, Option.map_some, List.not_mem_nil, ←decide_not, k1, dh, dl, s1, s2]
    rw [← hx]
    exact hnx _ (F.trans ((Ext.drew [] _).trans (Ext.alloc _ _ _)))
  · intro u v1 hu F nxt
    simp only [List.map_cons, List.map_nil, List.cons.injEq, and_true] at hu
    rw [hu.1, hu.2]
    unfold loamref17_Hex_l1
    simp (disch := (first | omega | decide | (simp only [World.size_alloc, World.size_setCell, World.size_drew, size_sets, List.mem_cons, List.not_mem_nil, or_false, not_false_eq_true] <;> omega) | fail)) only [↓rsObjD_2, rsObjD_1, Option.isNone_some, Option.isNone_none, tick_eq, tickV_eq, ne_eq, Int.reduceAdd, Int.reduceSub, Int.reduceMul, Int.reduceEq, Int.reduceLT, Int.reduceLE, Int.reduceToNat, Nat.reduceMul, Nat.reduceAdd, Nat.reduceSub, List.nil_append, List.cons_append, List.getElem?_toArray, List.getElem?_cons_zero, List.getElem?_cons_succ, List.setIfInBounds_toArray, List.set_cons_zero, List.set_cons_succ, Option.map_some, List.not_mem_nil, ←decide_not, eq_self]
    exact ⟨by rw [List.take_length], F⟩
end Go.Proofs.YtknineilpenbnaaDoor
set_option maxHeartbeats 4000000
namespace Go.Proofs.YtknineilpenbnaaDoor
open Go.Sh Go.RowKit

theorem bs3 (a b c : ByteArray) (w : World) (K : K1) : xBuildSlice Tryd.prog 113 3 [(0, .string a), (1, .string b), (2, .string c)] w K = K (.slice (some ⟨w.heap.size, 0, none⟩) 3 3) (w.alloc (.cells #[.string a, .string b, .string c] 9)) := xBuildSlice_ok (by kernel_rfl)
section
variable {w : World} {m : Nat} {r : Option Addr} {c : Nat} {ws : List (BitVec 64)} {b t e : Nat}
theorem rdE_00 (o : Int) : rdE ws b t o 0 0 = obE ws b t o := by
  unfold rdE
  by_cases h : obE ws b t o = 0
  · rw [if_neg (by simp [h]), if_neg (by omega), h]
  · rw [if_pos h]
theorem rdG_00 (o : Int) : rdG ws b t o 0 0 = [] := by
  unfold rdG
  split
  · rfl
  · rfl
theorem ptrG_in {o i : Nat} (h : ObjAt ws b t o) (hi : i < pN (wat ws o)) : ptrG ws b t (o : Int) (i : Int) = ptrV b t (wat ws (o + 1 + i)) := by
  unfold ptrG
  rw [if_neg (by simp [obE_at h]), if_neg (by simp only [Int.toNat_natCast]; omega)]
  simp
theorem rdE_in {o n : Nat} (h : ObjAt ws b t o) (hn : n = bN (wat ws o)) : rdE ws b t (o : Int) 0 (n : Int) = 0 := by
  unfold rdE
  rw [if_neg (by simp [obE_at h]), if_neg (by simp only [Int.toNat_natCast]; omega)]
theorem rdG_in {o n : Nat} (h : ObjAt ws b t o) (hn : n = bN (wat ws o)) : rdG ws b t (o : Int) 0 (n : Int) = bytesW ws ((o + 1 + pN (wat ws o)) * 8 + 0) n := by
  unfold rdG
  rw [if_pos (rdE_in h hn)]
  simp [rdA]
abbrev rsObjF_0 := (And.intro @xBox_r (And.intro @loadK_some (And.intro @loadsK_s (And.intro @loadsK_n (And.intro @loadsR_s (And.intro @loadsR_n (And.intro @storesK_s (And.intro @storesK_n (And.intro @xPick_t (And.intro @xPick_f (And.intro @xGuard_tt (And.intro @xGuard_ff (And.intro @xGuard_tf (And.intro @xGuard_ft (And.intro @xGuard_u 
  (And.intro @xNil_r (And.intro @xIf_t (And.intro @xBin_add' (And.intro @xBin_sub' (And.intro @xBin_mul' (And.intro @xBin_quo' (And.intro @xBin_rem' (And.intro @xIf_f (And.intro @xIf_tt (And.intro @xEx0 (And.intro @xEx1 (And.intro @xEx2 (And.intro @xEx3 (And.intro @xBin_eqs (And.intro @xBin_nes (And.intro @xUn_not (And.intro @xu8_add (And.intro @xu8_neq 
  (And.intro @xu8_lss (And.intro @xu8_gtr (And.intro @xu16_add (And.intro @xu16_neq (And.intro @xu16_lss (And.intro @xu16_gtr (And.intro @xu32_add (And.intro @xu32_neq (And.intro @xu32_lss (And.intro @xu32_gtr (And.intro @xu64_add (And.intro @xu64_neq (And.intro @xu64_lss (And.intro @xu64_gtr (And.intro @xi64_lss (And.intro @xi64_gtr (And.intro @xi64_neq 
  (And.intro @xi64_neg (And.intro @xMakeFunc_r (And.intro @xSq_r (And.intro @xPur_s (And.intro @xRd_s (And.intro @xRe_s (And.intro @xDet_s (And.intro @xDet_ld (And.intro @xDet_ld2 (And.intro @xDet_ld3 (And.intro @xDet_ld4 (And.intro @xGuard_tt (And.intro @ld_3 (And.intro @ld_9 (And.intro @fa_92_0 (And.intro @fa_92_1 (And.intro @al_92 (And.intro @st_92 (And.intro @ia_113 @ln_22)))))))))))))))))))))))))))))))))))))))))))))))))))))))))))))))))))))
abbrev rsObjF_1 := (And.intro @setCells_c (And.intro @setCells_n (And.intro @World.setCell_alloc_at (And.intro @World.setCell_alloc_past (And.intro @World.cell?_alloc_at (And.intro @World.cell?_alloc_past (And.intro @World.frozen?_alloc_at (And.intro @World.frozen?_alloc_past 
  (And.intro @World.size_alloc (And.intro @dlt_t (And.intro @dlt_f (And.intro @dle_t (And.intro @dle_f (And.intro @deq_t (And.intro @deq_f (And.intro @dne_t (And.intro @dne_f (And.intro @not_true_eq_false (And.intro @Bool.false_and (And.intro @Bool.true_and (And.intro @Bool.and_true (And.intro @Bool.and_false (And.intro @wrap_in (And.intro @Int.toNat_natCast 
  (And.intro @Nat.mul_one (And.intro @cells_int (And.intro @cells_bool (And.intro @cells_string (And.intro @cells_slice (And.intro @cells_pointer (And.intro @cells_agg (And.intro @one_int (And.intro @one_bool (And.intro @one_string (And.intro @one_slice (And.intro @one_pointer (And.intro @beq_tt (And.intro @beq_ff (And.intro @beq_tf 
  (And.intro @beq_ft (And.intro @cell_sets_b (And.intro @frozen_sets (And.intro @size_sets (And.intro @World.size_drew (And.intro @Nat.zero_add (And.intro @Nat.add_zero (And.intro @cell_drew (And.intro @frozen_drew (And.intro @cell_set_eq (And.intro @cell_set_o (And.intro @cell_set_b (And.intro @World.frozen?_setCell 
  (And.intro @decide_true (And.intro @decide_false (And.intro @not_false_eq_true (And.intro @Bool.not_true @Bool.not_false))))))))))))))))))))))))))))))))))))))))))))))))))))))))
theorem rText_g (o : Int) (S : RfIs w m r c ws b t e) : Yld Tryd.prog n_loamlaw16_text #[ptr m, i64 o] w fun u w' => (∃ l, u = .string (strOf l) ∧ TextIs ws b t o l) ∧ Ext [] w w' := by
  have q1 := S.te
  have q2 := S.el
  have q3 := S.len
  refine loamlaw16_text_of ?_
  unfold loamlaw16_text
  have hR0 := rRead_g o 0 0 S
  rw [rdE_00, rdG_00] at hR0
  have ca : strOf argB = { data := #[97, 114, 103] } := by decide +kernel
  have cf : strOf formB = { data := #[102, 111, 114, 109] } := by decide +kernel
  by_cases h : obE ws b t o = 0
  rotate_left
  · rcases obE_cases ws b t o with ⟨k, _, _, he⟩ | ⟨k, _, _, _, _, he⟩ | ⟨_, he⟩
    · exact absurd he h
    · rw [he] at hR0
      refine loamref14_Space_Read_call (Yld.mono hR0 ?_)
      rintro u w1 ⟨F1, a2, c2, rfl, _⟩
      simp (disch := (first | omega | decide | (simp only [World.size_alloc, World.size_setCell, World.size_drew, size_sets, List.mem_cons, List.not_mem_nil, or_false, not_false_eq_true] <;> omega) | fail)) only [↓rsObjF_0, rsObjF_1, Option.isNone_some, Option.isNone_none, tick_eq, tickV_eq, ne_eq, Int.reduceAdd, Int.reduceSub, Int.reduceMul, Int.reduceEq, Int.reduceLT, Int.reduceLE, Int.reduceToNat, Nat.reduceMul, Nat.reduceAdd, Nat.reduceSub, List.nil_append, List.cons_append, List.getElem?_toArray, List.getElem?_cons_zero, List.getElem?_cons_succ, List.setIfInBounds_toArray, List.set_cons_zero, List.set_cons_succ, Option.map_some, List.not_mem_nil, ←decide_not, bs3]
      exact ⟨⟨formB, by rw [cf], .inr (.inl ⟨he, rfl⟩)⟩, F1.trans (Ext.alloc _ _ _)⟩
    · rw [he] at hR0
      refine loamref14_Space_Read_call (Yld.mono hR0 ?_)
      rintro u w1 ⟨F1, a2, c2, rfl, _⟩
      simp (disch := (first | omega | decide | (simp only [World.size_alloc, World.size_setCell, World.size_drew, size_sets, List.mem_cons, List.not_mem_nil, or_false, not_false_eq_true] <;> omega) | fail)) only [↓rsObjF_0, rsObjF_1, Option.isNone_some, Option.isNone_none, tick_eq, tickV_eq, ne_eq, Int.reduceAdd, Int.reduceSub, Int.reduceMul, Int.reduceEq, Int.reduceLT, Int.reduceLE, Int.reduceToNat, Nat.reduceMul, Nat.reduceAdd, Nat.reduceSub, List.nil_append, List.cons_append, List.getElem?_toArray, List.getElem?_cons_zero, List.getElem?_cons_succ, List.setIfInBounds_toArray, List.set_cons_zero, List.set_cons_succ, Option.map_some, List.not_mem_nil, ←decide_not, bs3]
      exact ⟨⟨argB, by rw [ca], .inl ⟨he, rfl⟩⟩, F1.trans (Ext.alloc _ _ _)⟩
  rw [h] at hR0
  obtain ⟨o, rfl, hO⟩ := obE_zero h
  obtain ⟨v1, v2, v3, v4, v5, v6, v7, v8⟩ := okW_v hO.ok
  have hhi := hO.hi
  have hlt := hO.lt
  refine loamref14_Space_Read_call (Yld.mono hR0 ?_)
  rintro u w1 ⟨F1, a2, c2, rfl, _⟩
  simp (disch := (first | omega | decide | (simp only [World.size_alloc, World.size_setCell, World.size_drew, size_sets, List.mem_cons, List.not_mem_nil, or_false, not_false_eq_true] <;> omega) | fail)) only [↓rsObjF_0, rsObjF_1, Option.isNone_some, Option.isNone_none, tick_eq, tickV_eq, ne_eq, Int.reduceAdd, Int.reduceSub, Int.reduceMul, Int.reduceEq, Int.reduceLT, Int.reduceLE, Int.reduceToNat, Nat.reduceMul, Nat.reduceAdd, Nat.reduceSub, List.nil_append, List.cons_append, List.getElem?_toArray, List.getElem?_cons_zero, List.getElem?_cons_succ, List.setIfInBounds_toArray, List.set_cons_zero, List.set_cons_succ, Option.map_some, List.not_mem_nil, ←decide_not, eq_self]
  have hh := rHead_in (o := o) (S.ext0 F1) hO.lo hlt
  rw [v1, v2, v3, v4, v5] at hh
  refine loamref14_Space_Head_call (Gives.to hh fun w2 F2 => ?_)
  simp (disch := (first | omega | decide | (simp only [World.size_alloc, World.size_setCell, World.size_drew, size_sets, List.mem_cons, List.not_mem_nil, or_false, not_false_eq_true] <;> omega) | fail)) only [↓rsObjF_0, rsObjF_1, Option.isNone_some, Option.isNone_none, tick_eq, tickV_eq, ne_eq, Int.reduceAdd, Int.reduceSub, Int.reduceMul, Int.reduceEq, Int.reduceLT, Int.reduceLE, Int.reduceToNat, Nat.reduceMul, Nat.reduceAdd, Nat.reduceSub, List.nil_append, List.cons_append, List.getElem?_toArray, List.getElem?_cons_zero, List.getElem?_cons_succ, List.setIfInBounds_toArray, List.set_cons_zero, List.set_cons_succ, Option.map_some, List.not_mem_nil, ←decide_not, eq_self]
  have B : Blk (w2.alloc (.cells #[i64 (pN (wat ws o)), i64 (bN (wat ws o)), .bool false, i64 0] 92)) w2.heap.size 92 [i64 (pN (wat ws o)), i64 (bN (wat ws o)), .bool false, i64 0] := Blk.at rfl
  have X2 : Ext [] w2 (w2.alloc (.cells #[i64 (pN (wat ws o)), i64 (bN (wat ws o)), .bool false, i64 0] 92)) := Ext.alloc _ _ _
  have Xy := F1.trans (F2.trans X2)
  generalize hP : pN (wat ws o) = P at *
  generalize hN : bN (wat ws o) = N at *
  generalize w2.alloc (.cells #[i64 (P : Int), i64 (N : Int), .bool false, i64 0] 92) = y1 at *
  have c1 : strOf [32#8] = { data := #[32] } := by decide +kernel
  have c2 : strOf [58#8] = { data := #[58] } := by decide +kernel
  have c3 : strOf [32#8, 45#8] = { data := #[32, 45] } := by decide +kernel
  have lP := dB_len 3 P (by omega)
  have lN := dB_len 3 N (by omega)
  have s1 := fun w K => addB (cx := false) (cy := true) (dB P) [32#8] (by simp; omega) w K
  have s2 := fun w K => addB (cx := false) (cy := false) (dB P ++ [32#8]) (dB N) (by simp; omega) w K
  have s3 := fun w K => addB (cx := false) (cy := true) (dB P ++ [32#8] ++ dB N) [58#8] (by simp; omega) w K
  rw [c1] at s1
  rw [c2] at s3
  refine loamref17_Decimal_call (Gives.to (rDecimal_spec P (by omega) _) fun y3 G3d => ?_)
  have G3 := (Ext.drew [] y1).trans G3d
  have kb := fun i => (B.ext G3 (by simp)).cell (i := i)
  simp (disch := (first | omega | decide | (simp only [World.size_alloc, World.size_setCell, World.size_drew, size_sets, List.mem_cons, List.not_mem_nil, or_false, not_false_eq_true] <;> omega) | fail)) only [↓rsObjF_0, rsObjF_1, Option.isNone_some, Option.isNone_none, tick_eq, tickV_eq, ne_eq, Int.reduceAdd, Int.reduceSub, Int.reduceMul, Int.reduceEq, Int.reduceLT, Int.reduceLE, Int.reduceToNat, Nat.reduceMul, Nat.reduceAdd, Nat.reduceSub, List.nil_append, List.cons_append, List.getElem?_toArray, List.getElem?_cons_zero, List.getElem?_cons_succ, List.setIfInBounds_toArray, List.set_cons_zero, List.set_cons_succ, Option.map_some, List.not_mem_nil, ←decide_not, kb, s1]
  refine loamref17_Decimal_call (Gives.to (rDecimal_spec N (by omega) _) fun y4 G4 => ?_)
  simp (disch := (first | omega | decide | (simp only [World.size_alloc, World.size_setCell, World.size_drew, size_sets, List.mem_cons, List.not_mem_nil, or_false, not_false_eq_true] <;> omega) | fail)) only [↓rsObjF_0, rsObjF_1, Option.isNone_some, Option.isNone_none, tick_eq, tickV_eq, ne_eq, Int.reduceAdd, Int.reduceSub, Int.reduceMul, Int.reduceEq, Int.reduceLT, Int.reduceLE, Int.reduceToNat, Nat.reduceMul, Nat.reduceAdd, Nat.reduceSub, List.nil_append, List.cons_append, List.getElem?_toArray, List.getElem?_cons_zero, List.getElem?_cons_succ, List.setIfInBounds_toArray, List.set_cons_zero, List.set_cons_succ, Option.map_some, List.not_mem_nil, ←decide_not, kb, s1, s2, s3]
  have X4 := Xy.trans (G3.trans G4)
  have B4 := B.ext (G3.trans G4) (by simp)
  have S4 := S.ext0 X4
  refine xLoop_n P (fun j => [.string (strOf (headB P N ++ ptsB ws b t o j)), i64 (j : Int)]) (fun j w' => Ext [] y4 w' ∧ ∀ i, i < j → (ptrV b t (wat ws (o + 1 + i))).2 = 0) (by rw [ptsB, List.append_nil]; rfl) ⟨Ext.refl _ _, by intro i hi; omega⟩ ?_ ?_
  · rintro j hj u v1 hu ⟨F, hq⟩ nxt hnx
    simp only [List.map_cons, List.map_nil, List.cons.injEq, and_true] at hu
    rw [hu.1, hu.2]
    have kb6 := fun i => (B4.ext F (by simp)).cell (i := i)
    have hPt := rPtr_g (o : Int) (j : Int) (S4.ext0 F)
    rw [ptrG_in hO (by omega)] at hPt
    have lh := headB_len (p := P) (b := N) (by omega) (by omega)
    have lp := ptsB_len ws b t o j
    have hsucc : headB P N ++ ptsB ws b t o (j + 1) = (headB P N ++ ptsB ws b t o j) ++ ptB (ptrV b t (wat ws (o + 1 + j))).1 := by rw [ptsB, List.append_assoc]
    have lH : (headB P N ++ ptsB ws b t o j).length ≤ 400 := by rw [List.length_append]; omega
    generalize headB P N ++ ptsB ws b t o j = H at *
    unfold loamlaw16_text_l1
    simp (disch := (first | omega | decide | (simp only [World.size_alloc, World.size_setCell, World.size_drew, size_sets, List.mem_cons, List.not_mem_nil, or_false, not_false_eq_true] <;> omega) | fail)) only [↓rsObjF_0, rsObjF_1, Option.isNone_some, Option.isNone_none, tick_eq, tickV_eq, ne_eq, Int.reduceAdd, Int.reduceSub, Int.reduceMul, Int.reduceEq, Int.reduceLT, Int.reduceLE, Int.reduceToNat, Nat.reduceMul, Nat.reduceAdd, Nat.reduceSub, List.nil_append, List.cons_append, List.getElem?_toArray, List.getElem?_cons_zero, List.getElem?_cons_succ, List.setIfInBounds_toArray, List.set_cons_zero, List.set_cons_succ, Option.map_some, List.not_mem_nil, ←decide_not, kb, s1, s2, s3, kb6]
    rcases ptrV_cases b t (wat ws (o + 1 + j)) with hv | ⟨q, hq2, hv⟩ | hv
    · rw [hv] at hPt hsucc
      refine loamref14_Space_Ptr_call (Gives.to hPt fun w5 F5 => ?_)
      have s4 := fun w K => addB (cx := false) (cy := true) H [32#8, 45#8] (by simp; omega) w K
      rw [c3] at s4
      have e5 : ptB (-1) = [32#8, 45#8] := rfl
      rw [e5] at hsucc
      simp (disch := (first | omega | decide | (simp only [World.size_alloc, World.size_setCell, World.size_drew, size_sets, List.mem_cons, List.not_mem_nil, or_false, not_false_eq_true] <;> omega) | fail)) only [↓rsObjF_0, rsObjF_1, Option.isNone_some, Option.isNone_none, tick_eq, tickV_eq, ne_eq, Int.reduceAdd, Int.reduceSub, Int.reduceMul, Int.reduceEq, Int.reduceLT, Int.reduceLE, Int.reduceToNat, Nat.reduceMul, Nat.reduceAdd, Nat.reduceSub, List.nil_append, List.cons_append, List.getElem?_toArray, List.getElem?_cons_zero, List.getElem?_cons_succ, List.setIfInBounds_toArray, List.set_cons_zero, List.set_cons_succ, Option.map_some, List.not_mem_nil, ←decide_not, kb, s1, s2, s3, kb6, s4]
      unfold loamlaw16_text_j1
      simp (disch := (first | omega | decide | (simp only [World.size_alloc, World.size_setCell, World.size_drew, size_sets, List.mem_cons, List.not_mem_nil, or_false, not_false_eq_true] <;> omega) | fail)) only [↓rsObjF_0, rsObjF_1, Option.isNone_some, Option.isNone_none, tick_eq, tickV_eq, ne_eq, Int.reduceAdd, Int.reduceSub, Int.reduceMul, Int.reduceEq, Int.reduceLT, Int.reduceLE, Int.reduceToNat, Nat.reduceMul, Nat.reduceAdd, Nat.reduceSub, List.nil_append, List.cons_append, List.getElem?_toArray, List.getElem?_cons_zero, List.getElem?_cons_succ, List.setIfInBounds_toArray, List.set_cons_zero, List.set_cons_succ, Option.map_some, List.not_mem_nil, ←decide_not, kb, s1, s2, s3, kb6, s4]
      rw [← hsucc]
      refine hnx _ ⟨F.trans F5, fun i hi => ?_⟩
      by_cases e : i = j
      · subst e; rw [hv]
      · exact hq i (by omega)
    · rw [hv] at hPt hsucc
      refine loamref14_Space_Ptr_call (Gives.to hPt fun w5 F5 => ?_)
      have lq := dB_len 3 q (by omega)
      have s4 := fun w K => addB (cx := false) (cy := true) H [32#8] (by simp; omega) w K
      rw [c1] at s4
      have s5 := fun w K => addB (cx := false) (cy := false) (H ++ [32#8]) (dB q) (by simp; omega) w K
      have hqn : ¬ (q : Int) = -1 := by omega
      have e5 : ptB (q : Int) = [32#8] ++ dB q := by unfold ptB; rw [if_neg hqn]; simp
      rw [e5, ← List.append_assoc] at hsucc
      simp (disch := (first | omega | decide | (simp only [World.size_alloc, World.size_setCell, World.size_drew, size_sets, List.mem_cons, List.not_mem_nil, or_false, not_false_eq_true] <;> omega) | fail)) only [↓rsObjF_0, rsObjF_1, Option.isNone_some, Option.isNone_none, tick_eq, tickV_eq, ne_eq, Int.reduceAdd, Int.reduceSub, Int.reduceMul, Int.reduceEq, Int.reduceLT, Int.reduceLE, Int.reduceToNat, Nat.reduceMul, Nat.reduceAdd, Nat.reduceSub, List.nil_append, List.cons_append, List.getElem?_toArray, List.getElem?_cons_zero, List.getElem?_cons_succ, List.setIfInBounds_toArray, List.set_cons_zero, List.set_cons_succ, Option.map_some, List.not_mem_nil, ←decide_not, kb, s1, s2, s3, kb6, s4]
      refine loamref17_Decimal_call (Gives.to (rDecimal_spec q (by omega) _) fun w6 F6 => ?_)
      simp (disch := (first | omega | decide | (simp only [World.size_alloc, World.size_setCell, World.size_drew, size_sets, List.mem_cons, List.not_mem_nil, or_false, not_false_eq_true] <;> omega) | fail)) only [↓rsObjF_0, rsObjF_1, Option.isNone_some, Option.isNone_none, tick_eq, tickV_eq, ne_eq, Int.reduceAdd, Int.reduceSub, Int.reduceMul, Int.reduceEq, Int.reduceLT, Int.reduceLE, Int.reduceToNat, Nat.reduceMul, Nat.reduceAdd, Nat.reduceSub, List.nil_append, List.cons_append, List.getElem?_toArray, List.getElem?_cons_zero, List.getElem?_cons_succ, List.setIfInBounds_toArray, List.set_cons_zero, List.set_cons_succ, Option.map_some, List.not_mem_nil, ←decide_not, kb, s1, s2, s3, kb6, s4, s5]
      unfold loamlaw16_text_j1
      simp (disch := (first | omega | decide | (simp only [World.size_alloc, World.size_setCell, World.size_drew, size_sets, List.mem_cons, List.not_mem_nil, or_false, not_false_eq_true] <;> omega) | fail)) only [↓rsObjF_0, rsObjF_1, Option.isNone_some, Option.isNone_none, tick_eq, tickV_eq, ne_eq, Int.reduceAdd, Int.reduceSub, Int.reduceMul, Int.reduceEq, Int.reduceLT, Int.reduceLE, Int.reduceToNat, Nat.reduceMul, Nat.reduceAdd, Nat.reduceSub, List.nil_append, List.cons_append, List.getElem?_toArray, List.getElem?_cons_zero, List.getElem?_cons_succ, List.setIfInBounds_toArray, List.set_cons_zero, List.set_cons_succ, Option.map_some, List.not_mem_nil, ←decide_not, kb, s1, s2, s3, kb6, s4, s5]
      rw [← hsucc]
      refine hnx _ ⟨F.trans (F5.trans F6), fun i hi => ?_⟩
      by_cases e : i = j
      · subst e; rw [hv]
      · exact hq i (by omega)
    · rw [hv] at hPt
      refine loamref14_Space_Ptr_call (Gives.to hPt fun w5 F5 => ?_)
      simp (disch := (first | omega | decide | (simp only [World.size_alloc, World.size_setCell, World.size_drew, size_sets, List.mem_cons, List.not_mem_nil, or_false, not_false_eq_true] <;> omega) | fail)) only [↓rsObjF_0, rsObjF_1, Option.isNone_some, Option.isNone_none, tick_eq, tickV_eq, ne_eq, Int.reduceAdd, Int.reduceSub, Int.reduceMul, Int.reduceEq, Int.reduceLT, Int.reduceLE, Int.reduceToNat, Nat.reduceMul, Nat.reduceAdd, Nat.reduceSub, List.nil_append, List.cons_append, List.getElem?_toArray, List.getElem?_cons_zero, List.getElem?_cons_succ, List.setIfInBounds_toArray, List.set_cons_zero, List.set_cons_succ, Option.map_some, List.not_mem_nil, ←decide_not, kb, s1, s2, s3, kb6]
      refine ⟨⟨formB, by rw [cf], .inr (.inr (.inl ⟨h, fun hp => ?_, rfl⟩))⟩, X4.trans (F.trans F5)⟩
      have := hp j (by simpa [hP] using hj)
      rw [Int.toNat_natCast, hv] at this
      cases this
  rintro u v1 hu ⟨F, hq⟩ nxt
  simp only [List.map_cons, List.map_nil, List.cons.injEq, and_true] at hu
  rw [hu.1, hu.2]
  have kb6 := fun i => (B4.ext F (by simp)).cell (i := i)
  have lh := headB_len (p := P) (b := N) (by omega) (by omega)
  have lp := ptsB_len ws b t o P
  have hpo : PtrsOk ws b t o := fun i hi => hq i (by omega)
  have hR := rRead_g (o : Int) 0 (N : Int) (S4.ext0 F)
  rw [rdE_in hO hN.symm, rdG_in hO hN.symm] at hR
  have hbody : bodyB ws b t o = headB P N ++ ptsB ws b t o P ++ tailB (bytesW ws ((o + 1 + pN (wat ws o)) * 8 + 0) N) := by unfold bodyB; rw [hP, hN]
  have hlen : (bytesW ws ((o + 1 + pN (wat ws o)) * 8 + 0) N).length = N := bytesW_length
  have lH : (headB P N ++ ptsB ws b t o P).length ≤ 400 := by rw [List.length_append]; omega
  unfold loamlaw16_text_l1
  generalize bytesW ws ((o + 1 + pN (wat ws o)) * 8 + 0) N = Z at *
  generalize hH : headB P N ++ ptsB ws b t o P = H at *
  simp (disch := (first | omega | decide | (simp only [World.size_alloc, World.size_setCell, World.size_drew, size_sets, List.mem_cons, List.not_mem_nil, or_false, not_false_eq_true] <;> omega) | fail)) only [↓rsObjF_0, rsObjF_1, Option.isNone_some, Option.isNone_none, tick_eq, tickV_eq, ne_eq, Int.reduceAdd, Int.reduceSub, Int.reduceMul, Int.reduceEq, Int.reduceLT, Int.reduceLE, Int.reduceToNat, Nat.reduceMul, Nat.reduceAdd, Nat.reduceSub, List.nil_append, List.cons_append, List.getElem?_toArray, List.getElem?_cons_zero, List.getElem?_cons_succ, List.setIfInBounds_toArray, List.set_cons_zero, List.set_cons_succ, Option.map_some, List.not_mem_nil, ←decide_not, kb, s1, s2, s3, kb6]
  refine loamref14_Space_Read_call (Yld.mono hR ?_)
  rintro u w5 ⟨F5, a5, c5, rfl, R5⟩
  by_cases hZ : Z = []
  · subst hZ
    have eb : bodyB ws b t o = H := by rw [hbody]; simp [tailB]
    simp (disch := (first | omega | decide | (simp only [World.size_alloc, World.size_setCell, World.size_drew, size_sets, List.mem_cons, List.not_mem_nil, or_false, not_false_eq_true] <;> omega) | fail)) only [↓rsObjF_0, rsObjF_1, Option.isNone_some, Option.isNone_none, tick_eq, tickV_eq, ne_eq, Int.reduceAdd, Int.reduceSub, Int.reduceMul, Int.reduceEq, Int.reduceLT, Int.reduceLE, Int.reduceToNat, Nat.reduceMul, Nat.reduceAdd, Nat.reduceSub, List.nil_append, List.cons_append, List.getElem?_toArray, List.getElem?_cons_zero, List.getElem?_cons_succ, List.setIfInBounds_toArray, List.set_cons_zero, List.set_cons_succ, Option.map_some, List.not_mem_nil, ←decide_not, kb, s1, s2, s3, kb6]
    exact ⟨⟨H, by trivial, .inr (.inr (.inr ⟨h, by simpa using hpo, by simpa using eb.symm⟩))⟩, X4.trans (F.trans F5)⟩
  · have hZl : 0 < Z.length := List.length_pos_iff.2 hZ
    have eb : bodyB ws b t o = H ++ [32#8] ++ hexB Z := by rw [hbody]; simp [tailB, hZ]
    have lZ := hexB_len Z
    have s4 := fun w K => addB (cx := false) (cy := true) H [32#8] (by simp; omega) w K
    rw [c1] at s4
    have s5 := fun w K => addB (cx := false) (cy := false) (H ++ [32#8]) (hexB Z) (by simp; omega) w K
    simp (disch := (first | omega | decide | (simp only [World.size_alloc, World.size_setCell, World.size_drew, size_sets, List.mem_cons, List.not_mem_nil, or_false, not_false_eq_true] <;> omega) | fail)) only [↓rsObjF_0, rsObjF_1, Option.isNone_some, Option.isNone_none, tick_eq, tickV_eq, ne_eq, Int.reduceAdd, Int.reduceSub, Int.reduceMul, Int.reduceEq, Int.reduceLT, Int.reduceLE, Int.reduceToNat, Nat.reduceMul, Nat.reduceAdd, Nat.reduceSub, List.nil_append, List.cons_append, List.getElem?_toArray, List.getElem?_cons_zero, List.getElem?_cons_succ, List.setIfInBounds_toArray, List.set_cons_zero, List.set_cons_succ, Option.map_some, List.not_mem_nil, ←decide_not, kb, s1, s2, s3, kb6, s4]
    refine loamref17_Hex_call (Gives.to (rHex_spec Z a5 c5 R5 (by omega)) fun w6 F6 => ?_)
    simp (disch := (first | omega | decide | (simp only [World.size_alloc, World.size_setCell, World.size_drew, size_sets, List.mem_cons, List.not_mem_nil, or_false, not_false_eq_true] <;> omega) | fail)) only [↓rsObjF_0, rsObjF_1, Option.isNone_some, Option.isNone_none, tick_eq, tickV_eq, ne_eq, Int.reduceAdd, Int.reduceSub, Int.reduceMul, Int.reduceEq, Int.reduceLT, Int.reduceLE, Int.reduceToNat, Nat.reduceMul, Nat.reduceAdd, Nat.reduceSub, List.nil_append, List.cons_append, List.getElem?_toArray, List.getElem?_cons_zero, List.getElem?_cons_succ, List.setIfInBounds_toArray, List.set_cons_zero, List.set_cons_succ, Option.map_some, List.not_mem_nil, ←decide_not, kb, s1, s2, s3, kb6, s4, s5]
    exact ⟨⟨H ++ [32#8] ++ hexB Z, by trivial, .inr (.inr (.inr ⟨h, by simpa using hpo, by simpa using eb.symm⟩))⟩, X4.trans (F.trans (F5.trans F6))⟩
end
end Go.Proofs.YtknineilpenbnaaDoor
