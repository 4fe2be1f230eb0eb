/- What the statements on objects know (sq). -/
import Derived.Test.YtknineilpenbnaaDoorObjK
set_option linter.unusedVariables false
set_option linter.unusedSimpArgs false
set_option maxHeartbeats 4000000
namespace Go.Proofs.YtknineilpenbnaaDoor
open Go.Sh Go.RowKit

abbrev kw0 : List (BitVec 64) := alW (List.replicate 20 c0) 0 (packW 1 3 false 0) 3
abbrev kw1 : List (BitVec 64) := kw0.set 1 (BitVec.ofInt 64 1)
abbrev kw2 : List (BitVec 64) := setBytesW kw1 17 [BitVec.ofNat 8 120]
theorem kw_obj : ObjAt kw0 0 3 0 ∧ ObjAt kw1 0 3 0 ∧ ObjAt kw2 0 3 0 ∧ pN (wat kw0 0) = 1 ∧ bN (wat kw0 0) = 3 ∧ pN (wat kw1 0) = 1 ∧ bN (wat kw1 0) = 3 ∧ pN (wat kw2 0) = 1 ∧ bN (wat kw2 0) = 3 := by
  have h0 : okW (wat kw0 0) ∧ 0 + szW (wat kw0 0) ≤ 3 ∧ pN (wat kw0 0) = 1 ∧ bN (wat kw0 0) = 3 := by decide +kernel
  have h1 : okW (wat kw1 0) ∧ 0 + szW (wat kw1 0) ≤ 3 ∧ pN (wat kw1 0) = 1 ∧ bN (wat kw1 0) = 3 := by decide +kernel
  have h2 : okW (wat kw2 0) ∧ 0 + szW (wat kw2 0) ≤ 3 ∧ pN (wat kw2 0) = 1 ∧ bN (wat kw2 0) = 3 := by decide +kernel
  exact ⟨⟨Nat.le_refl _, h0.1, h0.2.1⟩, ⟨Nat.le_refl _, h1.1, h1.2.1⟩, ⟨Nat.le_refl _, h2.1, h2.2.1⟩, h0.2.2.1, h0.2.2.2, h1.2.2.1, h1.2.2.2, h2.2.2.1, h2.2.2.2⟩
theorem kw_facts : ptrV 0 3 (wat kw2 1) = (0, 0) ∧ bytesW kw2 16 3 = [BitVec.ofNat 8 0, BitVec.ofNat 8 120, BitVec.ofNat 8 0] ∧ szW (wat kw2 0) = 3 ∧ (wat kw2 1).toNat = 1 ∧ (∀ j, j < 24 → 19 ≤ j → byteW kw2 j = BitVec.ofNat 8 0) := by decide +kernel
abbrev rsObjL_0 := (And.intro @xBox_r (And.intro @loadK_some (And.intro @loadsK_s (And.intro @loadsK_n (And.intro @loadsR_s (And.intro @loadsR_n (And.intro @storesK_s (And.intro @storesK_n (And.intro @xPick_t (And.intro @xPick_f (And.intro @xGuard_tt (And.intro @xGuard_ff (And.intro @xGuard_tf (And.intro @xGuard_ft (And.intro @xGuard_u 
  (And.intro @xNil_r (And.intro @xIf_t (And.intro @xBin_add' (And.intro @xBin_sub' (And.intro @xBin_mul' (And.intro @xBin_quo' (And.intro @xBin_rem' (And.intro @xIf_f (And.intro @xIf_tt (And.intro @xEx0 (And.intro @xEx1 (And.intro @xEx2 (And.intro @xEx3 (And.intro @xBin_eqs (And.intro @xBin_nes (And.intro @xUn_not (And.intro @xu8_add (And.intro @xu8_eql 
  (And.intro @xu8_neq (And.intro @xu16_add (And.intro @xu16_eql (And.intro @xu16_neq (And.intro @xu32_add (And.intro @xu32_eql (And.intro @xu32_neq (And.intro @xu64_add (And.intro @xu64_eql (And.intro @xu64_neq (And.intro @xi64_eql (And.intro @xi64_neq (And.intro @xi64_neg (And.intro @xMakeFunc_r (And.intro @xSq_r (And.intro @xPur_s (And.intro @xRd_s 
  (And.intro @xRe_s (And.intro @xDet_s (And.intro @xDet_ld (And.intro @xDet_ld2 (And.intro @xDet_ld3 (And.intro @xDet_ld4 (And.intro @xGuard_tt (And.intro @ld_24 (And.intro @fa_65_0 (And.intro @bd_34_0_1 (And.intro @bd_34_0 (And.intro @bd_34_1 (And.intro @bd_34_2_3 (And.intro @bd_34 (And.intro @bs_22_1 (And.intro @bs_22_2 (And.intro @nq_24 (And.intro @nq_28 @nn_24))))))))))))))))))))))))))))))))))))))))))))))))))))))))))))))))))))
abbrev rsObjL_1 := (And.intro @setCells_c (And.intro @setCells_n (And.intro @World.setCell_alloc_at (And.intro @World.setCell_alloc_past (And.intro @World.cell?_alloc_at (And.intro @World.cell?_alloc_past (And.intro @World.frozen?_alloc_at (And.intro @World.frozen?_alloc_past 
  (And.intro @World.size_alloc (And.intro @dlt_t (And.intro @dlt_f (And.intro @dle_t (And.intro @dle_f (And.intro @deq_t (And.intro @deq_f (And.intro @dne_t (And.intro @dne_f (And.intro @not_true_eq_false (And.intro @Bool.false_and (And.intro @Bool.true_and (And.intro @Bool.and_true (And.intro @Bool.and_false (And.intro @wrap_in (And.intro @Int.toNat_natCast 
  (And.intro @Nat.mul_one (And.intro @cells_int (And.intro @cells_bool (And.intro @cells_string (And.intro @cells_slice (And.intro @cells_pointer (And.intro @cells_agg (And.intro @one_int (And.intro @one_bool (And.intro @one_string (And.intro @one_slice (And.intro @one_pointer (And.intro @beq_tt (And.intro @beq_ff (And.intro @beq_tf 
  (And.intro @beq_ft (And.intro @cell_sets_b (And.intro @frozen_sets (And.intro @size_sets (And.intro @World.size_drew (And.intro @Nat.zero_add (And.intro @Nat.add_zero (And.intro @cell_drew (And.intro @frozen_drew (And.intro @cell_set_eq (And.intro @cell_set_o (And.intro @cell_set_b (And.intro @World.frozen?_setCell 
  (And.intro @decide_true (And.intro @decide_false (And.intro @not_false_eq_true (And.intro @Bool.not_true @Bool.not_false))))))))))))))))))))))))))))))))))))))))))))))))))))))))
theorem known16_spec (w : World) : Yld Tryd.prog n_loamlaw16_known #[] w fun u w' => u = .bool true ∧ Ext [] w w' := by
  obtain ⟨O0, O1, O2, p0, b0, p1, b1, p2, b2⟩ := kw_obj
  obtain ⟨f1, f2, f3, f4, f5⟩ := kw_facts
  refine loamlaw16_known_of ?_
  unfold loamlaw16_known
  refine mem_New_call (Yld.mono (New_spec 20 w (by decide)) ?_)
  rintro u w1 ⟨F1, g, a, c, rfl, M⟩
  simp (disch := (first | omega | decide | (simp only [World.size_alloc, World.size_setCell, World.size_drew, size_sets, List.mem_cons, List.not_mem_nil, or_false, not_false_eq_true] <;> omega) | fail)) only [↓rsObjL_0, rsObjL_1, Option.isNone_some, Option.isNone_none, tick_eq, tickV_eq, ne_eq, Int.reduceAdd, Int.reduceSub, Int.reduceMul, Int.reduceEq, Int.reduceLT, Int.reduceLE, Int.reduceToNat, Nat.reduceMul, Nat.reduceAdd, Nat.reduceSub, List.nil_append, List.cons_append, List.getElem?_toArray, List.getElem?_cons_zero, List.getElem?_cons_succ, List.setIfInBounds_toArray, List.set_cons_zero, List.set_cons_succ, Option.map_some, List.not_mem_nil, ←decide_not, eq_self]
  refine space_New_call (Yld.mono (SNew_ok (b := 0) (e := 20) M (by decide) (by simp)) ?_)
  rintro u w2 ⟨F2, s, rfl, z1, z2, S2⟩
  have k2 := fun i => S2.blk.cell (i := i)
  simp (disch := (first | omega | decide | (simp only [World.size_alloc, World.size_setCell, World.size_drew, size_sets, List.mem_cons, List.not_mem_nil, or_false, not_false_eq_true] <;> omega) | fail)) only [↓rsObjL_0, rsObjL_1, Option.isNone_some, Option.isNone_none, tick_eq, tickV_eq, ne_eq, Int.reduceAdd, Int.reduceSub, Int.reduceMul, Int.reduceEq, Int.reduceLT, Int.reduceLE, Int.reduceToNat, Nat.reduceMul, Nat.reduceAdd, Nat.reduceSub, List.nil_append, List.cons_append, List.getElem?_toArray, List.getElem?_cons_zero, List.getElem?_cons_succ, List.setIfInBounds_toArray, List.set_cons_zero, List.set_cons_succ, Option.map_some, List.not_mem_nil, ←decide_not, k2]
  have zs := F1.size
  have ub : ∀ x ∈ blkOf a, w.heap.size ≤ x := M.up
  have X2 : Ext [] w w2 := F1.trans F2
  refine space_Space_Alloc_call (Yld.mono (SAlloc_ok (p := 1) (bb := 3) (n := 3) S2 (by decide) (by decide) (by decide)) ?_)
  rintro u w3 ⟨hu, F3, S3⟩
  have hu3 : u = .tuple #[i64 0, i64 0] := hu
  subst hu3
  have S3' : SpIs w3 w.heap.size s g a c kw0 0 3 20 := S3
  have X3 : Ext [] w w3 := X2.new F3 (fun x hx => by
    rcases List.mem_cons.1 hx with rfl | hx
    · omega
    · exact ub x hx)
  clear S3
  simp (disch := (first | omega | decide | (simp only [World.size_alloc, World.size_setCell, World.size_drew, size_sets, List.mem_cons, List.not_mem_nil, or_false, not_false_eq_true] <;> omega) | fail)) only [↓rsObjL_0, rsObjL_1, Option.isNone_some, Option.isNone_none, tick_eq, tickV_eq, ne_eq, Int.reduceAdd, Int.reduceSub, Int.reduceMul, Int.reduceEq, Int.reduceLT, Int.reduceLE, Int.reduceToNat, Nat.reduceMul, Nat.reduceAdd, Nat.reduceSub, List.nil_append, List.cons_append, List.getElem?_toArray, List.getElem?_cons_zero, List.getElem?_cons_succ, List.setIfInBounds_toArray, List.set_cons_zero, List.set_cons_succ, Option.map_some, List.not_mem_nil, ←decide_not, k2]
  refine obj_SetPtr_call (Yld.mono (SetPtr_ok (i := 0) (to := 0) S3' O0 (show 0 < pN (wat kw0 0) by omega) (.inr (by decide))) ?_)
  rintro u w4 ⟨rfl, F4, S4⟩
  have S4' : SpIs w4 w.heap.size s g a c kw1 0 3 20 := S4
  clear S4
  have X4 : Ext [] w w4 := X3.new F4 ub
  simp (disch := (first | omega | decide | (simp only [World.size_alloc, World.size_setCell, World.size_drew, size_sets, List.mem_cons, List.not_mem_nil, or_false, not_false_eq_true] <;> omega) | fail)) only [↓rsObjL_0, rsObjL_1, Option.isNone_some, Option.isNone_none, tick_eq, tickV_eq, ne_eq, Int.reduceAdd, Int.reduceSub, Int.reduceMul, Int.reduceEq, Int.reduceLT, Int.reduceLE, Int.reduceToNat, Nat.reduceMul, Nat.reduceAdd, Nat.reduceSub, List.nil_append, List.cons_append, List.getElem?_toArray, List.getElem?_cons_zero, List.getElem?_cons_succ, List.setIfInBounds_toArray, List.set_cons_zero, List.set_cons_succ, Option.map_some, List.not_mem_nil, ←decide_not, k2]
  have hw1 : kw1 ≠ [] := by decide
  have za := S4'.mem.blt hw1
  refine xConv_bytes (e := 5) (cs := bys [BitVec.ofNat 8 120]) (by kernel_rfl) (by kernel_rfl) fun w5 F5 R5 z5 => ?_
  have S5 := S4'.ext0 F5
  refine obj_Write_call (Yld.mono (OWrite_ok (from' := 1) (l := [BitVec.ofNat 8 120]) S5 O1 (show 1 + 1 ≤ bN (wat kw1 0) by omega) R5 (fun _ bb oo hbb hm => by
    simp only [Option.some.injEq, Addr.mk.injEq, and_true] at hbb
    have := za _ hm
    omega)) ?_)
  rintro u w6 ⟨rfl, F6, S6⟩
  rw [p1] at S6
  have S6' : SpIs w6 w.heap.size s g a c kw2 0 3 20 := S6
  clear S6
  have X6 : Ext [] w w6 := (X4.trans F5).new F6 ub
  simp (disch := (first | omega | decide | (simp only [World.size_alloc, World.size_setCell, World.size_drew, size_sets, List.mem_cons, List.not_mem_nil, or_false, not_false_eq_true] <;> omega) | fail)) only [↓rsObjL_0, rsObjL_1, Option.isNone_some, Option.isNone_none, tick_eq, tickV_eq, ne_eq, Int.reduceAdd, Int.reduceSub, Int.reduceMul, Int.reduceEq, Int.reduceLT, Int.reduceLE, Int.reduceToNat, Nat.reduceMul, Nat.reduceAdd, Nat.reduceSub, List.nil_append, List.cons_append, List.getElem?_toArray, List.getElem?_cons_zero, List.getElem?_cons_succ, List.setIfInBounds_toArray, List.set_cons_zero, List.set_cons_succ, Option.map_some, List.not_mem_nil, ←decide_not, k2]
  have hP : Gives Tryd.prog n_obj_Ptr #[ptr s, i64 0, i64 0] w6 (.tuple #[i64 0, i64 0]) := by
    have := Ptr_ok (i := 0) S6' O2 (show 0 < pN (wat kw2 0) by omega)
    rw [show 0 + 1 + 0 = 1 by rfl, f1] at this
    exact this
  refine obj_Ptr_call (Gives.to hP fun w7 F7 => ?_)
  have S7 := S6'.ext0 F7
  simp (disch := (first | omega | decide | (simp only [World.size_alloc, World.size_setCell, World.size_drew, size_sets, List.mem_cons, List.not_mem_nil, or_false, not_false_eq_true] <;> omega) | fail)) only [↓rsObjL_0, rsObjL_1, Option.isNone_some, Option.isNone_none, tick_eq, tickV_eq, ne_eq, Int.reduceAdd, Int.reduceSub, Int.reduceMul, Int.reduceEq, Int.reduceLT, Int.reduceLE, Int.reduceToNat, Nat.reduceMul, Nat.reduceAdd, Nat.reduceSub, List.nil_append, List.cons_append, List.getElem?_toArray, List.getElem?_cons_zero, List.getElem?_cons_succ, List.setIfInBounds_toArray, List.set_cons_zero, List.set_cons_succ, Option.map_some, List.not_mem_nil, ←decide_not, k2]
  have hR : Yld Tryd.prog n_obj_Read #[ptr s, i64 0, i64 0, i64 3] w7 fun u w' => BytesR w7 w' u [BitVec.ofNat 8 0, BitVec.ofNat 8 120, BitVec.ofNat 8 0] := by
    have := ORead_ok (from' := 0) (n := 3) S7 O2 (show 0 + 3 ≤ bN (wat kw2 0) by omega)
    rw [p2, show (0 + 1 + 1) * 8 + 0 = 16 by rfl, f2] at this
    exact this
  refine obj_Read_call (Yld.mono hR ?_)
  rintro u w8 ⟨F8, a8, c8', rfl, hc8, R8, U8⟩
  have S8 := S7.ext0 F8
  simp (disch := (first | omega | decide | (simp only [World.size_alloc, World.size_setCell, World.size_drew, size_sets, List.mem_cons, List.not_mem_nil, or_false, not_false_eq_true] <;> omega) | fail)) only [↓rsObjL_0, rsObjL_1, Option.isNone_some, Option.isNone_none, tick_eq, tickV_eq, ne_eq, Int.reduceAdd, Int.reduceSub, Int.reduceMul, Int.reduceEq, Int.reduceLT, Int.reduceLE, Int.reduceToNat, Nat.reduceMul, Nat.reduceAdd, Nat.reduceSub, List.nil_append, List.cons_append, List.getElem?_toArray, List.getElem?_cons_zero, List.getElem?_cons_succ, List.setIfInBounds_toArray, List.set_cons_zero, List.set_cons_succ, Option.map_some, List.not_mem_nil, ←decide_not, k2]
  have hP1 : Gives Tryd.prog n_obj_Ptr #[ptr s, i64 0, i64 1] w8 (.tuple #[i64 0, i64 1]) := Ptr_arg (i := 1) S8 O2 (.inr (show (pN (wat kw2 0) : Int) ≤ 1 by omega))
  refine obj_Ptr_call (Gives.to hP1 fun w9 F9 => ?_)
  have S9 := S8.ext0 F9
  have R9 := R8.ext0 F9
  have s9 := strB (c := c8') rfl R9
  have d9 : decide (strOf [BitVec.ofNat 8 0, BitVec.ofNat 8 120, BitVec.ofNat 8 0] = { data := #[0, 120, 0] }) = true := by decide +kernel
  simp (disch := (first | omega | decide | (simp only [World.size_alloc, World.size_setCell, World.size_drew, size_sets, List.mem_cons, List.not_mem_nil, or_false, not_false_eq_true] <;> omega) | fail)) only [↓rsObjL_0, rsObjL_1, Option.isNone_some, Option.isNone_none, tick_eq, tickV_eq, ne_eq, Int.reduceAdd, Int.reduceSub, Int.reduceMul, Int.reduceEq, Int.reduceLT, Int.reduceLE, Int.reduceToNat, Nat.reduceMul, Nat.reduceAdd, Nat.reduceSub, List.nil_append, List.cons_append, List.getElem?_toArray, List.getElem?_cons_zero, List.getElem?_cons_succ, List.setIfInBounds_toArray, List.set_cons_zero, List.set_cons_succ, Option.map_some, List.not_mem_nil, ←decide_not, k2, s9, d9]
  have hObj : Objs kw2 3 0 [0] := .cons O2.ok O2.hi (by rw [f3]; exact .nil)
  refine obj_Well_call (Gives.to (Well_ok S9 hObj (fun o ho => by
    obtain rfl : o = 0 := by simpa using ho
    refine ⟨fun i hi => ?_, fun j h1 h2 => f5 j ?_ ?_⟩
    · have hi0 : i = 0 := by
        have : i < pN (wat kw2 0) := hi
        omega
      subst hi0
      exact .inr ⟨by show (wat kw2 1).toNat ≤ 8192; omega, by show 1 ≤ (wat kw2 1).toNat; omega, by show (wat kw2 1).toNat - 1 ∈ [0]; rw [f4]; decide⟩
    · have h3 : j < (0 + szW (wat kw2 0)) * 8 := h2
      rw [f3] at h3
      omega
    · have h3 : (0 + 1 + pN (wat kw2 0)) * 8 + bN (wat kw2 0) ≤ j := h1
      rw [p2, b2] at h3
      omega)) fun w10 F10 => ?_)
  have S10 := S9.ext0 F10
  simp (disch := (first | omega | decide | (simp only [World.size_alloc, World.size_setCell, World.size_drew, size_sets, List.mem_cons, List.not_mem_nil, or_false, not_false_eq_true] <;> omega) | fail)) only [↓rsObjL_0, rsObjL_1, Option.isNone_some, Option.isNone_none, tick_eq, tickV_eq, ne_eq, Int.reduceAdd, Int.reduceSub, Int.reduceMul, Int.reduceEq, Int.reduceLT, Int.reduceLE, Int.reduceToNat, Nat.reduceMul, Nat.reduceAdd, Nat.reduceSub, List.nil_append, List.cons_append, List.getElem?_toArray, List.getElem?_cons_zero, List.getElem?_cons_succ, List.setIfInBounds_toArray, List.set_cons_zero, List.set_cons_succ, Option.map_some, List.not_mem_nil, ←decide_not, k2, s9, d9]
  refine obj_Text_call (Yld.mono (Text_known S10 O2 p2 b2 f1 f2) ?_)
  rintro u w11 ⟨rfl, F11⟩
  have d11 : decide (({ data := #[49, 32, 51, 58, 32, 48, 32, 48, 48, 55, 56, 48, 48] } : ByteArray) = { data := #[49, 32, 51, 58, 32, 48, 32, 48, 48, 55, 56, 48, 48] }) = true := by simp
  simp (disch := (first | omega | decide | (simp only [World.size_alloc, World.size_setCell, World.size_drew, size_sets, List.mem_cons, List.not_mem_nil, or_false, not_false_eq_true] <;> omega) | fail)) only [↓rsObjL_0, rsObjL_1, Option.isNone_some, Option.isNone_none, tick_eq, tickV_eq, ne_eq, Int.reduceAdd, Int.reduceSub, Int.reduceMul, Int.reduceEq, Int.reduceLT, Int.reduceLE, Int.reduceToNat, Nat.reduceMul, Nat.reduceAdd, Nat.reduceSub, List.nil_append, List.cons_append, List.getElem?_toArray, List.getElem?_cons_zero, List.getElem?_cons_succ, List.setIfInBounds_toArray, List.set_cons_zero, List.set_cons_succ, Option.map_some, List.not_mem_nil, ←decide_not, k2, s9, d9, d11]
  exact ⟨by trivial, X6.trans (F7.trans (F8.trans (F9.trans (F10.trans F11))))⟩
end Go.Proofs.YtknineilpenbnaaDoor
