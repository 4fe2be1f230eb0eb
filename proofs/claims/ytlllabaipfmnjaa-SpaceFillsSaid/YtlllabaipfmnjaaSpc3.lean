/- The document's spaces, walked (sq). -/
import Derived.Test.YtlllabaipfmnjaaSpc2
set_option linter.unusedVariables false
set_option linter.unusedSimpArgs false
set_option maxHeartbeats 4000000
namespace Go.Proofs.Ytlllabaipfmnjaa
open Go.Sh Go.RowKit

abbrev rfC (r : Option Addr) (n c b t e : Nat) : List Value := [.slice r n c, i64 (b : Int), i64 (t : Int), i64 (e : Int)]
structure RfIs (w : World) (m : Nat) (r : Option Addr) (c : Nat) (ws : List (BitVec 64)) (b t e : Nat) : Prop where
  blk : Blk w m 105 (rfC r ws.length c b t e)
  row : RowAt w r (wrds ws)
  cap : ws.length ≤ c
  nil : r = none → c = 0
  mr : ws ≠ [] → m ∉ blkOf r
  len : ws.length ≤ 8192
  bt : b ≤ t
  te : t ≤ e
  el : e ≤ ws.length
theorem row_not {w : World} {r : Option Addr} {cs : List Value} {M : List Nat} (h : ∀ x ∈ blkOf r, x ∉ M) : ∀ b o, r = some ⟨b, o, none⟩ → b ∉ M := fun b o e => h b (by subst e; simp [blkOf])
theorem blkOf_eq {a : Option Addr} {n c : Nat} : blkOf a = blk (.slice a n c) := by cases a <;> rfl
section
variable {w : World} {m : Nat} {r : Option Addr} {c : Nat} {ws : List (BitVec 64)} {b t e : Nat}
theorem RfIs.ext {w' : World} {M : List Nat} (h : RfIs w m r c ws b t e) (hx : Ext M w w') (hm : m ∉ M) (hr : ws ≠ [] → ∀ x ∈ blkOf r, x ∉ M) : RfIs w' m r c ws b t e := by
  refine ⟨h.blk.ext hx hm, ?_, h.cap, h.nil, h.mr, h.len, h.bt, h.te, h.el⟩
  by_cases hw : ws = []
  · subst hw; exact RowAt.nil
  · exact h.row.ext hx (row_not (cs := []) (w := w) (hr hw))
theorem RfIs.ext0 {w' : World} (h : RfIs w m r c ws b t e) (hx : Ext [] w w') : RfIs w' m r c ws b t e := h.ext hx (by simp) (by simp)
theorem rSizeW_spec {x : BitVec 64} (h : okW x) (w : World) : Gives Try.prog n_loamref14_Size #[hd (vP x) (vB x) false (vT x)] w (i64 (szW x : Int)) := by
  have e := (okW_size h).1
  rw [(okW_size h).2.2.1] at e
  rw [← e]
  exact rSize_spec _ _ _ _ w
abbrev rsSpc3_0 := (And.intro @xBox_r (And.intro @loadK_some (And.intro @loadsK_s (And.intro @loadsK_n (And.intro @loadsR_s (And.intro @loadsR_n (And.intro @storesK_s (And.intro @storesK_n (And.intro @xPick_t (And.intro @xPick_f (And.intro @xGuard_tt (And.intro @xGuard_ff (And.intro @xGuard_tf (And.intro @xGuard_ft (And.intro @xGuard_u 
  (And.intro @xNil_r (And.intro @xIf_t (And.intro @xBin_add' (And.intro @xBin_sub' (And.intro @xBin_mul' (And.intro @xBin_quo' (And.intro @xBin_rem' (And.intro @xIf_f (And.intro @xIf_tt (And.intro @xEx0 (And.intro @xEx1 (And.intro @xEx2 (And.intro @xEx3 (And.intro @xBin_eqs (And.intro @xBin_nes (And.intro @xUn_not (And.intro @xu8_lss (And.intro @xu8_geq 
  (And.intro @xu16_lss (And.intro @xu16_geq (And.intro @xu32_lss (And.intro @xu32_geq (And.intro @xu64_lss (And.intro @xu64_geq (And.intro @xi64_lss (And.intro @xi64_geq (And.intro @xMakeFunc_r (And.intro @xSq_r (And.intro @xPur_s (And.intro @xRd_s (And.intro @xRe_s (And.intro @xDet_s (And.intro @xDet_ld (And.intro @xDet_ld2 (And.intro @xDet_ld3 
  (And.intro @xDet_ld4 (And.intro @xGuard_tt (And.intro @ld_3 (And.intro @ld_29 (And.intro @ld_30 (And.intro @lr_108 (And.intro @fa_105_0 (And.intro @fa_105_1 (And.intro @fa_105_2 (And.intro @al_108 (And.intro @st_108 (And.intro @bd_108_0_1_2_3 (And.intro @bd_108_0_1 (And.intro @bd_108_2_3 (And.intro @bd_108 @ia_30)))))))))))))))))))))))))))))))))))))))))))))))))))))))))))))))))
abbrev rsSpc3_1 := (And.intro @setCells_c (And.intro @setCells_n (And.intro @World.setCell_alloc_at (And.intro @World.setCell_alloc_past (And.intro @World.cell?_alloc_at (And.intro @World.cell?_alloc_past (And.intro @World.frozen?_alloc_at (And.intro @World.frozen?_alloc_past 
  (And.intro @World.size_alloc (And.intro @dlt_t (And.intro @dlt_f (And.intro @dle_t (And.intro @dle_f (And.intro @deq_t (And.intro @deq_f (And.intro @dne_t (And.intro @dne_f (And.intro @not_true_eq_false (And.intro @Bool.false_and (And.intro @Bool.true_and (And.intro @Bool.and_true (And.intro @Bool.and_false (And.intro @wrap_in (And.intro @Int.toNat_natCast 
  (And.intro @Nat.mul_one (And.intro @cells_int (And.intro @cells_bool (And.intro @cells_string (And.intro @cells_slice (And.intro @cells_pointer (And.intro @cells_agg (And.intro @one_int (And.intro @one_bool (And.intro @one_string (And.intro @one_slice (And.intro @one_pointer (And.intro @beq_tt (And.intro @beq_ff (And.intro @beq_tf 
  (And.intro @beq_ft (And.intro @cell_sets_b (And.intro @frozen_sets (And.intro @size_sets (And.intro @World.size_drew (And.intro @Nat.zero_add (And.intro @Nat.add_zero (And.intro @cell_drew (And.intro @frozen_drew (And.intro @cell_set_eq (And.intro @cell_set_o (And.intro @cell_set_b (And.intro @World.frozen?_setCell 
  (And.intro @decide_true (And.intro @decide_false (And.intro @not_false_eq_true (And.intro @Bool.not_true @Bool.not_false))))))))))))))))))))))))))))))))))))))))))))))))))))))))
theorem rHead_in {o : Nat} (h : RfIs w m r c ws b t e) (h1 : b ≤ o) (h2 : o < t) : Gives Try.prog n_loamref14_Space_Head #[ptr m, i64 (o : Int)] w (.tuple #[hd (vP (wat ws o)) (vB (wat ws o)) (vM (wat ws o)) (vT (wat ws o)), i64 (unErr (wat ws o))]) := by
  have h3 := h.te
  have h4 := h.el
  have h5 := h.len
  have ho : o < ws.length := by omega
  refine loamref14_Space_Head_of ?_
  unfold loamref14_Space_Head
  have B : Blk (w.alloc (.cells #[i64 0, i64 0, .bool false, i64 0] 108)) w.heap.size 108 [i64 0, i64 0, .bool false, i64 0] := Blk.at rfl
  have X : Ext [] w (w.alloc (.cells #[i64 0, i64 0, .bool false, i64 0] 108)) := Ext.alloc _ _ _
  have R := h.ext0 X
  have k := fun i => R.blk.cell (i := i)
  obtain ⟨bb, oo, rfl, hb, hc⟩ := R.row.at (i := o) (by simpa using ho)
  simp only [List.getElem_map] at hc
  have hv : ws[o] = wat ws o := by unfold wat; rw [List.getD_eq_getElem?_getD, List.getElem?_eq_getElem ho]; rfl
  rw [hv] at hc
  have z := h.blk.lt
  have kw := fun i => h.blk.cell (i := i)
  simp (disch := (first | omega | decide | (simp only [World.size_alloc, World.size_setCell, World.size_drew, size_sets, List.mem_cons, List.not_mem_nil, or_false, not_false_eq_true] <;> omega) | fail)) only [↓rsSpc3_0, rsSpc3_1, Option.isNone_some, Option.isNone_none, tick_eq, tickV_eq, ne_eq, Int.reduceAdd, Int.reduceSub, Int.reduceMul, Int.reduceEq, Int.reduceLT, Int.reduceLE, Int.reduceToNat, Nat.reduceMul, Nat.reduceAdd, Nat.reduceSub, List.nil_append, List.cons_append, List.getElem?_toArray, List.getElem?_cons_zero, List.getElem?_cons_succ, List.setIfInBounds_toArray, List.set_cons_zero, List.set_cons_succ, Option.map_some, List.not_mem_nil, ←decide_not, k, hc, kw]
  refine loamref14_Unpack_call (Gives.to (rUnpack_spec _ _) fun w2 F2 => ?_)
  have k2 := fun i => (B.ext F2 (by simp)).cell (i := i)
  have f2 := fun i => (B.ext F2 (by simp)).frozen (i := i)
  simp (disch := (first | omega | decide | (simp only [World.size_alloc, World.size_setCell, World.size_drew, size_sets, List.mem_cons, List.not_mem_nil, or_false, not_false_eq_true] <;> omega) | fail)) only [↓rsSpc3_0, rsSpc3_1, Option.isNone_some, Option.isNone_none, tick_eq, tickV_eq, ne_eq, Int.reduceAdd, Int.reduceSub, Int.reduceMul, Int.reduceEq, Int.reduceLT, Int.reduceLE, Int.reduceToNat, Nat.reduceMul, Nat.reduceAdd, Nat.reduceSub, List.nil_append, List.cons_append, List.getElem?_toArray, List.getElem?_cons_zero, List.getElem?_cons_succ, List.setIfInBounds_toArray, List.set_cons_zero, List.set_cons_succ, Option.map_some, List.not_mem_nil, ←decide_not, k, hc, kw, k2, f2]
  exact ⟨by trivial, ((((X.trans F2).set' (.inr (Nat.le_refl _))).set' (.inr (Nat.le_refl _))).set' (.inr (Nat.le_refl _))).set' (.inr (Nat.le_refl _))⟩
theorem rHead_out {o : Int} (h : RfIs w m r c ws b t e) (h1 : o < b ∨ t ≤ o) : Gives Try.prog n_loamref14_Space_Head #[ptr m, i64 o] w (.tuple #[hd 0 0 false 0, i64 1]) := by
  refine loamref14_Space_Head_of ?_
  unfold loamref14_Space_Head
  have k := fun i => h.blk.cell (i := i)
  have z := h.blk.lt
  simp (disch := (first | omega | decide | (simp only [World.size_alloc, World.size_setCell, World.size_drew, size_sets, List.mem_cons, List.not_mem_nil, or_false, not_false_eq_true] <;> omega) | fail)) only [↓rsSpc3_0, rsSpc3_1, Option.isNone_some, Option.isNone_none, tick_eq, tickV_eq, ne_eq, Int.reduceAdd, Int.reduceSub, Int.reduceMul, Int.reduceEq, Int.reduceLT, Int.reduceLE, Int.reduceToNat, Nat.reduceMul, Nat.reduceAdd, Nat.reduceSub, List.nil_append, List.cons_append, List.getElem?_toArray, List.getElem?_cons_zero, List.getElem?_cons_succ, List.setIfInBounds_toArray, List.set_cons_zero, List.set_cons_succ, Option.map_some, List.not_mem_nil, ←decide_not, k]
  by_cases h2 : o < b
  · simp (disch := (first | omega | decide | (simp only [World.size_alloc, World.size_setCell, World.size_drew, size_sets, List.mem_cons, List.not_mem_nil, or_false, not_false_eq_true] <;> omega) | fail)) only [↓rsSpc3_0, rsSpc3_1, Option.isNone_some, Option.isNone_none, tick_eq, tickV_eq, ne_eq, Int.reduceAdd, Int.reduceSub, Int.reduceMul, Int.reduceEq, Int.reduceLT, Int.reduceLE, Int.reduceToNat, Nat.reduceMul, Nat.reduceAdd, Nat.reduceSub, List.nil_append, List.cons_append, List.getElem?_toArray, List.getElem?_cons_zero, List.getElem?_cons_succ, List.setIfInBounds_toArray, List.set_cons_zero, List.set_cons_succ, Option.map_some, List.not_mem_nil, ←decide_not, k]
    exact ⟨by trivial, by (repeat (first | with_reducible exact Ext.refl _ _ | with_reducible assumption | with_reducible refine Ext.alloc' ?_ _ | with_reducible refine Ext.drew' ?_ | with_reducible refine Ext.set' ?_ ?_ | exact .inr (by first | omega | (simp only [World.size_alloc, World.size_drew, World.size_setCell] <;> omega)) | refine Ext.trans ?_ (by with_reducible assumption)))⟩
  · simp (disch := (first | omega | decide | (simp only [World.size_alloc, World.size_setCell, World.size_drew, size_sets, List.mem_cons, List.not_mem_nil, or_false, not_false_eq_true] <;> omega) | fail)) only [↓rsSpc3_0, rsSpc3_1, Option.isNone_some, Option.isNone_none, tick_eq, tickV_eq, ne_eq, Int.reduceAdd, Int.reduceSub, Int.reduceMul, Int.reduceEq, Int.reduceLT, Int.reduceLE, Int.reduceToNat, Nat.reduceMul, Nat.reduceAdd, Nat.reduceSub, List.nil_append, List.cons_append, List.getElem?_toArray, List.getElem?_cons_zero, List.getElem?_cons_succ, List.setIfInBounds_toArray, List.set_cons_zero, List.set_cons_succ, Option.map_some, List.not_mem_nil, ←decide_not, k]
    exact ⟨by trivial, by (repeat (first | with_reducible exact Ext.refl _ _ | with_reducible assumption | with_reducible refine Ext.alloc' ?_ _ | with_reducible refine Ext.drew' ?_ | with_reducible refine Ext.set' ?_ ?_ | exact .inr (by first | omega | (simp only [World.size_alloc, World.size_drew, World.size_setCell] <;> omega)) | refine Ext.trans ?_ (by with_reducible assumption)))⟩
abbrev rsSpc3_2 := (And.intro @xBox_r (And.intro @loadK_some (And.intro @loadsK_s (And.intro @loadsK_n (And.intro @loadsR_s (And.intro @loadsR_n (And.intro @storesK_s (And.intro @storesK_n (And.intro @xPick_t (And.intro @xPick_f (And.intro @xGuard_tt (And.intro @xGuard_ff (And.intro @xGuard_tf (And.intro @xGuard_ft (And.intro @xGuard_u 
  (And.intro @xNil_r (And.intro @xIf_t (And.intro @xBin_add' (And.intro @xBin_sub' (And.intro @xBin_mul' (And.intro @xBin_quo' (And.intro @xBin_rem' (And.intro @xIf_f (And.intro @xIf_tt (And.intro @xEx0 (And.intro @xEx1 (And.intro @xEx2 (And.intro @xEx3 (And.intro @xBin_eqs (And.intro @xBin_nes (And.intro @xUn_not (And.intro @xu8_add (And.intro @xu8_sub 
  (And.intro @xu8_neq (And.intro @xu8_lss (And.intro @xu8_gtr (And.intro @xu16_add (And.intro @xu16_sub (And.intro @xu16_neq (And.intro @xu16_lss (And.intro @xu16_gtr (And.intro @xu32_add (And.intro @xu32_sub (And.intro @xu32_neq (And.intro @xu32_lss (And.intro @xu32_gtr (And.intro @xu64_add (And.intro @xu64_sub (And.intro @xu64_neq (And.intro @xu64_lss 
  (And.intro @xu64_gtr (And.intro @xi64_lss (And.intro @xi64_gtr (And.intro @xi64_neq (And.intro @xi64_neg (And.intro @xMakeFunc_r (And.intro @xSq_r (And.intro @xPur_s (And.intro @xRd_s (And.intro @xRe_s (And.intro @xDet_s (And.intro @xDet_ld (And.intro @xDet_ld2 (And.intro @xDet_ld3 (And.intro @xDet_ld4 (And.intro @xGuard_tt (And.intro @ld_3 (And.intro @ld_4 
  (And.intro @ld_29 (And.intro @ld_30 (And.intro @ld_108 (And.intro @fa_105_0 (And.intro @fa_105_1 (And.intro @fa_105_2 (And.intro @fa_108_2 (And.intro @al_108 (And.intro @st_108 (And.intro @ia_30 @bs_89_1))))))))))))))))))))))))))))))))))))))))))))))))))))))))))))))))))))))))))))))
theorem rObjects_spec (S : RfIs w m r c ws b t e) : Yld Try.prog n_loamref14_Space_Objects #[ptr m] w fun u w' => ObjR (.bool true) (.bool false) w w' u (objs ws b t) := by
  have q1 := S.bt
  have q2 := S.te
  have q3 := S.el
  have q4 := S.len
  refine loamref14_Space_Objects_of ?_
  unfold loamref14_Space_Objects
  have k := fun i => S.blk.cell (i := i)
  simp (disch := (first | omega | decide | (simp only [World.size_alloc, World.size_setCell, World.size_drew, size_sets, List.mem_cons, List.not_mem_nil, or_false, not_false_eq_true] <;> omega) | fail)) only [↓rsSpc3_2, rsSpc3_1, Option.isNone_some, Option.isNone_none, tick_eq, tickV_eq, ne_eq, Int.reduceAdd, Int.reduceSub, Int.reduceMul, Int.reduceEq, Int.reduceLT, Int.reduceLE, Int.reduceToNat, Nat.reduceMul, Nat.reduceAdd, Nat.reduceSub, List.nil_append, List.cons_append, List.getElem?_toArray, List.getElem?_cons_zero, List.getElem?_cons_succ, List.setIfInBounds_toArray, List.set_cons_zero, List.set_cons_succ, Option.map_some, List.not_mem_nil, ←decide_not, k]
  refine xLoop_r (t - b + 1) (Mid ws b t w) ⟨_, b, [], t, rfl, Nat.le_refl _, q1, by omega, by simp [objs], rfl, NewR.nil (Ext.refl _ _)⟩ ?_ ?_
  · rintro j hj u v1 ⟨v, o, p, f, hu, h1, h2, h3, h4, h5, N⟩ nxt hnx
    simp only [List.map_cons, List.map_nil, List.cons.injEq, and_true] at hu
    rw [hu.1, hu.2]
    have S1 := S.ext0 N.1
    have k1 := fun i => S1.blk.cell (i := i)
    have zv := N.2.1.lt
    have N1 := N.1
    unfold loamref14_Space_Objects_l1
    by_cases ho : o < t
    · have ho' : o < ws.length := by omega
      obtain ⟨bb, oo, hr, hb, hc⟩ := S1.row.at (i := o) (by simpa using ho')
      simp only [List.getElem_map] at hc
      have hv : ws[o] = wat ws o := by unfold wat; rw [List.getD_eq_getElem?_getD, List.getElem?_eq_getElem ho']; rfl
      rw [hv] at hc
      have hf : ∃ f', f = f' + 1 := ⟨f - 1, by omega⟩
      obtain ⟨f', rfl⟩ := hf
      unfold walk at h4
      rw [if_pos ho] at h4
      have hh := rUnpack_spec (wat ws o) v1
      simp (disch := (first | omega | decide | (simp only [World.size_alloc, World.size_setCell, World.size_drew, size_sets, List.mem_cons, List.not_mem_nil, or_false, not_false_eq_true] <;> omega) | fail)) only [↓rsSpc3_2, rsSpc3_1, Option.isNone_some, Option.isNone_none, tick_eq, tickV_eq, ne_eq, Int.reduceAdd, Int.reduceSub, Int.reduceMul, Int.reduceEq, Int.reduceLT, Int.reduceLE, Int.reduceToNat, Nat.reduceMul, Nat.reduceAdd, Nat.reduceSub, List.nil_append, List.cons_append, List.getElem?_toArray, List.getElem?_cons_zero, List.getElem?_cons_succ, List.setIfInBounds_toArray, List.set_cons_zero, List.set_cons_succ, Option.map_some, List.not_mem_nil, ←decide_not, k, k1, hr, hc]
      by_cases hk : okW (wat ws o)
      · obtain ⟨e1, e2, e3, e4, e5⟩ := okW_size hk
        rw [e2, e3] at hh
        refine loamref14_Unpack_call (Gives.to hh fun w2 F2 => ?_)
        have S2 := S1.ext0 F2
        simp (disch := (first | omega | decide | (simp only [World.size_alloc, World.size_setCell, World.size_drew, size_sets, List.mem_cons, List.not_mem_nil, or_false, not_false_eq_true] <;> omega) | fail)) only [↓rsSpc3_2, rsSpc3_1, Option.isNone_some, Option.isNone_none, tick_eq, tickV_eq, ne_eq, Int.reduceAdd, Int.reduceSub, Int.reduceMul, Int.reduceEq, Int.reduceLT, Int.reduceLE, Int.reduceToNat, Nat.reduceMul, Nat.reduceAdd, Nat.reduceSub, List.nil_append, List.cons_append, List.getElem?_toArray, List.getElem?_cons_zero, List.getElem?_cons_succ, List.setIfInBounds_toArray, List.set_cons_zero, List.set_cons_succ, Option.map_some, List.not_mem_nil, ←decide_not, k, k1, hr, hc]
        have B : Blk (w2.alloc (.cells #[i64 (vP (wat ws o)), i64 (vB (wat ws o)), .bool false, i64 (vT (wat ws o))] 108)) w2.heap.size 108 [i64 (vP (wat ws o)), i64 (vB (wat ws o)), .bool false, i64 (vT (wat ws o))] := Blk.at rfl
        have X : Ext [] w2 (w2.alloc (.cells #[i64 (vP (wat ws o)), i64 (vB (wat ws o)), .bool false, i64 (vT (wat ws o))] 108)) := Ext.alloc _ _ _
        have kS := fun i => (S2.ext0 X).blk.cell (i := i)
        simp (disch := (first | omega | decide | (simp only [World.size_alloc, World.size_setCell, World.size_drew, size_sets, List.mem_cons, List.not_mem_nil, or_false, not_false_eq_true] <;> omega) | fail)) only [↓rsSpc3_2, rsSpc3_1, Option.isNone_some, Option.isNone_none, tick_eq, tickV_eq, ne_eq, Int.reduceAdd, Int.reduceSub, Int.reduceMul, Int.reduceEq, Int.reduceLT, Int.reduceLE, Int.reduceToNat, Nat.reduceMul, Nat.reduceAdd, Nat.reduceSub, List.nil_append, List.cons_append, List.getElem?_toArray, List.getElem?_cons_zero, List.getElem?_cons_succ, List.setIfInBounds_toArray, List.set_cons_zero, List.set_cons_succ, Option.map_some, List.not_mem_nil, ←decide_not, k, k1, hr, hc, kS]
        refine loamref14_Size_call (Gives.to (rSizeW_spec hk _) fun w3 F3d => ?_)
        have F3 := (Ext.drew [] _).trans F3d
        have S3 := (S2.ext0 X).ext0 F3
        have B3 := B.ext F3 (by simp)
        have N3 := N.ext (F2.trans (X.trans F3))
        have k3 := fun i => S3.blk.cell (i := i)
        have z2 := F2.size
        by_cases hs : o + szW (wat ws o) ≤ t
        · rw [if_pos ⟨hk, hs⟩] at h4
          simp (disch := (first | omega | decide | (simp only [World.size_alloc, World.size_setCell, World.size_drew, size_sets, List.mem_cons, List.not_mem_nil, or_false, not_false_eq_true] <;> omega) | fail)) only [↓rsSpc3_2, rsSpc3_1, Option.isNone_some, Option.isNone_none, tick_eq, tickV_eq, ne_eq, Int.reduceAdd, Int.reduceSub, Int.reduceMul, Int.reduceEq, Int.reduceLT, Int.reduceLE, Int.reduceToNat, Nat.reduceMul, Nat.reduceAdd, Nat.reduceSub, List.nil_append, List.cons_append, List.getElem?_toArray, List.getElem?_cons_zero, List.getElem?_cons_succ, List.setIfInBounds_toArray, List.set_cons_zero, List.set_cons_succ, Option.map_some, List.not_mem_nil, ←decide_not, k, k1, hr, hc, kS, k3]
          refine appIl N3.2.1 rfl (by omega) fun v' w4 O4 F4 => ?_
          have B4 := B3.ext F4.ext (fun hm => by have := zv _ hm; omega)
          have k4 := fun i => B4.cell (i := i)
          simp (disch := (first | omega | decide | (simp only [World.size_alloc, World.size_setCell, World.size_drew, size_sets, List.mem_cons, List.not_mem_nil, or_false, not_false_eq_true] <;> omega) | fail)) only [↓rsSpc3_2, rsSpc3_1, Option.isNone_some, Option.isNone_none, tick_eq, tickV_eq, ne_eq, Int.reduceAdd, Int.reduceSub, Int.reduceMul, Int.reduceEq, Int.reduceLT, Int.reduceLE, Int.reduceToNat, Nat.reduceMul, Nat.reduceAdd, Nat.reduceSub, List.nil_append, List.cons_append, List.getElem?_toArray, List.getElem?_cons_zero, List.getElem?_cons_succ, List.setIfInBounds_toArray, List.set_cons_zero, List.set_cons_succ, Option.map_some, List.not_mem_nil, ←decide_not, k, k1, hr, hc, kS, k3, k4]
          refine loamref14_Size_call (Gives.to (rSizeW_spec hk _) fun w5 F5 => ?_)
          simp (disch := (first | omega | decide | (simp only [World.size_alloc, World.size_setCell, World.size_drew, size_sets, List.mem_cons, List.not_mem_nil, or_false, not_false_eq_true] <;> omega) | fail)) only [↓rsSpc3_2, rsSpc3_1, Option.isNone_some, Option.isNone_none, tick_eq, tickV_eq, ne_eq, Int.reduceAdd, Int.reduceSub, Int.reduceMul, Int.reduceEq, Int.reduceLT, Int.reduceLE, Int.reduceToNat, Nat.reduceMul, Nat.reduceAdd, Nat.reduceSub, List.nil_append, List.cons_append, List.getElem?_toArray, List.getElem?_cons_zero, List.getElem?_cons_succ, List.setIfInBounds_toArray, List.set_cons_zero, List.set_cons_succ, Option.map_some, List.not_mem_nil, ←decide_not, k, k1, hr, hc, kS, k3, k4]
          have e6 : (o : Int) + szW (wat ws o) = ((o + szW (wat ws o) : Nat) : Int) := by omega
          rw [e6]
          refine hnx _ _ ⟨v', o + szW (wat ws o), p ++ [o], f', rfl, by omega, hs, by omega, ?_, by simp [h5], (N3.app O4 F4).ext F5⟩
          rw [h4, Option.map_map]
          congr 1
          funext r
          simp
        · rw [if_neg (fun h => hs h.2)] at h4
          rw [h4]
          simp (disch := (first | omega | decide | (simp only [World.size_alloc, World.size_setCell, World.size_drew, size_sets, List.mem_cons, List.not_mem_nil, or_false, not_false_eq_true] <;> omega) | fail)) only [↓rsSpc3_2, rsSpc3_1, Option.isNone_some, Option.isNone_none, tick_eq, tickV_eq, ne_eq, Int.reduceAdd, Int.reduceSub, Int.reduceMul, Int.reduceEq, Int.reduceLT, Int.reduceLE, Int.reduceToNat, Nat.reduceMul, Nat.reduceAdd, Nat.reduceSub, List.nil_append, List.cons_append, List.getElem?_toArray, List.getElem?_cons_zero, List.getElem?_cons_succ, List.setIfInBounds_toArray, List.set_cons_zero, List.set_cons_succ, Option.map_some, List.not_mem_nil, ←decide_not, k, k1, hr, hc, kS, k3]
          exact ⟨by trivial, N.1.trans (F2.trans (X.trans F3))⟩
      · rw [if_neg (fun h => hk h.1)] at h4
        rw [h4]
        by_cases he : unErr (wat ws o) = 0
        · rw [he, okW_not hk he] at hh
          refine loamref14_Unpack_call (Gives.to hh fun w2 F2 => ?_)
          simp (disch := (first | omega | decide | (simp only [World.size_alloc, World.size_setCell, World.size_drew, size_sets, List.mem_cons, List.not_mem_nil, or_false, not_false_eq_true] <;> omega) | fail)) only [↓rsSpc3_2, rsSpc3_1, Option.isNone_some, Option.isNone_none, tick_eq, tickV_eq, ne_eq, Int.reduceAdd, Int.reduceSub, Int.reduceMul, Int.reduceEq, Int.reduceLT, Int.reduceLE, Int.reduceToNat, Nat.reduceMul, Nat.reduceAdd, Nat.reduceSub, List.nil_append, List.cons_append, List.getElem?_toArray, List.getElem?_cons_zero, List.getElem?_cons_succ, List.setIfInBounds_toArray, List.set_cons_zero, List.set_cons_succ, Option.map_some, List.not_mem_nil, ←decide_not, k, k1, hr, hc]
          exact ⟨by trivial, by (repeat (first | with_reducible exact Ext.refl _ _ | with_reducible assumption | with_reducible refine Ext.alloc' ?_ _ | with_reducible refine Ext.drew' ?_ | with_reducible refine Ext.set' ?_ ?_ | exact .inr (by first | omega | (simp only [World.size_alloc, World.size_drew, World.size_setCell] <;> omega)) | refine Ext.trans ?_ (by with_reducible assumption)))⟩
        · refine loamref14_Unpack_call (Gives.to hh fun w2 F2 => ?_)
          simp (disch := (first | omega | decide | (simp only [World.size_alloc, World.size_setCell, World.size_drew, size_sets, List.mem_cons, List.not_mem_nil, or_false, not_false_eq_true] <;> omega) | fail)) only [↓rsSpc3_2, rsSpc3_1, Option.isNone_some, Option.isNone_none, tick_eq, tickV_eq, ne_eq, Int.reduceAdd, Int.reduceSub, Int.reduceMul, Int.reduceEq, Int.reduceLT, Int.reduceLE, Int.reduceToNat, Nat.reduceMul, Nat.reduceAdd, Nat.reduceSub, List.nil_append, List.cons_append, List.getElem?_toArray, List.getElem?_cons_zero, List.getElem?_cons_succ, List.setIfInBounds_toArray, List.set_cons_zero, List.set_cons_succ, Option.map_some, List.not_mem_nil, ←decide_not, k, k1, hr, hc]
          exact ⟨by trivial, by (repeat (first | with_reducible exact Ext.refl _ _ | with_reducible assumption | with_reducible refine Ext.alloc' ?_ _ | with_reducible refine Ext.drew' ?_ | with_reducible refine Ext.set' ?_ ?_ | exact .inr (by first | omega | (simp only [World.size_alloc, World.size_drew, World.size_setCell] <;> omega)) | refine Ext.trans ?_ (by with_reducible assumption)))⟩
    · have e1 : o = t := by omega
      subst e1
      have h6 : objs ws b o = some p := by
        rw [h4]
        cases f with
        | zero => simp [walk]
        | succ f => simp [walk]
      rw [h6]
      obtain ⟨a2, c2, rfl, hc2, _, hn2, hr2, _⟩ := N.2.1.slice
      simp (disch := (first | omega | decide | (simp only [World.size_alloc, World.size_setCell, World.size_drew, size_sets, List.mem_cons, List.not_mem_nil, or_false, not_false_eq_true] <;> omega) | fail)) only [↓rsSpc3_2, rsSpc3_1, Option.isNone_some, Option.isNone_none, tick_eq, tickV_eq, ne_eq, Int.reduceAdd, Int.reduceSub, Int.reduceMul, Int.reduceEq, Int.reduceLT, Int.reduceLE, Int.reduceToNat, Nat.reduceMul, Nat.reduceAdd, Nat.reduceSub, List.nil_append, List.cons_append, List.getElem?_toArray, List.getElem?_cons_zero, List.getElem?_cons_succ, List.setIfInBounds_toArray, List.set_cons_zero, List.set_cons_succ, Option.map_some, List.not_mem_nil, ←decide_not, k, k1]
      exact ⟨_, rfl, N.1, a2, c2, rfl, hc2, hr2⟩
  · rintro u v1 ⟨v, o, p, f, hu, h1, h2, h3, h4, h5, N⟩ nxt
    omega
abbrev rsSpc3_3 := (And.intro @xBox_r (And.intro @loadK_some (And.intro @loadsK_s (And.intro @loadsK_n (And.intro @loadsR_s (And.intro @loadsR_n (And.intro @storesK_s (And.intro @storesK_n (And.intro @xPick_t (And.intro @xPick_f (And.intro @xGuard_tt (And.intro @xGuard_ff (And.intro @xGuard_tf (And.intro @xGuard_ft (And.intro @xGuard_u 
  (And.intro @xNil_r (And.intro @xIf_t (And.intro @xBin_add' (And.intro @xBin_sub' (And.intro @xBin_mul' (And.intro @xBin_quo' (And.intro @xBin_rem' (And.intro @xIf_f (And.intro @xIf_tt (And.intro @xEx0 (And.intro @xEx1 (And.intro @xEx2 (And.intro @xEx3 (And.intro @xBin_eqs (And.intro @xBin_nes (And.intro @xUn_not (And.intro @xu8_sub (And.intro @xu8_com 
  (And.intro @xu8_gtr (And.intro @xu16_sub (And.intro @xu16_com (And.intro @xu16_gtr (And.intro @xu32_sub (And.intro @xu32_com (And.intro @xu32_gtr (And.intro @xu64_sub (And.intro @xu64_com (And.intro @xu64_gtr (And.intro @xi64_gtr (And.intro @xMakeFunc_r (And.intro @xSq_r (And.intro @xPur_s (And.intro @xRd_s (And.intro @xRe_s (And.intro @xDet_s 
  (And.intro @xDet_ld (And.intro @xDet_ld2 (And.intro @xDet_ld3 (And.intro @xDet_ld4 (And.intro @xGuard_tt (And.intro @ld_3 (And.intro @ld_4 (And.intro @ld_30 (And.intro @ld_108 (And.intro @fa_105_0 (And.intro @fa_105_2 (And.intro @fa_105_3 (And.intro @fa_108_2 (And.intro @bs_30_0 @bs_30_1))))))))))))))))))))))))))))))))))))))))))))))))))))))))))))))))
theorem rAlloc_arg {p bb tt : Int} {mv : Bool} (h : ¬ (rightP p bb mv tt ∧ mv = false)) : Gives Try.prog n_loamref14_Space_Alloc #[ptr m, hd p bb mv tt] w (.tuple #[i64 0, i64 1]) := by
  refine loamref14_Space_Alloc_of ?_
  unfold loamref14_Space_Alloc
  simp (disch := (first | omega | decide | (simp only [World.size_alloc, World.size_setCell, World.size_drew, size_sets, List.mem_cons, List.not_mem_nil, or_false, not_false_eq_true] <;> omega) | fail)) only [↓rsSpc3_3, rsSpc3_1, Option.isNone_some, Option.isNone_none, tick_eq, tickV_eq, ne_eq, Int.reduceAdd, Int.reduceSub, Int.reduceMul, Int.reduceEq, Int.reduceLT, Int.reduceLE, Int.reduceToNat, Nat.reduceMul, Nat.reduceAdd, Nat.reduceSub, List.nil_append, List.cons_append, List.getElem?_toArray, List.getElem?_cons_zero, List.getElem?_cons_succ, List.setIfInBounds_toArray, List.set_cons_zero, List.set_cons_succ, Option.map_some, List.not_mem_nil, ←decide_not, eq_self]
  have B : Blk (w.alloc (.cells #[i64 p, i64 bb, .bool mv, i64 tt] 108)) w.heap.size 108 [i64 p, i64 bb, .bool mv, i64 tt] := Blk.at rfl
  have X : Ext [] w (w.alloc (.cells #[i64 p, i64 bb, .bool mv, i64 tt] 108)) := Ext.alloc _ _ _
  generalize w.alloc (.cells #[i64 p, i64 bb, .bool mv, i64 tt] 108) = y at *
  refine loamref14_Right_call (Gives.to (rRight_spec p bb mv tt y) fun w1 F1 => ?_)
  have k := fun i => (B.ext F1 (by simp)).cell (i := i)
  by_cases hr : rightP p bb mv tt
  · have hm : mv = true := by
      cases mv
      · exact absurd ⟨hr, rfl⟩ h
      · rfl
    subst hm
    have hv : rightV p bb true tt = true := decide_eq_true hr
    simp (disch := (first | omega | decide | (simp only [World.size_alloc, World.size_setCell, World.size_drew, size_sets, List.mem_cons, List.not_mem_nil, or_false, not_false_eq_true] <;> omega) | fail)) only [↓rsSpc3_3, rsSpc3_1, Option.isNone_some, Option.isNone_none, tick_eq, tickV_eq, ne_eq, Int.reduceAdd, Int.reduceSub, Int.reduceMul, Int.reduceEq, Int.reduceLT, Int.reduceLE, Int.reduceToNat, Nat.reduceMul, Nat.reduceAdd, Nat.reduceSub, List.nil_append, List.cons_append, List.getElem?_toArray, List.getElem?_cons_zero, List.getElem?_cons_succ, List.setIfInBounds_toArray, List.set_cons_zero, List.set_cons_succ, Option.map_some, List.not_mem_nil, ←decide_not, hv, k]
    exact ⟨by trivial, X.trans F1⟩
  · have hv : rightV p bb mv tt = false := decide_eq_false hr
    simp (disch := (first | omega | decide | (simp only [World.size_alloc, World.size_setCell, World.size_drew, size_sets, List.mem_cons, List.not_mem_nil, or_false, not_false_eq_true] <;> omega) | fail)) only [↓rsSpc3_3, rsSpc3_1, Option.isNone_some, Option.isNone_none, tick_eq, tickV_eq, ne_eq, Int.reduceAdd, Int.reduceSub, Int.reduceMul, Int.reduceEq, Int.reduceLT, Int.reduceLE, Int.reduceToNat, Nat.reduceMul, Nat.reduceAdd, Nat.reduceSub, List.nil_append, List.cons_append, List.getElem?_toArray, List.getElem?_cons_zero, List.getElem?_cons_succ, List.setIfInBounds_toArray, List.set_cons_zero, List.set_cons_succ, Option.map_some, List.not_mem_nil, ←decide_not, hv, k]
    exact ⟨by trivial, X.trans F1⟩
theorem rAlloc_full {p bb : Int} (S : RfIs w m r c ws b t e) (hr : rightP p bb false 0) (hf : e < t + szW (packW p bb false 0)) : Gives Try.prog n_loamref14_Space_Alloc #[ptr m, hd p bb false 0] w (.tuple #[i64 0, i64 6]) := by
  have q1 := S.bt
  have q2 := S.te
  have q3 := S.el
  have q4 := S.len
  have hv : rightV p bb false 0 = true := decide_eq_true hr
  refine loamref14_Space_Alloc_of ?_
  unfold loamref14_Space_Alloc
  simp (disch := (first | omega | decide | (simp only [World.size_alloc, World.size_setCell, World.size_drew, size_sets, List.mem_cons, List.not_mem_nil, or_false, not_false_eq_true] <;> omega) | fail)) only [↓rsSpc3_3, rsSpc3_1, Option.isNone_some, Option.isNone_none, tick_eq, tickV_eq, ne_eq, Int.reduceAdd, Int.reduceSub, Int.reduceMul, Int.reduceEq, Int.reduceLT, Int.reduceLE, Int.reduceToNat, Nat.reduceMul, Nat.reduceAdd, Nat.reduceSub, List.nil_append, List.cons_append, List.getElem?_toArray, List.getElem?_cons_zero, List.getElem?_cons_succ, List.setIfInBounds_toArray, List.set_cons_zero, List.set_cons_succ, Option.map_some, List.not_mem_nil, ←decide_not, eq_self]
  have B : Blk (w.alloc (.cells #[i64 p, i64 bb, .bool false, i64 0] 108)) w.heap.size 108 [i64 p, i64 bb, .bool false, i64 0] := Blk.at rfl
  have X : Ext [] w (w.alloc (.cells #[i64 p, i64 bb, .bool false, i64 0] 108)) := Ext.alloc _ _ _
  generalize w.alloc (.cells #[i64 p, i64 bb, .bool false, i64 0] 108) = y at *
  refine loamref14_Right_call (Gives.to (rRight_spec p bb false 0 y) fun w1 F1 => ?_)
  have k := fun i => (B.ext F1 (by simp)).cell (i := i)
  have S1 := S.ext0 (X.trans F1)
  have k1 := fun i => S1.blk.cell (i := i)
  simp (disch := (first | omega | decide | (simp only [World.size_alloc, World.size_setCell, World.size_drew, size_sets, List.mem_cons, List.not_mem_nil, or_false, not_false_eq_true] <;> omega) | fail)) only [↓rsSpc3_3, rsSpc3_1, Option.isNone_some, Option.isNone_none, tick_eq, tickV_eq, ne_eq, Int.reduceAdd, Int.reduceSub, Int.reduceMul, Int.reduceEq, Int.reduceLT, Int.reduceLE, Int.reduceToNat, Nat.reduceMul, Nat.reduceAdd, Nat.reduceSub, List.nil_append, List.cons_append, List.getElem?_toArray, List.getElem?_cons_zero, List.getElem?_cons_succ, List.setIfInBounds_toArray, List.set_cons_zero, List.set_cons_succ, Option.map_some, List.not_mem_nil, ←decide_not, hv, k, k1]
  refine loamref14_Size_call (Gives.to (rSize_spec p bb false 0 _) fun w2 F2d => ?_)
  have F2 := (Ext.drew [] _).trans F2d
  rw [size_pack hr]
  have k2 := fun i => (S1.ext0 F2).blk.cell (i := i)
  generalize szW (packW p bb false 0) = n at *
  simp (disch := (first | omega | decide | (simp only [World.size_alloc, World.size_setCell, World.size_drew, size_sets, List.mem_cons, List.not_mem_nil, or_false, not_false_eq_true] <;> omega) | fail)) only [↓rsSpc3_3, rsSpc3_1, Option.isNone_some, Option.isNone_none, tick_eq, tickV_eq, ne_eq, Int.reduceAdd, Int.reduceSub, Int.reduceMul, Int.reduceEq, Int.reduceLT, Int.reduceLE, Int.reduceToNat, Nat.reduceMul, Nat.reduceAdd, Nat.reduceSub, List.nil_append, List.cons_append, List.getElem?_toArray, List.getElem?_cons_zero, List.getElem?_cons_succ, List.setIfInBounds_toArray, List.set_cons_zero, List.set_cons_succ, Option.map_some, List.not_mem_nil, ←decide_not, hv, k, k1, k2]
  exact ⟨by trivial, (X.trans F1).trans F2⟩
abbrev rsSpc3_4 := (And.intro @xBox_r (And.intro @loadK_some (And.intro @loadsK_s (And.intro @loadsK_n (And.intro @loadsR_s (And.intro @loadsR_n (And.intro @storesK_s (And.intro @storesK_n (And.intro @xPick_t (And.intro @xPick_f (And.intro @xGuard_tt (And.intro @xGuard_ff (And.intro @xGuard_tf (And.intro @xGuard_ft (And.intro @xGuard_u 
  (And.intro @xNil_r (And.intro @xIf_t (And.intro @xBin_add' (And.intro @xBin_sub' (And.intro @xBin_mul' (And.intro @xBin_quo' (And.intro @xBin_rem' (And.intro @xIf_f (And.intro @xIf_tt (And.intro @xEx0 (And.intro @xEx1 (And.intro @xEx2 (And.intro @xEx3 (And.intro @xBin_eqs (And.intro @xBin_nes (And.intro @xUn_not (And.intro @xu8_add (And.intro @xu8_sub 
  (And.intro @xu8_com (And.intro @xu8_lss (And.intro @xu8_gtr (And.intro @xu16_add (And.intro @xu16_sub (And.intro @xu16_com (And.intro @xu16_lss (And.intro @xu16_gtr (And.intro @xu32_add (And.intro @xu32_sub (And.intro @xu32_com (And.intro @xu32_lss (And.intro @xu32_gtr (And.intro @xu64_add (And.intro @xu64_sub (And.intro @xu64_com (And.intro @xu64_lss 
  (And.intro @xu64_gtr (And.intro @xi64_lss (And.intro @xi64_gtr (And.intro @xMakeFunc_r (And.intro @xSq_r (And.intro @xPur_s (And.intro @xRd_s (And.intro @xRe_s (And.intro @xDet_s (And.intro @xDet_ld (And.intro @xDet_ld2 (And.intro @xDet_ld3 (And.intro @xDet_ld4 (And.intro @xGuard_tt (And.intro @ld_3 (And.intro @ld_4 (And.intro @ld_30 (And.intro @ld_108 
  (And.intro @fa_105_0 (And.intro @fa_105_2 (And.intro @fa_105_3 (And.intro @fa_108_2 (And.intro @st_3 (And.intro @st_29 (And.intro @st_30 (And.intro @ia_30 (And.intro @bs_30_0 @bs_30_1)))))))))))))))))))))))))))))))))))))))))))))))))))))))))))))))))))))))))))))
theorem rAlloc_ok {p bb : Int} {n : Nat} (S : RfIs w m r c ws b t e) (hr : rightP p bb false 0) (hn : n = szW (packW p bb false 0)) (hf : t + n ≤ e) :
    Yld Try.prog n_loamref14_Space_Alloc #[ptr m, hd p bb false 0] w fun u w' => u = .tuple #[i64 (t : Int), i64 0] ∧ Ext [m] w w' ∧ ∃ r' c', RfIs w' m r' c' (alW ws t (packW p bb false 0) n) b (t + n) e ∧ ∀ x ∈ blkOf r', w.heap.size ≤ x := by
  have q1 := S.bt
  have q2 := S.te
  have q3 := S.el
  have q4 := S.len
  have q5 : 1 ≤ n := by rw [hn]; exact szW_pos
  have hv : rightV p bb false 0 = true := decide_eq_true hr
  have zm := S.blk.lt
  refine loamref14_Space_Alloc_of ?_
  unfold loamref14_Space_Alloc
  simp (disch := (first | omega | decide | (simp only [World.size_alloc, World.size_setCell, World.size_drew, size_sets, List.mem_cons, List.not_mem_nil, or_false, not_false_eq_true] <;> omega) | fail)) only [↓rsSpc3_4, rsSpc3_1, Option.isNone_some, Option.isNone_none, tick_eq, tickV_eq, ne_eq, Int.reduceAdd, Int.reduceSub, Int.reduceMul, Int.reduceEq, Int.reduceLT, Int.reduceLE, Int.reduceToNat, Nat.reduceMul, Nat.reduceAdd, Nat.reduceSub, List.nil_append, List.cons_append, List.getElem?_toArray, List.getElem?_cons_zero, List.getElem?_cons_succ, List.setIfInBounds_toArray, List.set_cons_zero, List.set_cons_succ, Option.map_some, List.not_mem_nil, ←decide_not, eq_self]
  have B : Blk (w.alloc (.cells #[i64 p, i64 bb, .bool false, i64 0] 108)) w.heap.size 108 [i64 p, i64 bb, .bool false, i64 0] := Blk.at rfl
  have X : Ext [] w (w.alloc (.cells #[i64 p, i64 bb, .bool false, i64 0] 108)) := Ext.alloc _ _ _
  generalize w.alloc (.cells #[i64 p, i64 bb, .bool false, i64 0] 108) = y at *
  refine loamref14_Right_call (Gives.to (rRight_spec p bb false 0 y) fun w1 F1 => ?_)
  have B1 := B.ext F1 (by simp)
  have k := fun i => B1.cell (i := i)
  have S1 := S.ext0 (X.trans F1)
  have k1 := fun i => S1.blk.cell (i := i)
  simp (disch := (first | omega | decide | (simp only [World.size_alloc, World.size_setCell, World.size_drew, size_sets, List.mem_cons, List.not_mem_nil, or_false, not_false_eq_true] <;> omega) | fail)) only [↓rsSpc3_4, rsSpc3_1, Option.isNone_some, Option.isNone_none, tick_eq, tickV_eq, ne_eq, Int.reduceAdd, Int.reduceSub, Int.reduceMul, Int.reduceEq, Int.reduceLT, Int.reduceLE, Int.reduceToNat, Nat.reduceMul, Nat.reduceAdd, Nat.reduceSub, List.nil_append, List.cons_append, List.getElem?_toArray, List.getElem?_cons_zero, List.getElem?_cons_succ, List.setIfInBounds_toArray, List.set_cons_zero, List.set_cons_succ, Option.map_some, List.not_mem_nil, ←decide_not, hv, k, k1]
  refine loamref14_Size_call (Gives.to (rSize_spec p bb false 0 _) fun w2 F2d => ?_)
  have F2 := (Ext.drew [] _).trans F2d
  rw [size_pack hr, ← hn]
  have B2 := B1.ext F2 (by simp)
  have S2 := S1.ext0 F2
  have k2 := fun i => S2.blk.cell (i := i)
  have k2' := fun i => (S2.ext0 (Ext.alloc [] w2 (.cells #[] 29))).blk.cell (i := i)
  simp (disch := (first | omega | decide | (simp only [World.size_alloc, World.size_setCell, World.size_drew, size_sets, List.mem_cons, List.not_mem_nil, or_false, not_false_eq_true] <;> omega) | fail)) only [↓rsSpc3_4, rsSpc3_1, Option.isNone_some, Option.isNone_none, tick_eq, tickV_eq, ne_eq, Int.reduceAdd, Int.reduceSub, Int.reduceMul, Int.reduceEq, Int.reduceLT, Int.reduceLE, Int.reduceToNat, Nat.reduceMul, Nat.reduceAdd, Nat.reduceSub, List.nil_append, List.cons_append, List.getElem?_toArray, List.getElem?_cons_zero, List.getElem?_cons_succ, List.setIfInBounds_toArray, List.set_cons_zero, List.set_cons_succ, Option.map_some, List.not_mem_nil, ←decide_not, hv, k, k1, k2, k2']
  have X2 : Ext [] w w2 := (X.trans F1).trans F2
  have z2 := X2.size
  have z3 := B2.lt
  refine appUn S2.row S2.nil S2.cap (by omega) fun v3 w3 O3 F3 U3 => ?_
  have B3 := B2.ext F3 (by simp)
  have S3 := S2.ext0 F3
  have X3 : Ext [] w w3 := X2.trans F3
  obtain ⟨gs, cap, rest, rfl, hB3, hnc, hcm, hcl⟩ := O3.open (by omega)
  have ug : w2.heap.size ≤ gs := U3 gs (by simp [blk, Value.ownBlock])
  have X3e := X3
  refine xLoop_r n (fun j vs w' => vs = [i64 (j : Int)] ∧ Ext [] w w' ∧ Blk w' gs 29 (wrds (zr ws t j) ++ rest) ∧ Blk w' w.heap.size 108 [i64 p, i64 bb, .bool false, i64 0]) ⟨by simp, X3, by rw [zr_zero]; exact hB3, B3⟩ ?_ ?_
  · rintro j hj u v1 ⟨hu, F, G, H⟩ nxt hnx
    simp only [List.map_cons, List.map_nil, List.cons.injEq, and_true] at hu
    rw [hu]
    have kh := fun i => H.cell (i := i)
    unfold loamref14_Space_Alloc_l1
    simp (disch := (first | omega | decide | (simp only [World.size_alloc, World.size_setCell, World.size_drew, size_sets, List.mem_cons, List.not_mem_nil, or_false, not_false_eq_true] <;> omega) | fail)) only [↓rsSpc3_4, rsSpc3_1, Option.isNone_some, Option.isNone_none, tick_eq, tickV_eq, ne_eq, Int.reduceAdd, Int.reduceSub, Int.reduceMul, Int.reduceEq, Int.reduceLT, Int.reduceLE, Int.reduceToNat, Nat.reduceMul, Nat.reduceAdd, Nat.reduceSub, List.nil_append, List.cons_append, List.getElem?_toArray, List.getElem?_cons_zero, List.getElem?_cons_succ, List.setIfInBounds_toArray, List.set_cons_zero, List.set_cons_succ, Option.map_some, List.not_mem_nil, ←decide_not, hv, k, k1, k2, k2', kh]
    refine loamref14_Size_call (Gives.to (rSize_spec p bb false 0 _) fun w5 F5 => ?_)
    rw [size_pack hr, ← hn]
    have G5 := G.ext F5 (by simp)
    have H5 := H.ext F5 (by simp)
    have hz := zr_set (ws := ws) (o := t) (n := j)
    have ho : t + j < ws.length := by omega
    have t1 : ((t : Int) + j).toNat = t + j := by omega
    have e2 : ((j : Int) + 1) = ((j + 1 : Nat) : Int) := by omega
    have c5 : w5.cell? ⟨gs, t + j, none⟩ = some (u64 (wat (zr ws t j) (t + j))) := by
      rw [G5.cell, List.getElem?_append_left (by simpa using ho)]
      unfold wat
      simp [ho]
    have f5 : w5.frozen? ⟨gs, t + j, none⟩ = false := G5.frozen
    have G6 := G5.set (i := t + j) (v := u64 c0)
    have G7 : Blk (w5.setCell ⟨gs, t + j, none⟩ (u64 c0)) gs 29 (wrds (zr ws t (j + 1)) ++ rest) := by
      rw [List.set_append_left _ _ (by simpa using ho)] at G6
      rw [← hz]
      simpa [wrds, List.map_set] using G6
    simp (disch := (first | omega | decide | (simp only [World.size_alloc, World.size_setCell, World.size_drew, size_sets, List.mem_cons, List.not_mem_nil, or_false, not_false_eq_true] <;> omega) | fail)) only [↓rsSpc3_4, rsSpc3_1, Option.isNone_some, Option.isNone_none, tick_eq, tickV_eq, ne_eq, Int.reduceAdd, Int.reduceSub, Int.reduceMul, Int.reduceEq, Int.reduceLT, Int.reduceLE, Int.reduceToNat, Nat.reduceMul, Nat.reduceAdd, Nat.reduceSub, List.nil_append, List.cons_append, List.getElem?_toArray, List.getElem?_cons_zero, List.getElem?_cons_succ, List.setIfInBounds_toArray, List.set_cons_zero, List.set_cons_succ, Option.map_some, List.not_mem_nil, ←decide_not, hv, k, k1, k2, k2', kh, t1, c5, f5]
    rw [e2]
    exact hnx _ _ ⟨rfl, (F.trans F5).set' (.inr (by omega)), G7, H5.ext (Ext.set (w := w5) (b := gs)) (by simp; omega)⟩
  · rintro u v1 ⟨hu, F, G, H⟩ nxt
    simp only [List.map_cons, List.map_nil, List.cons.injEq, and_true] at hu
    rw [hu]
    have kh := fun i => H.cell (i := i)
    unfold loamref14_Space_Alloc_l1
    simp (disch := (first | omega | decide | (simp only [World.size_alloc, World.size_setCell, World.size_drew, size_sets, List.mem_cons, List.not_mem_nil, or_false, not_false_eq_true] <;> omega) | fail)) only [↓rsSpc3_4, rsSpc3_1, Option.isNone_some, Option.isNone_none, tick_eq, tickV_eq, ne_eq, Int.reduceAdd, Int.reduceSub, Int.reduceMul, Int.reduceEq, Int.reduceLT, Int.reduceLE, Int.reduceToNat, Nat.reduceMul, Nat.reduceAdd, Nat.reduceSub, List.nil_append, List.cons_append, List.getElem?_toArray, List.getElem?_cons_zero, List.getElem?_cons_succ, List.setIfInBounds_toArray, List.set_cons_zero, List.set_cons_succ, Option.map_some, List.not_mem_nil, ←decide_not, hv, k, k1, k2, k2', kh]
    refine loamref14_Size_call (Gives.to (rSize_spec p bb false 0 _) fun w5 F5 => ?_)
    rw [size_pack hr, ← hn]
    have G5 := G.ext F5 (by simp)
    have H5 := H.ext F5 (by simp)
    have kh5 := fun i => H5.cell (i := i)
    simp (disch := (first | omega | decide | (simp only [World.size_alloc, World.size_setCell, World.size_drew, size_sets, List.mem_cons, List.not_mem_nil, or_false, not_false_eq_true] <;> omega) | fail)) only [↓rsSpc3_4, rsSpc3_1, Option.isNone_some, Option.isNone_none, tick_eq, tickV_eq, ne_eq, Int.reduceAdd, Int.reduceSub, Int.reduceMul, Int.reduceEq, Int.reduceLT, Int.reduceLE, Int.reduceToNat, Nat.reduceMul, Nat.reduceAdd, Nat.reduceSub, List.nil_append, List.cons_append, List.getElem?_toArray, List.getElem?_cons_zero, List.getElem?_cons_succ, List.setIfInBounds_toArray, List.set_cons_zero, List.set_cons_succ, Option.map_some, List.not_mem_nil, ←decide_not, hv, k, k1, k2, k2', kh, kh5]
    refine loamref14_Pack_call (Gives.to (rPack_spec p bb false 0 _) fun w6 F6 => ?_)
    have G6 := G5.ext F6 (by simp)
    have H6 := H5.ext F6 (by simp)
    have S6 := S.ext0 ((F.trans F5).trans F6)
    have ho : t < ws.length := by omega
    have c6 : w6.cell? ⟨gs, t, none⟩ = some (u64 (wat (zr ws t n) t)) := by
      rw [G6.cell, List.getElem?_append_left (by simpa using ho)]
      unfold wat
      simp [ho]
    have f6 : w6.frozen? ⟨gs, t, none⟩ = false := G6.frozen
    have km6 := fun i => S6.blk.cell (i := i)
    have fm6 := fun i => S6.blk.frozen (i := i)
    have kh6 := fun i => H6.cell (i := i)
    have n1 : gs ≠ m := by omega
    have n2 : gs ≠ w.heap.size := by omega
    have n3 : m ≠ w.heap.size := by omega
    have e1 : packE p bb false 0 = 0 := if_pos hr
    simp (disch := (first | omega | decide | (simp only [World.size_alloc, World.size_setCell, World.size_drew, size_sets, List.mem_cons, List.not_mem_nil, or_false, not_false_eq_true] <;> omega) | fail)) only [↓rsSpc3_4, rsSpc3_1, Option.isNone_some, Option.isNone_none, tick_eq, tickV_eq, ne_eq, Int.reduceAdd, Int.reduceSub, Int.reduceMul, Int.reduceEq, Int.reduceLT, Int.reduceLE, Int.reduceToNat, Nat.reduceMul, Nat.reduceAdd, Nat.reduceSub, List.nil_append, List.cons_append, List.getElem?_toArray, List.getElem?_cons_zero, List.getElem?_cons_succ, List.setIfInBounds_toArray, List.set_cons_zero, List.set_cons_succ, Option.map_some, List.not_mem_nil, ←decide_not, hv, k, k1, k2, k2', kh, kh5, c6, f6, km6, fm6, kh6]
    have G7 := G6.set (i := t) (v := u64 (packW p bb false 0))
    have G7' : Blk (w6.setCell ⟨gs, t, none⟩ (u64 (packW p bb false 0))) gs 29 (wrds (alW ws t (packW p bb false 0) n) ++ rest) := by
      rw [List.set_append_left _ _ (by simpa using ho)] at G7
      rw [← alW_eq q5]
      simpa [wrds, List.map_set] using G7
    have M7 := S6.blk.ext (Ext.set (w := w6) (b := gs) (o := t) (v := u64 (packW p bb false 0))) (by simp; omega)
    have H7 := H6.ext (Ext.set (w := w6) (b := gs) (o := t) (v := u64 (packW p bb false 0))) (by simp; omega)
    have X7 : Ext [] w (w6.setCell ⟨gs, t, none⟩ (u64 (packW p bb false 0))) := ((F.trans F5).trans F6).set' (.inr (by omega))
    generalize w6.setCell ⟨gs, t, none⟩ (u64 (packW p bb false 0)) = w7 at *
    have M8 := M7.set (i := 0) (v := .slice (some ⟨gs, 0, none⟩) ws.length cap)
    have G8 := G7'.ext (Ext.set (w := w7) (b := m) (o := 0) (v := .slice (some ⟨gs, 0, none⟩) ws.length cap)) (by simp; omega)
    have H8 := H7.ext (Ext.set (w := w7) (b := m) (o := 0) (v := .slice (some ⟨gs, 0, none⟩) ws.length cap)) (by simp; omega)
    have X8 : Ext [m] w (w7.setCell ⟨m, 0, none⟩ (.slice (some ⟨gs, 0, none⟩) ws.length cap)) := (X7.more (by simp)).set' (.inl (by simp))
    generalize w7.setCell ⟨m, 0, none⟩ (.slice (some ⟨gs, 0, none⟩) ws.length cap) = w8 at *
    have kh8 := fun i => H8.cell (i := i)
    refine loamref14_Size_call (Gives.to (rSize_spec p bb false 0 _) fun w9 F9 => ?_)
    rw [size_pack hr, ← hn]
    have M9 := M8.ext F9 (by simp)
    have G9 := G8.ext F9 (by simp)
    have km9 := fun i => M9.cell (i := i)
    have fm9 := fun i => M9.frozen (i := i)
    simp (disch := (first | omega | decide | (simp only [World.size_alloc, World.size_setCell, World.size_drew, size_sets, List.mem_cons, List.not_mem_nil, or_false, not_false_eq_true] <;> omega) | fail)) only [↓rsSpc3_4, rsSpc3_1, Option.isNone_some, Option.isNone_none, tick_eq, tickV_eq, ne_eq, Int.reduceAdd, Int.reduceSub, Int.reduceMul, Int.reduceEq, Int.reduceLT, Int.reduceLE, Int.reduceToNat, Nat.reduceMul, Nat.reduceAdd, Nat.reduceSub, List.nil_append, List.cons_append, List.getElem?_toArray, List.getElem?_cons_zero, List.getElem?_cons_succ, List.setIfInBounds_toArray, List.set_cons_zero, List.set_cons_succ, Option.map_some, List.not_mem_nil, ←decide_not, hv, k, k1, k2, k2', kh, kh5, c6, f6, km6, fm6, kh6, km9, fm9]
    have e6 : (t : Int) + n = ((t + n : Nat) : Int) := by omega
    rw [e6]
    have M10 := M9.set (i := 2) (v := i64 ((t + n : Nat) : Int))
    have G10 := G9.ext (Ext.set (w := w9) (b := m) (o := 2) (v := i64 ((t + n : Nat) : Int))) (by simp; omega)
    refine ⟨by trivial, (X8.trans (F9.more (by simp))).set' (.inl (by simp)), some ⟨gs, 0, none⟩, cap, ⟨?_, ?_, by simpa using hnc, (fun h => by cases h), fun _ => by simp [blkOf]; omega, by simpa using q4, by omega, hf, by simpa using q3⟩, ?_⟩
    · rw [alW_length]
      exact M10
    · have := G10.row.take (wrds (alW ws t (packW p bb false 0) n)).length
      rwa [List.take_left' rfl] at this
    · intro x hx
      simp only [blkOf, List.mem_singleton] at hx
      omega
end
end Go.Proofs.Ytlllabaipfmnjaa
