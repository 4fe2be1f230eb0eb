/- The document's spaces, walked (sq). -/
import Derived.Test.YtdpmidgeipibbaaSpc2
set_option linter.unusedVariables false
set_option linter.unusedSimpArgs false
set_option maxHeartbeats 4000000
namespace Go.Proofs.Ytdpmidgeipibbaa
open Go.Sh Go.RowKit

abbrev rfC (r : Option Addr) (n c b t e : Nat) : List Value := [.slice r n c, i64 (b : Int), i64 (t : Int), i64 (e : Int)]
structure RfIs (w : World) (m : Nat) (r : Option Addr) (c : Nat) (ws : List (BitVec 64)) (b t e : Nat) : Prop where
  blk : Blk w m 46 (rfC r ws.length c b t e)
  row : RowAt w r (wrds ws)
  cap : ws.length ≤ c
  nil : r = none → c = 0
  mr : ws ≠ [] → m ∉ blkOf r
  len : ws.length ≤ 8192
  bt : b ≤ t
  te : t ≤ e
  el : e ≤ ws.length
theorem row_not {w : World} {r : Option Addr} {cs : List Value} {M : List Nat} (h : ∀ x ∈ blkOf r, x ∉ M) : ∀ b o, r = some ⟨b, o, none⟩ → b ∉ M := fun b o e => h b (by subst e; simp [blkOf])
section
variable {w : World} {m : Nat} {r : Option Addr} {c : Nat} {ws : List (BitVec 64)} {b t e : Nat}
theorem RfIs.ext {w' : World} {M : List Nat} (h : RfIs w m r c ws b t e) (hx : Ext M w w') (hm : m ∉ M) (hr : ws ≠ [] → ∀ x ∈ blkOf r, x ∉ M) : RfIs w' m r c ws b t e := by
  refine ⟨h.blk.ext hx hm, ?_, h.cap, h.nil, h.mr, h.len, h.bt, h.te, h.el⟩
  by_cases hw : ws = []
  · subst hw; exact RowAt.nil
  · exact h.row.ext hx (row_not (cs := []) (w := w) (hr hw))
theorem RfIs.ext0 {w' : World} (h : RfIs w m r c ws b t e) (hx : Ext [] w w') : RfIs w' m r c ws b t e := h.ext hx (by simp) (by simp)
theorem rSizeW_spec {x : BitVec 64} (h : okW x) (w : World) : Gives Try.prog n_loamref14_Size #[hd (vP x) (vB x) false (vT x)] w (i64 (szW x : Int)) := by
  have e := (okW_size h).1
  rw [(okW_size h).2.2.1] at e
  rw [← e]
  exact rSize_spec _ _ _ _ w
abbrev rsSpc3_0 := (And.intro @xBox_r (And.intro @loadK_some (And.intro @loadsK_s (And.intro @loadsK_n (And.intro @loadsR_s (And.intro @loadsR_n (And.intro @storesK_s (And.intro @storesK_n (And.intro @xPick_t (And.intro @xPick_f (And.intro @xGuard_tt (And.intro @xGuard_ff (And.intro @xGuard_tf (And.intro @xGuard_ft (And.intro @xGuard_u 
  (And.intro @xNil_r (And.intro @xIf_t (And.intro @xBin_add' (And.intro @xBin_sub' (And.intro @xBin_mul' (And.intro @xBin_quo' (And.intro @xBin_rem' (And.intro @xIf_f (And.intro @xIf_tt (And.intro @xEx0 (And.intro @xEx1 (And.intro @xEx2 (And.intro @xEx3 (And.intro @xBin_eqs (And.intro @xBin_nes (And.intro @xUn_not (And.intro @xu8_add (And.intro @xu8_sub 
  (And.intro @xu8_neq (And.intro @xu8_lss (And.intro @xu8_gtr (And.intro @xu16_add (And.intro @xu16_sub (And.intro @xu16_neq (And.intro @xu16_lss (And.intro @xu16_gtr (And.intro @xu32_add (And.intro @xu32_sub (And.intro @xu32_neq (And.intro @xu32_lss (And.intro @xu32_gtr (And.intro @xu64_add (And.intro @xu64_sub (And.intro @xu64_neq (And.intro @xu64_lss 
  (And.intro @xu64_gtr (And.intro @xi64_lss (And.intro @xi64_gtr (And.intro @xi64_neq (And.intro @xi64_neg (And.intro @xMakeFunc_r (And.intro @xSq_r (And.intro @xPur_s (And.intro @xRd_s (And.intro @xRe_s (And.intro @xDet_s (And.intro @xDet_ld (And.intro @xDet_ld2 (And.intro @xDet_ld3 (And.intro @xDet_ld4 (And.intro @xGuard_tt (And.intro @ld_3 (And.intro @ld_4 
  (And.intro @ld_28 (And.intro @ld_69 (And.intro @ld_84 (And.intro @fa_46_0 (And.intro @fa_46_1 (And.intro @fa_46_2 (And.intro @fa_84_2 (And.intro @al_84 (And.intro @st_84 (And.intro @ia_28 (And.intro @bs_66_0 @bs_66_1)))))))))))))))))))))))))))))))))))))))))))))))))))))))))))))))))))))))))))))))
abbrev rsSpc3_1 := (And.intro @setCells_c (And.intro @setCells_n (And.intro @World.setCell_alloc_at (And.intro @World.setCell_alloc_past (And.intro @World.cell?_alloc_at (And.intro @World.cell?_alloc_past (And.intro @World.frozen?_alloc_at (And.intro @World.frozen?_alloc_past 
  (And.intro @World.size_alloc (And.intro @dlt_t (And.intro @dlt_f (And.intro @dle_t (And.intro @dle_f (And.intro @deq_t (And.intro @deq_f (And.intro @dne_t (And.intro @dne_f (And.intro @not_true_eq_false (And.intro @Bool.false_and (And.intro @Bool.true_and (And.intro @Bool.and_true (And.intro @Bool.and_false (And.intro @wrap_in (And.intro @Int.toNat_natCast 
  (And.intro @Nat.mul_one (And.intro @cells_int (And.intro @cells_bool (And.intro @cells_string (And.intro @cells_slice (And.intro @cells_pointer (And.intro @cells_agg (And.intro @one_int (And.intro @one_bool (And.intro @one_string (And.intro @one_slice (And.intro @one_pointer (And.intro @beq_tt (And.intro @beq_ff (And.intro @beq_tf 
  (And.intro @beq_ft (And.intro @cell_sets_b (And.intro @frozen_sets (And.intro @size_sets (And.intro @World.size_drew (And.intro @Nat.zero_add (And.intro @Nat.add_zero (And.intro @cell_drew (And.intro @frozen_drew (And.intro @cell_set_eq (And.intro @cell_set_o (And.intro @cell_set_b (And.intro @World.frozen?_setCell 
  (And.intro @decide_true (And.intro @decide_false (And.intro @not_false_eq_true (And.intro @Bool.not_true @Bool.not_false))))))))))))))))))))))))))))))))))))))))))))))))))))))))
theorem rObjects_spec (S : RfIs w m r c ws b t e) : Yld Try.prog n_loamref14_Space_Objects #[ptr m] w fun u w' => ObjR (.bool true) (.bool false) w w' u (objs ws b t) := by
  have q1 := S.bt
  have q2 := S.te
  have q3 := S.el
  have q4 := S.len
  refine loamref14_Space_Objects_of ?_
  unfold loamref14_Space_Objects
  have k := fun i => S.blk.cell (i := i)
  simp (disch := (first | omega | decide | (simp only [World.size_alloc, World.size_setCell, World.size_drew, size_sets, List.mem_cons, List.not_mem_nil, or_false, not_false_eq_true] <;> omega) | fail)) only [↓rsSpc3_0, rsSpc3_1, Option.isNone_some, Option.isNone_none, tick_eq, tickV_eq, ne_eq, Int.reduceAdd, Int.reduceSub, Int.reduceMul, Int.reduceEq, Int.reduceLT, Int.reduceLE, Int.reduceToNat, Nat.reduceMul, Nat.reduceAdd, Nat.reduceSub, List.nil_append, List.cons_append, List.getElem?_toArray, List.getElem?_cons_zero, List.getElem?_cons_succ, List.setIfInBounds_toArray, List.set_cons_zero, List.set_cons_succ, Option.map_some, List.not_mem_nil, ←decide_not, k]
  refine xLoop_r (t - b + 1) (Mid ws b t w) ⟨_, b, [], t, rfl, Nat.le_refl _, q1, by omega, by simp [objs], rfl, NewR.nil (Ext.refl _ _)⟩ ?_ ?_
  · rintro j hj u v1 ⟨v, o, p, f, hu, h1, h2, h3, h4, h5, N⟩ nxt hnx
    simp only [List.map_cons, List.map_nil, List.cons.injEq, and_true] at hu
    rw [hu.1, hu.2]
    have S1 := S.ext0 N.1
    have k1 := fun i => S1.blk.cell (i := i)
    have zv := N.2.1.lt
    have N1 := N.1
    unfold loamref14_Space_Objects_l1
    by_cases ho : o < t
    · have ho' : o < ws.length := by omega
      obtain ⟨bb, oo, hr, hb, hc⟩ := S1.row.at (i := o) (by simpa using ho')
      simp only [List.getElem_map] at hc
      have hv : ws[o] = wat ws o := by unfold wat; rw [List.getD_eq_getElem?_getD, List.getElem?_eq_getElem ho']; rfl
      rw [hv] at hc
      have hf : ∃ f', f = f' + 1 := ⟨f - 1, by omega⟩
      obtain ⟨f', rfl⟩ := hf
      unfold walk at h4
      rw [if_pos ho] at h4
      have hh := rUnpack_spec (wat ws o) v1
      simp (disch := (first | omega | decide | (simp only [World.size_alloc, World.size_setCell, World.size_drew, size_sets, List.mem_cons, List.not_mem_nil, or_false, not_false_eq_true] <;> omega) | fail)) only [↓rsSpc3_0, rsSpc3_1, Option.isNone_some, Option.isNone_none, tick_eq, tickV_eq, ne_eq, Int.reduceAdd, Int.reduceSub, Int.reduceMul, Int.reduceEq, Int.reduceLT, Int.reduceLE, Int.reduceToNat, Nat.reduceMul, Nat.reduceAdd, Nat.reduceSub, List.nil_append, List.cons_append, List.getElem?_toArray, List.getElem?_cons_zero, List.getElem?_cons_succ, List.setIfInBounds_toArray, List.set_cons_zero, List.set_cons_succ, Option.map_some, List.not_mem_nil, ←decide_not, k, k1, hr, hc]
      by_cases hk : okW (wat ws o)
      · obtain ⟨e1, e2, e3, e4, e5⟩ := okW_size hk
        rw [e2, e3] at hh
        refine loamref14_Unpack_call (Gives.to hh fun w2 F2 => ?_)
        have S2 := S1.ext0 F2
        simp (disch := (first | omega | decide | (simp only [World.size_alloc, World.size_setCell, World.size_drew, size_sets, List.mem_cons, List.not_mem_nil, or_false, not_false_eq_true] <;> omega) | fail)) only [↓rsSpc3_0, rsSpc3_1, Option.isNone_some, Option.isNone_none, tick_eq, tickV_eq, ne_eq, Int.reduceAdd, Int.reduceSub, Int.reduceMul, Int.reduceEq, Int.reduceLT, Int.reduceLE, Int.reduceToNat, Nat.reduceMul, Nat.reduceAdd, Nat.reduceSub, List.nil_append, List.cons_append, List.getElem?_toArray, List.getElem?_cons_zero, List.getElem?_cons_succ, List.setIfInBounds_toArray, List.set_cons_zero, List.set_cons_succ, Option.map_some, List.not_mem_nil, ←decide_not, k, k1, hr, hc]
        have B : Blk (w2.alloc (.cells #[i64 (vP (wat ws o)), i64 (vB (wat ws o)), .bool false, i64 (vT (wat ws o))] 84)) w2.heap.size 84 [i64 (vP (wat ws o)), i64 (vB (wat ws o)), .bool false, i64 (vT (wat ws o))] := Blk.at rfl
        have X : Ext [] w2 (w2.alloc (.cells #[i64 (vP (wat ws o)), i64 (vB (wat ws o)), .bool false, i64 (vT (wat ws o))] 84)) := Ext.alloc _ _ _
        have kS := fun i => (S2.ext0 X).blk.cell (i := i)
        simp (disch := (first | omega | decide | (simp only [World.size_alloc, World.size_setCell, World.size_drew, size_sets, List.mem_cons, List.not_mem_nil, or_false, not_false_eq_true] <;> omega) | fail)) only [↓rsSpc3_0, rsSpc3_1, Option.isNone_some, Option.isNone_none, tick_eq, tickV_eq, ne_eq, Int.reduceAdd, Int.reduceSub, Int.reduceMul, Int.reduceEq, Int.reduceLT, Int.reduceLE, Int.reduceToNat, Nat.reduceMul, Nat.reduceAdd, Nat.reduceSub, List.nil_append, List.cons_append, List.getElem?_toArray, List.getElem?_cons_zero, List.getElem?_cons_succ, List.setIfInBounds_toArray, List.set_cons_zero, List.set_cons_succ, Option.map_some, List.not_mem_nil, ←decide_not, k, k1, hr, hc, kS]
        refine loamref14_Size_call (Gives.to (rSizeW_spec hk _) fun w3 F3d => ?_)
        have F3 := (Ext.drew [] _).trans F3d
        have S3 := (S2.ext0 X).ext0 F3
        have B3 := B.ext F3 (by simp)
        have N3 := N.ext (F2.trans (X.trans F3))
        have k3 := fun i => S3.blk.cell (i := i)
        have z2 := F2.size
        by_cases hs : o + szW (wat ws o) ≤ t
        · rw [if_pos ⟨hk, hs⟩] at h4
          simp (disch := (first | omega | decide | (simp only [World.size_alloc, World.size_setCell, World.size_drew, size_sets, List.mem_cons, List.not_mem_nil, or_false, not_false_eq_true] <;> omega) | fail)) only [↓rsSpc3_0, rsSpc3_1, Option.isNone_some, Option.isNone_none, tick_eq, tickV_eq, ne_eq, Int.reduceAdd, Int.reduceSub, Int.reduceMul, Int.reduceEq, Int.reduceLT, Int.reduceLE, Int.reduceToNat, Nat.reduceMul, Nat.reduceAdd, Nat.reduceSub, List.nil_append, List.cons_append, List.getElem?_toArray, List.getElem?_cons_zero, List.getElem?_cons_succ, List.setIfInBounds_toArray, List.set_cons_zero, List.set_cons_succ, Option.map_some, List.not_mem_nil, ←decide_not, k, k1, hr, hc, kS, k3]
          refine appIl N3.2.1 rfl (by omega) fun v' w4 O4 F4 => ?_
          have B4 := B3.ext F4.ext (fun hm => by have := zv _ hm; omega)
          have k4 := fun i => B4.cell (i := i)
          simp (disch := (first | omega | decide | (simp only [World.size_alloc, World.size_setCell, World.size_drew, size_sets, List.mem_cons, List.not_mem_nil, or_false, not_false_eq_true] <;> omega) | fail)) only [↓rsSpc3_0, rsSpc3_1, Option.isNone_some, Option.isNone_none, tick_eq, tickV_eq, ne_eq, Int.reduceAdd, Int.reduceSub, Int.reduceMul, Int.reduceEq, Int.reduceLT, Int.reduceLE, Int.reduceToNat, Nat.reduceMul, Nat.reduceAdd, Nat.reduceSub, List.nil_append, List.cons_append, List.getElem?_toArray, List.getElem?_cons_zero, List.getElem?_cons_succ, List.setIfInBounds_toArray, List.set_cons_zero, List.set_cons_succ, Option.map_some, List.not_mem_nil, ←decide_not, k, k1, hr, hc, kS, k3, k4]
          refine loamref14_Size_call (Gives.to (rSizeW_spec hk _) fun w5 F5 => ?_)
          simp (disch := (first | omega | decide | (simp only [World.size_alloc, World.size_setCell, World.size_drew, size_sets, List.mem_cons, List.not_mem_nil, or_false, not_false_eq_true] <;> omega) | fail)) only [↓rsSpc3_0, rsSpc3_1, Option.isNone_some, Option.isNone_none, tick_eq, tickV_eq, ne_eq, Int.reduceAdd, Int.reduceSub, Int.reduceMul, Int.reduceEq, Int.reduceLT, Int.reduceLE, Int.reduceToNat, Nat.reduceMul, Nat.reduceAdd, Nat.reduceSub, List.nil_append, List.cons_append, List.getElem?_toArray, List.getElem?_cons_zero, List.getElem?_cons_succ, List.setIfInBounds_toArray, List.set_cons_zero, List.set_cons_succ, Option.map_some, List.not_mem_nil, ←decide_not, k, k1, hr, hc, kS, k3, k4]
          have e6 : (o : Int) + szW (wat ws o) = ((o + szW (wat ws o) : Nat) : Int) := by omega
          rw [e6]
          refine hnx _ _ ⟨v', o + szW (wat ws o), p ++ [o], f', rfl, by omega, hs, by omega, ?_, by simp [h5], (N3.app O4 F4).ext F5⟩
          rw [h4, Option.map_map]
          congr 1
          funext r
          simp
        · rw [if_neg (fun h => hs h.2)] at h4
          rw [h4]
          simp (disch := (first | omega | decide | (simp only [World.size_alloc, World.size_setCell, World.size_drew, size_sets, List.mem_cons, List.not_mem_nil, or_false, not_false_eq_true] <;> omega) | fail)) only [↓rsSpc3_0, rsSpc3_1, Option.isNone_some, Option.isNone_none, tick_eq, tickV_eq, ne_eq, Int.reduceAdd, Int.reduceSub, Int.reduceMul, Int.reduceEq, Int.reduceLT, Int.reduceLE, Int.reduceToNat, Nat.reduceMul, Nat.reduceAdd, Nat.reduceSub, List.nil_append, List.cons_append, List.getElem?_toArray, List.getElem?_cons_zero, List.getElem?_cons_succ, List.setIfInBounds_toArray, List.set_cons_zero, List.set_cons_succ, Option.map_some, List.not_mem_nil, ←decide_not, k, k1, hr, hc, kS, k3]
          exact ⟨by trivial, N.1.trans (F2.trans (X.trans F3))⟩
      · rw [if_neg (fun h => hk h.1)] at h4
        rw [h4]
        by_cases he : unErr (wat ws o) = 0
        · rw [he, okW_not hk he] at hh
          refine loamref14_Unpack_call (Gives.to hh fun w2 F2 => ?_)
          simp (disch := (first | omega | decide | (simp only [World.size_alloc, World.size_setCell, World.size_drew, size_sets, List.mem_cons, List.not_mem_nil, or_false, not_false_eq_true] <;> omega) | fail)) only [↓rsSpc3_0, rsSpc3_1, Option.isNone_some, Option.isNone_none, tick_eq, tickV_eq, ne_eq, Int.reduceAdd, Int.reduceSub, Int.reduceMul, Int.reduceEq, Int.reduceLT, Int.reduceLE, Int.reduceToNat, Nat.reduceMul, Nat.reduceAdd, Nat.reduceSub, List.nil_append, List.cons_append, List.getElem?_toArray, List.getElem?_cons_zero, List.getElem?_cons_succ, List.setIfInBounds_toArray, List.set_cons_zero, List.set_cons_succ, Option.map_some, List.not_mem_nil, ←decide_not, k, k1, hr, hc]
          exact ⟨by trivial, by (repeat (first | with_reducible exact Ext.refl _ _ | with_reducible assumption | with_reducible refine Ext.alloc' ?_ _ | with_reducible refine Ext.drew' ?_ | with_reducible refine Ext.set' ?_ ?_ | exact .inr (by first | omega | (simp only [World.size_alloc, World.size_drew, World.size_setCell] <;> omega)) | refine Ext.trans ?_ (by with_reducible assumption)))⟩
        · refine loamref14_Unpack_call (Gives.to hh fun w2 F2 => ?_)
          simp (disch := (first | omega | decide | (simp only [World.size_alloc, World.size_setCell, World.size_drew, size_sets, List.mem_cons, List.not_mem_nil, or_false, not_false_eq_true] <;> omega) | fail)) only [↓rsSpc3_0, rsSpc3_1, Option.isNone_some, Option.isNone_none, tick_eq, tickV_eq, ne_eq, Int.reduceAdd, Int.reduceSub, Int.reduceMul, Int.reduceEq, Int.reduceLT, Int.reduceLE, Int.reduceToNat, Nat.reduceMul, Nat.reduceAdd, Nat.reduceSub, List.nil_append, List.cons_append, List.getElem?_toArray, List.getElem?_cons_zero, List.getElem?_cons_succ, List.setIfInBounds_toArray, List.set_cons_zero, List.set_cons_succ, Option.map_some, List.not_mem_nil, ←decide_not, k, k1, hr, hc]
          exact ⟨by trivial, by (repeat (first | with_reducible exact Ext.refl _ _ | with_reducible assumption | with_reducible refine Ext.alloc' ?_ _ | with_reducible refine Ext.drew' ?_ | with_reducible refine Ext.set' ?_ ?_ | exact .inr (by first | omega | (simp only [World.size_alloc, World.size_drew, World.size_setCell] <;> omega)) | refine Ext.trans ?_ (by with_reducible assumption)))⟩
    · have e1 : o = t := by omega
      subst e1
      have h6 : objs ws b o = some p := by
        rw [h4]
        cases f with
        | zero => simp [walk]
        | succ f => simp [walk]
      rw [h6]
      obtain ⟨a2, c2, rfl, hc2, _, hn2, hr2, _⟩ := N.2.1.slice
      simp (disch := (first | omega | decide | (simp only [World.size_alloc, World.size_setCell, World.size_drew, size_sets, List.mem_cons, List.not_mem_nil, or_false, not_false_eq_true] <;> omega) | fail)) only [↓rsSpc3_0, rsSpc3_1, Option.isNone_some, Option.isNone_none, tick_eq, tickV_eq, ne_eq, Int.reduceAdd, Int.reduceSub, Int.reduceMul, Int.reduceEq, Int.reduceLT, Int.reduceLE, Int.reduceToNat, Nat.reduceMul, Nat.reduceAdd, Nat.reduceSub, List.nil_append, List.cons_append, List.getElem?_toArray, List.getElem?_cons_zero, List.getElem?_cons_succ, List.setIfInBounds_toArray, List.set_cons_zero, List.set_cons_succ, Option.map_some, List.not_mem_nil, ←decide_not, k, k1]
      exact ⟨_, rfl, N.1, a2, c2, rfl, hc2, hr2⟩
  · rintro u v1 ⟨v, o, p, f, hu, h1, h2, h3, h4, h5, N⟩ nxt
    omega
end
end Go.Proofs.Ytdpmidgeipibbaa
