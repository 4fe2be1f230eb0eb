/- Walking over a space, emptying it, its twin (sq). -/
import Derived.Test.YtdpmidgeipibbaaSpc
set_option linter.unusedVariables false
set_option linter.unusedSimpArgs false
set_option maxHeartbeats 4000000
namespace Go.Proofs.Ytdpmidgeipibbaa
open Go.Sh Go.RowKit

def IntsR (w w' : World) (v : Value) (l : List Nat) : Prop := Ext [] w w' ∧ ∃ a c, v = .slice a l.length c ∧ l.length ≤ c ∧ RowAt w' a (nums l)
def ObjR (e0 e1 : Value) (w w' : World) (u : Value) : Option (List Nat) → Prop
  | some l => ∃ v, u = .tuple #[v, e0] ∧ IntsR w w' v l
  | none => u = .tuple #[.slice none 0 0, e1] ∧ Ext [] w w'
theorem SizeW_spec {x : BitVec 64} (h : okW x) (w : World) : Gives Try.prog n_head_Size #[hd (vP x) (vB x) false (vT x)] w (i64 (szW x : Int)) := by
  have e := (okW_size h).1
  rw [(okW_size h).2.2.1] at e
  rw [← e]
  exact Size_spec _ _ _ _ w
abbrev rsSpc2_0 := (And.intro @xBox_r (And.intro @loadK_some (And.intro @loadsK_s (And.intro @loadsK_n (And.intro @loadsR_s (And.intro @loadsR_n (And.intro @storesK_s (And.intro @storesK_n (And.intro @xPick_t (And.intro @xPick_f (And.intro @xGuard_tt (And.intro @xGuard_ff (And.intro @xGuard_tf (And.intro @xGuard_ft (And.intro @xGuard_u 
  (And.intro @xNil_r (And.intro @xIf_t (And.intro @xBin_add' (And.intro @xBin_sub' (And.intro @xBin_mul' (And.intro @xBin_quo' (And.intro @xBin_rem' (And.intro @xIf_f (And.intro @xIf_tt (And.intro @xEx0 (And.intro @xEx1 (And.intro @xEx2 (And.intro @xEx3 (And.intro @xBin_eqs (And.intro @xBin_nes (And.intro @xUn_not (And.intro @xMakeFunc_r (And.intro @xSq_r 
  (And.intro @xPur_s (And.intro @xRd_s (And.intro @xRe_s (And.intro @xDet_s (And.intro @xDet_ld (And.intro @xDet_ld2 (And.intro @xDet_ld3 (And.intro @xDet_ld4 (And.intro @xGuard_tt (And.intro @ln_66 (And.intro @sh_66 @sm_66))))))))))))))))))))))))))))))))))))))))))))
abbrev rsSpc2_1 := (And.intro @setCells_c (And.intro @setCells_n (And.intro @World.setCell_alloc_at (And.intro @World.setCell_alloc_past (And.intro @World.cell?_alloc_at (And.intro @World.cell?_alloc_past (And.intro @World.frozen?_alloc_at (And.intro @World.frozen?_alloc_past 
  (And.intro @World.size_alloc (And.intro @dlt_t (And.intro @dlt_f (And.intro @dle_t (And.intro @dle_f (And.intro @deq_t (And.intro @deq_f (And.intro @dne_t (And.intro @dne_f (And.intro @not_true_eq_false (And.intro @Bool.false_and (And.intro @Bool.true_and (And.intro @Bool.and_true (And.intro @Bool.and_false (And.intro @wrap_in (And.intro @Int.toNat_natCast 
  (And.intro @Nat.mul_one (And.intro @cells_int (And.intro @cells_bool (And.intro @cells_string (And.intro @cells_slice (And.intro @cells_pointer (And.intro @cells_agg (And.intro @one_int (And.intro @one_bool (And.intro @one_string (And.intro @one_slice (And.intro @one_pointer (And.intro @beq_tt (And.intro @beq_ff (And.intro @beq_tf 
  (And.intro @beq_ft (And.intro @cell_sets_b (And.intro @frozen_sets (And.intro @size_sets (And.intro @World.size_drew (And.intro @Nat.zero_add (And.intro @Nat.add_zero (And.intro @cell_drew (And.intro @frozen_drew (And.intro @cell_set_eq (And.intro @cell_set_o (And.intro @cell_set_b (And.intro @World.frozen?_setCell 
  (And.intro @decide_true (And.intro @decide_false (And.intro @not_false_eq_true (And.intro @Bool.not_true @Bool.not_false))))))))))))))))))))))))))))))))))))))))))))))))))))))))
theorem ClipI_spec {w : World} {b : Option Addr} {n m : Nat} (hm : n ≤ m) : Gives Try.prog n_slices_Clip_int_int #[.slice b n m] w (.slice b n n) := by
  refine slices_Clip_int_int_of ?_
  unfold slices_Clip_int_int
  simp (disch := (first | omega | decide | (simp only [World.size_alloc, World.size_setCell, World.size_drew, size_sets, List.mem_cons, List.not_mem_nil, or_false, not_false_eq_true] <;> omega) | fail)) only [↓rsSpc2_0, rsSpc2_1, Option.isNone_some, Option.isNone_none, tick_eq, tickV_eq, ne_eq, Int.reduceAdd, Int.reduceSub, Int.reduceMul, Int.reduceEq, Int.reduceLT, Int.reduceLE, Int.reduceToNat, Nat.reduceMul, Nat.reduceAdd, Nat.reduceSub, List.nil_append, List.cons_append, List.getElem?_toArray, List.getElem?_cons_zero, List.getElem?_cons_succ, List.setIfInBounds_toArray, List.set_cons_zero, List.set_cons_succ, Option.map_some, List.not_mem_nil, ←decide_not, eq_self]
  exact ⟨by trivial, by (repeat (first | with_reducible exact Ext.refl _ _ | with_reducible assumption | with_reducible refine Ext.alloc' ?_ _ | with_reducible refine Ext.drew' ?_ | with_reducible refine Ext.set' ?_ ?_ | exact .inr (by first | omega | (simp only [World.size_alloc, World.size_drew, World.size_setCell] <;> omega)) | refine Ext.trans ?_ (by with_reducible assumption)))⟩
abbrev NewI (w w' : World) (v : Value) (l : List Nat) : Prop := NewR 3 1 w w' v l.length (nums l)
/-- what the walk has seen, and what is left -/
def Mid (ws : List (BitVec 64)) (b t : Nat) (w : World) (j : Nat) (vs : List Value) (w' : World) : Prop :=
  ∃ v o p f, vs = [v, i64 ((o : Nat) : Int)] ∧ b + j ≤ o ∧ o ≤ t ∧ t ≤ o + f ∧ objs ws b t = (walk ws t f o).map (p ++ ·) ∧ p.length = j ∧ NewI w w' v p
section
variable {w : World} {base s g : Nat} {a : Option Addr} {c : Nat} {ws : List (BitVec 64)} {b t e : Nat}
abbrev rsSpc2_2 := (And.intro @xBox_r (And.intro @loadK_some (And.intro @loadsK_s (And.intro @loadsK_n (And.intro @loadsR_s (And.intro @loadsR_n (And.intro @storesK_s (And.intro @storesK_n (And.intro @xPick_t (And.intro @xPick_f (And.intro @xGuard_tt (And.intro @xGuard_ff (And.intro @xGuard_tf (And.intro @xGuard_ft (And.intro @xGuard_u 
  (And.intro @xNil_r (And.intro @xIf_t (And.intro @xBin_add' (And.intro @xBin_sub' (And.intro @xBin_mul' (And.intro @xBin_quo' (And.intro @xBin_rem' (And.intro @xIf_f (And.intro @xIf_tt (And.intro @xEx0 (And.intro @xEx1 (And.intro @xEx2 (And.intro @xEx3 (And.intro @xBin_eqs (And.intro @xBin_nes (And.intro @xUn_not (And.intro @xu8_add (And.intro @xu8_sub 
  (And.intro @xu8_neq (And.intro @xu8_lss (And.intro @xu8_gtr (And.intro @xu16_add (And.intro @xu16_sub (And.intro @xu16_neq (And.intro @xu16_lss (And.intro @xu16_gtr (And.intro @xu32_add (And.intro @xu32_sub (And.intro @xu32_neq (And.intro @xu32_lss (And.intro @xu32_gtr (And.intro @xu64_add (And.intro @xu64_sub (And.intro @xu64_neq (And.intro @xu64_lss 
  (And.intro @xu64_gtr (And.intro @xi64_lss (And.intro @xi64_gtr (And.intro @xi64_neq (And.intro @xi64_neg (And.intro @xMakeFunc_r (And.intro @xSq_r (And.intro @xPur_s (And.intro @xRd_s (And.intro @xRe_s (And.intro @xDet_s (And.intro @xDet_ld (And.intro @xDet_ld2 (And.intro @xDet_ld3 (And.intro @xDet_ld4 (And.intro @xGuard_tt (And.intro @ld_3 (And.intro @ld_4 
  (And.intro @ld_123 (And.intro @fa_102_1 (And.intro @fa_102_2 (And.intro @fa_123_2 (And.intro @al_123 (And.intro @st_123 (And.intro @bs_66_0 @bs_66_1)))))))))))))))))))))))))))))))))))))))))))))))))))))))))))))))))))))))))))
theorem SObjects_spec (S : SpIs w base s g a c ws b t e) : Yld Try.prog n_space_Space_Objects #[ptr s] w fun u w' => ObjR (i64 0) (i64 2) w w' u (objs ws b t) := by
  have q1 := S.bt
  have q2 := S.te
  have q3 := S.el
  have q4 := S.mem.len
  refine space_Space_Objects_of ?_
  unfold space_Space_Objects
  have k := fun i => S.blk.cell (i := i)
  simp (disch := (first | omega | decide | (simp only [World.size_alloc, World.size_setCell, World.size_drew, size_sets, List.mem_cons, List.not_mem_nil, or_false, not_false_eq_true] <;> omega) | fail)) only [↓rsSpc2_2, rsSpc2_1, Option.isNone_some, Option.isNone_none, tick_eq, tickV_eq, ne_eq, Int.reduceAdd, Int.reduceSub, Int.reduceMul, Int.reduceEq, Int.reduceLT, Int.reduceLE, Int.reduceToNat, Nat.reduceMul, Nat.reduceAdd, Nat.reduceSub, List.nil_append, List.cons_append, List.getElem?_toArray, List.getElem?_cons_zero, List.getElem?_cons_succ, List.setIfInBounds_toArray, List.set_cons_zero, List.set_cons_succ, Option.map_some, List.not_mem_nil, ←decide_not, k]
  refine xLoop_r (t - b + 1) (Mid ws b t w) ⟨_, b, [], t, rfl, Nat.le_refl _, q1, by omega, by simp [objs], rfl, NewR.nil (Ext.refl _ _)⟩ ?_ ?_
  · rintro j hj u v1 ⟨v, o, p, f, hu, h1, h2, h3, h4, h5, N⟩ nxt hnx
    simp only [List.map_cons, List.map_nil, List.cons.injEq, and_true] at hu
    rw [hu.1, hu.2]
    have S1 := S.ext0 N.1
    have k1 := fun i => S1.blk.cell (i := i)
    have zv := N.2.1.lt
    have N1 := N.1
    unfold space_Space_Objects_l1
    simp (disch := (first | omega | decide | (simp only [World.size_alloc, World.size_setCell, World.size_drew, size_sets, List.mem_cons, List.not_mem_nil, or_false, not_false_eq_true] <;> omega) | fail)) only [↓rsSpc2_2, rsSpc2_1, Option.isNone_some, Option.isNone_none, tick_eq, tickV_eq, ne_eq, Int.reduceAdd, Int.reduceSub, Int.reduceMul, Int.reduceEq, Int.reduceLT, Int.reduceLE, Int.reduceToNat, Nat.reduceMul, Nat.reduceAdd, Nat.reduceSub, List.nil_append, List.cons_append, List.getElem?_toArray, List.getElem?_cons_zero, List.getElem?_cons_succ, List.setIfInBounds_toArray, List.set_cons_zero, List.set_cons_succ, Option.map_some, List.not_mem_nil, ←decide_not, k, k1]
    by_cases ho : o < t
    · simp (disch := (first | omega | decide | (simp only [World.size_alloc, World.size_setCell, World.size_drew, size_sets, List.mem_cons, List.not_mem_nil, or_false, not_false_eq_true] <;> omega) | fail)) only [↓rsSpc2_2, rsSpc2_1, Option.isNone_some, Option.isNone_none, tick_eq, tickV_eq, ne_eq, Int.reduceAdd, Int.reduceSub, Int.reduceMul, Int.reduceEq, Int.reduceLT, Int.reduceLE, Int.reduceToNat, Nat.reduceMul, Nat.reduceAdd, Nat.reduceSub, List.nil_append, List.cons_append, List.getElem?_toArray, List.getElem?_cons_zero, List.getElem?_cons_succ, List.setIfInBounds_toArray, List.set_cons_zero, List.set_cons_succ, Option.map_some, List.not_mem_nil, ←decide_not, k, k1]
      have hf : ∃ f', f = f' + 1 := ⟨f - 1, by omega⟩
      obtain ⟨f', rfl⟩ := hf
      unfold walk at h4
      rw [if_pos ho] at h4
      have hh := SHead_in S1 (by omega) ho
      by_cases hk : okW (wat ws o)
      · obtain ⟨e1, e2, e3, e4, e5⟩ := okW_size hk
        rw [e2, e3] at hh
        refine space_Space_Head_call (Gives.to hh fun w2 F2 => ?_)
        have S2 := S1.ext0 F2
        simp (disch := (first | omega | decide | (simp only [World.size_alloc, World.size_setCell, World.size_drew, size_sets, List.mem_cons, List.not_mem_nil, or_false, not_false_eq_true] <;> omega) | fail)) only [↓rsSpc2_2, rsSpc2_1, Option.isNone_some, Option.isNone_none, tick_eq, tickV_eq, ne_eq, Int.reduceAdd, Int.reduceSub, Int.reduceMul, Int.reduceEq, Int.reduceLT, Int.reduceLE, Int.reduceToNat, Nat.reduceMul, Nat.reduceAdd, Nat.reduceSub, List.nil_append, List.cons_append, List.getElem?_toArray, List.getElem?_cons_zero, List.getElem?_cons_succ, List.setIfInBounds_toArray, List.set_cons_zero, List.set_cons_succ, Option.map_some, List.not_mem_nil, ←decide_not, k, k1]
        have B : Blk (w2.alloc (.cells #[i64 (vP (wat ws o)), i64 (vB (wat ws o)), .bool false, i64 (vT (wat ws o))] 123)) w2.heap.size 123 [i64 (vP (wat ws o)), i64 (vB (wat ws o)), .bool false, i64 (vT (wat ws o))] := Blk.at rfl
        have X : Ext [] w2 (w2.alloc (.cells #[i64 (vP (wat ws o)), i64 (vB (wat ws o)), .bool false, i64 (vT (wat ws o))] 123)) := Ext.alloc _ _ _
        have kS := fun i => (S2.ext0 X).blk.cell (i := i)
        simp (disch := (first | omega | decide | (simp only [World.size_alloc, World.size_setCell, World.size_drew, size_sets, List.mem_cons, List.not_mem_nil, or_false, not_false_eq_true] <;> omega) | fail)) only [↓rsSpc2_2, rsSpc2_1, Option.isNone_some, Option.isNone_none, tick_eq, tickV_eq, ne_eq, Int.reduceAdd, Int.reduceSub, Int.reduceMul, Int.reduceEq, Int.reduceLT, Int.reduceLE, Int.reduceToNat, Nat.reduceMul, Nat.reduceAdd, Nat.reduceSub, List.nil_append, List.cons_append, List.getElem?_toArray, List.getElem?_cons_zero, List.getElem?_cons_succ, List.setIfInBounds_toArray, List.set_cons_zero, List.set_cons_succ, Option.map_some, List.not_mem_nil, ←decide_not, k, k1, kS]
        refine head_Size_call (Gives.to (SizeW_spec hk _) fun w3 F3d => ?_)
        have F3 := (Ext.drew [] _).trans F3d
        have S3 := (S2.ext0 X).ext0 F3
        have B3 := B.ext F3 (by simp)
        have N3 := N.ext (F2.trans (X.trans F3))
        have k3 := fun i => S3.blk.cell (i := i)
        have z2 := F2.size
        by_cases hs : o + szW (wat ws o) ≤ t
        · rw [if_pos ⟨hk, hs⟩] at h4
          simp (disch := (first | omega | decide | (simp only [World.size_alloc, World.size_setCell, World.size_drew, size_sets, List.mem_cons, List.not_mem_nil, or_false, not_false_eq_true] <;> omega) | fail)) only [↓rsSpc2_2, rsSpc2_1, Option.isNone_some, Option.isNone_none, tick_eq, tickV_eq, ne_eq, Int.reduceAdd, Int.reduceSub, Int.reduceMul, Int.reduceEq, Int.reduceLT, Int.reduceLE, Int.reduceToNat, Nat.reduceMul, Nat.reduceAdd, Nat.reduceSub, List.nil_append, List.cons_append, List.getElem?_toArray, List.getElem?_cons_zero, List.getElem?_cons_succ, List.setIfInBounds_toArray, List.set_cons_zero, List.set_cons_succ, Option.map_some, List.not_mem_nil, ←decide_not, k, k1, kS, k3]
          refine appIl N3.2.1 rfl (by omega) fun v' w4 O4 F4 => ?_
          have B4 := B3.ext F4.ext (fun hm => by have := zv _ hm; omega)
          have k4 := fun i => B4.cell (i := i)
          simp (disch := (first | omega | decide | (simp only [World.size_alloc, World.size_setCell, World.size_drew, size_sets, List.mem_cons, List.not_mem_nil, or_false, not_false_eq_true] <;> omega) | fail)) only [↓rsSpc2_2, rsSpc2_1, Option.isNone_some, Option.isNone_none, tick_eq, tickV_eq, ne_eq, Int.reduceAdd, Int.reduceSub, Int.reduceMul, Int.reduceEq, Int.reduceLT, Int.reduceLE, Int.reduceToNat, Nat.reduceMul, Nat.reduceAdd, Nat.reduceSub, List.nil_append, List.cons_append, List.getElem?_toArray, List.getElem?_cons_zero, List.getElem?_cons_succ, List.setIfInBounds_toArray, List.set_cons_zero, List.set_cons_succ, Option.map_some, List.not_mem_nil, ←decide_not, k, k1, kS, k3, k4]
          refine head_Size_call (Gives.to (SizeW_spec hk _) fun w5 F5 => ?_)
          simp (disch := (first | omega | decide | (simp only [World.size_alloc, World.size_setCell, World.size_drew, size_sets, List.mem_cons, List.not_mem_nil, or_false, not_false_eq_true] <;> omega) | fail)) only [↓rsSpc2_2, rsSpc2_1, Option.isNone_some, Option.isNone_none, tick_eq, tickV_eq, ne_eq, Int.reduceAdd, Int.reduceSub, Int.reduceMul, Int.reduceEq, Int.reduceLT, Int.reduceLE, Int.reduceToNat, Nat.reduceMul, Nat.reduceAdd, Nat.reduceSub, List.nil_append, List.cons_append, List.getElem?_toArray, List.getElem?_cons_zero, List.getElem?_cons_succ, List.setIfInBounds_toArray, List.set_cons_zero, List.set_cons_succ, Option.map_some, List.not_mem_nil, ←decide_not, k, k1, kS, k3, k4]
          have e6 : (o : Int) + szW (wat ws o) = ((o + szW (wat ws o) : Nat) : Int) := by omega
          rw [e6]
          refine hnx _ _ ⟨v', o + szW (wat ws o), p ++ [o], f', rfl, by omega, hs, by omega, ?_, by simp [h5], (N3.app O4 F4).ext F5⟩
          rw [h4, Option.map_map]
          congr 1
          funext r
          simp
        · rw [if_neg (fun h => hs h.2)] at h4
          rw [h4]
          simp (disch := (first | omega | decide | (simp only [World.size_alloc, World.size_setCell, World.size_drew, size_sets, List.mem_cons, List.not_mem_nil, or_false, not_false_eq_true] <;> omega) | fail)) only [↓rsSpc2_2, rsSpc2_1, Option.isNone_some, Option.isNone_none, tick_eq, tickV_eq, ne_eq, Int.reduceAdd, Int.reduceSub, Int.reduceMul, Int.reduceEq, Int.reduceLT, Int.reduceLE, Int.reduceToNat, Nat.reduceMul, Nat.reduceAdd, Nat.reduceSub, List.nil_append, List.cons_append, List.getElem?_toArray, List.getElem?_cons_zero, List.getElem?_cons_succ, List.setIfInBounds_toArray, List.set_cons_zero, List.set_cons_succ, Option.map_some, List.not_mem_nil, ←decide_not, k, k1, kS, k3]
          exact ⟨by trivial, N.1.trans (F2.trans (X.trans F3))⟩
      · rw [if_neg (fun h => hk h.1)] at h4
        rw [h4]
        by_cases he : unErr (wat ws o) = 0
        · rw [he, okW_not hk he] at hh
          refine space_Space_Head_call (Gives.to hh fun w2 F2 => ?_)
          simp (disch := (first | omega | decide | (simp only [World.size_alloc, World.size_setCell, World.size_drew, size_sets, List.mem_cons, List.not_mem_nil, or_false, not_false_eq_true] <;> omega) | fail)) only [↓rsSpc2_2, rsSpc2_1, Option.isNone_some, Option.isNone_none, tick_eq, tickV_eq, ne_eq, Int.reduceAdd, Int.reduceSub, Int.reduceMul, Int.reduceEq, Int.reduceLT, Int.reduceLE, Int.reduceToNat, Nat.reduceMul, Nat.reduceAdd, Nat.reduceSub, List.nil_append, List.cons_append, List.getElem?_toArray, List.getElem?_cons_zero, List.getElem?_cons_succ, List.setIfInBounds_toArray, List.set_cons_zero, List.set_cons_succ, Option.map_some, List.not_mem_nil, ←decide_not, k, k1]
          exact ⟨by trivial, by (repeat (first | with_reducible exact Ext.refl _ _ | with_reducible assumption | with_reducible refine Ext.alloc' ?_ _ | with_reducible refine Ext.drew' ?_ | with_reducible refine Ext.set' ?_ ?_ | exact .inr (by first | omega | (simp only [World.size_alloc, World.size_drew, World.size_setCell] <;> omega)) | refine Ext.trans ?_ (by with_reducible assumption)))⟩
        · refine space_Space_Head_call (Gives.to hh fun w2 F2 => ?_)
          simp (disch := (first | omega | decide | (simp only [World.size_alloc, World.size_setCell, World.size_drew, size_sets, List.mem_cons, List.not_mem_nil, or_false, not_false_eq_true] <;> omega) | fail)) only [↓rsSpc2_2, rsSpc2_1, Option.isNone_some, Option.isNone_none, tick_eq, tickV_eq, ne_eq, Int.reduceAdd, Int.reduceSub, Int.reduceMul, Int.reduceEq, Int.reduceLT, Int.reduceLE, Int.reduceToNat, Nat.reduceMul, Nat.reduceAdd, Nat.reduceSub, List.nil_append, List.cons_append, List.getElem?_toArray, List.getElem?_cons_zero, List.getElem?_cons_succ, List.setIfInBounds_toArray, List.set_cons_zero, List.set_cons_succ, Option.map_some, List.not_mem_nil, ←decide_not, k, k1]
          exact ⟨by trivial, by (repeat (first | with_reducible exact Ext.refl _ _ | with_reducible assumption | with_reducible refine Ext.alloc' ?_ _ | with_reducible refine Ext.drew' ?_ | with_reducible refine Ext.set' ?_ ?_ | exact .inr (by first | omega | (simp only [World.size_alloc, World.size_drew, World.size_setCell] <;> omega)) | refine Ext.trans ?_ (by with_reducible assumption)))⟩
    · have e1 : o = t := by omega
      subst e1
      have h6 : objs ws b o = some p := by
        rw [h4]
        cases f with
        | zero => simp [walk]
        | succ f => simp [walk]
      rw [h6]
      obtain ⟨a2, c2, rfl, hc2, _, hn2, hr2, _⟩ := N.2.1.slice
      simp (disch := (first | omega | decide | (simp only [World.size_alloc, World.size_setCell, World.size_drew, size_sets, List.mem_cons, List.not_mem_nil, or_false, not_false_eq_true] <;> omega) | fail)) only [↓rsSpc2_2, rsSpc2_1, Option.isNone_some, Option.isNone_none, tick_eq, tickV_eq, ne_eq, Int.reduceAdd, Int.reduceSub, Int.reduceMul, Int.reduceEq, Int.reduceLT, Int.reduceLE, Int.reduceToNat, Nat.reduceMul, Nat.reduceAdd, Nat.reduceSub, List.nil_append, List.cons_append, List.getElem?_toArray, List.getElem?_cons_zero, List.getElem?_cons_succ, List.setIfInBounds_toArray, List.set_cons_zero, List.set_cons_succ, Option.map_some, List.not_mem_nil, ←decide_not, k, k1]
      refine slices_Clip_int_int_call (Gives.to (ClipI_spec hc2) fun w2 F2 => ?_)
      simp (disch := (first | omega | decide | (simp only [World.size_alloc, World.size_setCell, World.size_drew, size_sets, List.mem_cons, List.not_mem_nil, or_false, not_false_eq_true] <;> omega) | fail)) only [↓rsSpc2_2, rsSpc2_1, Option.isNone_some, Option.isNone_none, tick_eq, tickV_eq, ne_eq, Int.reduceAdd, Int.reduceSub, Int.reduceMul, Int.reduceEq, Int.reduceLT, Int.reduceLE, Int.reduceToNat, Nat.reduceMul, Nat.reduceAdd, Nat.reduceSub, List.nil_append, List.cons_append, List.getElem?_toArray, List.getElem?_cons_zero, List.getElem?_cons_succ, List.setIfInBounds_toArray, List.set_cons_zero, List.set_cons_succ, Option.map_some, List.not_mem_nil, ←decide_not, k, k1]
      exact ⟨_, rfl, N.1.trans F2, a2, p.length, rfl, Nat.le_refl _, hr2.ext0 F2⟩
  · rintro u v1 ⟨v, o, p, f, hu, h1, h2, h3, h4, h5, N⟩ nxt
    omega
abbrev rsSpc2_3 := (And.intro @xBox_r (And.intro @loadK_some (And.intro @loadsK_s (And.intro @loadsK_n (And.intro @loadsR_s (And.intro @loadsR_n (And.intro @storesK_s (And.intro @storesK_n (And.intro @xPick_t (And.intro @xPick_f (And.intro @xGuard_tt (And.intro @xGuard_ff (And.intro @xGuard_tf (And.intro @xGuard_ft (And.intro @xGuard_u 
  (And.intro @xNil_r (And.intro @xIf_t (And.intro @xBin_add' (And.intro @xBin_sub' (And.intro @xBin_mul' (And.intro @xBin_quo' (And.intro @xBin_rem' (And.intro @xIf_f (And.intro @xIf_tt (And.intro @xEx0 (And.intro @xEx1 (And.intro @xEx2 (And.intro @xEx3 (And.intro @xBin_eqs (And.intro @xBin_nes (And.intro @xUn_not (And.intro @xu8_com (And.intro @xu8_neq 
  (And.intro @xu16_com (And.intro @xu16_neq (And.intro @xu32_com (And.intro @xu32_neq (And.intro @xu64_com (And.intro @xu64_neq (And.intro @xi64_neq (And.intro @xi64_neg (And.intro @xMakeFunc_r (And.intro @xSq_r (And.intro @xPur_s (And.intro @xRd_s (And.intro @xRe_s (And.intro @xDet_s (And.intro @xDet_ld (And.intro @xDet_ld2 (And.intro @xDet_ld3 
  (And.intro @xDet_ld4 (And.intro @xGuard_tt @bd_102_0_1_2_3))))))))))))))))))))))))))))))))))))))))))))))))))))
theorem SOf_bad {b t e : Int} (h : MemIs w base g a c ws) (hb : ¬ mayP b t e ws.length) : Gives Try.prog n_space_Of #[ptr g, i64 b, i64 t, i64 e] w (.tuple #[.pointer none, i64 1]) := by
  refine space_Of_of ?_
  unfold space_Of
  have hv : decide (mayP b t e ws.length) = false := decide_eq_false hb
  simp (disch := (first | omega | decide | (simp only [World.size_alloc, World.size_setCell, World.size_drew, size_sets, List.mem_cons, List.not_mem_nil, or_false, not_false_eq_true] <;> omega) | fail)) only [↓rsSpc2_3, rsSpc2_1, Option.isNone_some, Option.isNone_none, tick_eq, tickV_eq, ne_eq, Int.reduceAdd, Int.reduceSub, Int.reduceMul, Int.reduceEq, Int.reduceLT, Int.reduceLE, Int.reduceToNat, Nat.reduceMul, Nat.reduceAdd, Nat.reduceSub, List.nil_append, List.cons_append, List.getElem?_toArray, List.getElem?_cons_zero, List.getElem?_cons_succ, List.setIfInBounds_toArray, List.set_cons_zero, List.set_cons_succ, Option.map_some, List.not_mem_nil, ←decide_not, eq_self]
  refine space_may_call (Gives.to (may_spec b t e h) fun w1 F1 => ?_)
  rw [hv]
  simp (disch := (first | omega | decide | (simp only [World.size_alloc, World.size_setCell, World.size_drew, size_sets, List.mem_cons, List.not_mem_nil, or_false, not_false_eq_true] <;> omega) | fail)) only [↓rsSpc2_3, rsSpc2_1, Option.isNone_some, Option.isNone_none, tick_eq, tickV_eq, ne_eq, Int.reduceAdd, Int.reduceSub, Int.reduceMul, Int.reduceEq, Int.reduceLT, Int.reduceLE, Int.reduceToNat, Nat.reduceMul, Nat.reduceAdd, Nat.reduceSub, List.nil_append, List.cons_append, List.getElem?_toArray, List.getElem?_cons_zero, List.getElem?_cons_succ, List.setIfInBounds_toArray, List.set_cons_zero, List.set_cons_succ, Option.map_some, List.not_mem_nil, ←decide_not, eq_self]
  exact ⟨by trivial, F1⟩
theorem SOf_spec {b t e : Nat} (h : MemIs w base g a c ws) (hb : b ≤ t) (ht : t ≤ e) (he : e ≤ ws.length) : Yld Try.prog n_space_Of #[ptr g, i64 (b : Int), i64 (t : Int), i64 (e : Int)] w fun u w' => Ext [] w w' ∧
    match objs ws b t with
    | some _ => ∃ s, u = .tuple #[ptr s, i64 0] ∧ w.heap.size ≤ s ∧ SpIs w' base s g a c ws b t e
    | none => u = .tuple #[.pointer none, i64 2] := by
  refine space_Of_of ?_
  unfold space_Of
  have hv : decide (mayP b t e ws.length) = true := decide_eq_true (by unfold mayP; omega)
  simp (disch := (first | omega | decide | (simp only [World.size_alloc, World.size_setCell, World.size_drew, size_sets, List.mem_cons, List.not_mem_nil, or_false, not_false_eq_true] <;> omega) | fail)) only [↓rsSpc2_3, rsSpc2_1, Option.isNone_some, Option.isNone_none, tick_eq, tickV_eq, ne_eq, Int.reduceAdd, Int.reduceSub, Int.reduceMul, Int.reduceEq, Int.reduceLT, Int.reduceLE, Int.reduceToNat, Nat.reduceMul, Nat.reduceAdd, Nat.reduceSub, List.nil_append, List.cons_append, List.getElem?_toArray, List.getElem?_cons_zero, List.getElem?_cons_succ, List.setIfInBounds_toArray, List.set_cons_zero, List.set_cons_succ, Option.map_some, List.not_mem_nil, ←decide_not, eq_self]
  refine space_may_call (Gives.to (may_spec b t e h) fun w1 F1 => ?_)
  rw [hv]
  simp (disch := (first | omega | decide | (simp only [World.size_alloc, World.size_setCell, World.size_drew, size_sets, List.mem_cons, List.not_mem_nil, or_false, not_false_eq_true] <;> omega) | fail)) only [↓rsSpc2_3, rsSpc2_1, Option.isNone_some, Option.isNone_none, tick_eq, tickV_eq, ne_eq, Int.reduceAdd, Int.reduceSub, Int.reduceMul, Int.reduceEq, Int.reduceLT, Int.reduceLE, Int.reduceToNat, Nat.reduceMul, Nat.reduceAdd, Nat.reduceSub, List.nil_append, List.cons_append, List.getElem?_toArray, List.getElem?_cons_zero, List.getElem?_cons_succ, List.setIfInBounds_toArray, List.set_cons_zero, List.set_cons_succ, Option.map_some, List.not_mem_nil, ←decide_not, eq_self]
  have z1 := F1.size
  have hg := (h.ext0 F1).lt
  have S : SpIs (w1.alloc (.cells #[ptr g, i64 (b : Int), i64 (t : Int), i64 (e : Int)] 102)) base w1.heap.size g a c ws b t e := ⟨(h.ext0 F1).ext0 (Ext.alloc [] _ _), Blk.at rfl, by omega, fun hw hm => by
    have := (h.ext0 F1).blt hw _ hm
    omega, hb, ht, he⟩
  have X : Ext [] w (w1.alloc (.cells #[ptr g, i64 (b : Int), i64 (t : Int), i64 (e : Int)] 102)) := F1.trans (Ext.alloc _ _ _)
  generalize w1.alloc (.cells #[ptr g, i64 (b : Int), i64 (t : Int), i64 (e : Int)] 102) = y at *
  refine space_Space_Objects_call (Yld.mono (SObjects_spec S) ?_)
  intro u w2 hu
  cases ho : objs ws b t with
  | some l =>
    rw [ho] at hu
    obtain ⟨v, rfl, F2, _⟩ := hu
    simp (disch := (first | omega | decide | (simp only [World.size_alloc, World.size_setCell, World.size_drew, size_sets, List.mem_cons, List.not_mem_nil, or_false, not_false_eq_true] <;> omega) | fail)) only [↓rsSpc2_3, rsSpc2_1, Option.isNone_some, Option.isNone_none, tick_eq, tickV_eq, ne_eq, Int.reduceAdd, Int.reduceSub, Int.reduceMul, Int.reduceEq, Int.reduceLT, Int.reduceLE, Int.reduceToNat, Nat.reduceMul, Nat.reduceAdd, Nat.reduceSub, List.nil_append, List.cons_append, List.getElem?_toArray, List.getElem?_cons_zero, List.getElem?_cons_succ, List.setIfInBounds_toArray, List.set_cons_zero, List.set_cons_succ, Option.map_some, List.not_mem_nil, ←decide_not, eq_self]
    exact ⟨X.trans F2, w1.heap.size, rfl, z1, S.ext0 F2⟩
  | none =>
    rw [ho] at hu
    obtain ⟨rfl, F2⟩ := hu
    simp (disch := (first | omega | decide | (simp only [World.size_alloc, World.size_setCell, World.size_drew, size_sets, List.mem_cons, List.not_mem_nil, or_false, not_false_eq_true] <;> omega) | fail)) only [↓rsSpc2_3, rsSpc2_1, Option.isNone_some, Option.isNone_none, tick_eq, tickV_eq, ne_eq, Int.reduceAdd, Int.reduceSub, Int.reduceMul, Int.reduceEq, Int.reduceLT, Int.reduceLE, Int.reduceToNat, Nat.reduceMul, Nat.reduceAdd, Nat.reduceSub, List.nil_append, List.cons_append, List.getElem?_toArray, List.getElem?_cons_zero, List.getElem?_cons_succ, List.setIfInBounds_toArray, List.set_cons_zero, List.set_cons_succ, Option.map_some, List.not_mem_nil, ←decide_not, eq_self]
    exact ⟨X.trans F2, by trivial⟩
end
end Go.Proofs.Ytdpmidgeipibbaa
