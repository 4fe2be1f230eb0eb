/- Looking at spaces and images: what the program finds (sq). -/
import Derived.Test.YtdpmidgeipibbaaChk3
set_option linter.unusedVariables false
set_option linter.unusedSimpArgs false
set_option maxHeartbeats 4000000
namespace Go.Proofs.Ytdpmidgeipibbaa
open Go.Sh Go.RowKit

theorem ptrF_congr {x y : Nat → BitVec 64} {l : List Nat} {o : Nat} : ∀ k, (∀ i, i < k → x (o + 1 + i) = y (o + 1 + i)) → ptrF x l o k = ptrF y l o k
  | 0, _ => rfl
  | k + 1, h => by
    rw [ptrF, ptrF, ptrF_congr k (fun i hi => h i (by omega)), h k (by omega)]
theorem flat_congr {α β : Type} {f g : α → List β} : ∀ l : List α, (∀ x ∈ l, f x = g x) → l.flatMap f = l.flatMap g
  | [], _ => rfl
  | x :: l, h => by rw [List.flatMap_cons, List.flatMap_cons, h x (by simp), flat_congr l fun y hy => h y (by simp [hy])]
theorem allF_congr {x y : Nat → BitVec 64} {b t : Nat} {l : List Nat} {bad : Option Nat} (h : Sc x t b l bad) (e : ∀ i, b ≤ i → i < t → x i = y i) : allF x l bad = allF y l bad := by
  unfold allF
  congr 1
  refine flat_congr l ?_
  intro o ho
  obtain ⟨h1, h2, h3⟩ := h.all.2 o ho
  have h4 := szW_ge (y := x o)
  have e0 := e o h1 (by omega)
  have e2 := e (o + szW (x o) - 1) (by omega) (by omega)
  have hp : padX x o ↔ padX y o := by unfold padX; rw [← e0, e2]
  have hpF : padF x o = padF y o := by
    unfold padF
    by_cases h6 : padX x o
    · rw [if_pos h6, if_pos (hp.1 h6), e0]
    · rw [if_neg h6, if_neg (fun h7 => h6 (hp.2 h7))]
  unfold objF
  rw [hpF, ptrF_congr (pN (x o)) (fun i hi => e _ (by omega) (by omega)), e0]
/-- findings, as a row -/
def FndR (w w' : World) (u : Value) (F : List Fnd) : Prop := Ext [] w w' ∧ ∃ a2 c2, u = .slice a2 F.length c2 ∧ F.length ≤ c2 ∧ (a2 = none → c2 = 0) ∧ RowAt w' a2 (F.flatMap fC)
abbrev rsChk4_0 := (And.intro @xBox_r (And.intro @loadK_some (And.intro @loadsK_s (And.intro @loadsK_n (And.intro @loadsR_s (And.intro @loadsR_n (And.intro @storesK_s (And.intro @storesK_n (And.intro @xPick_t (And.intro @xPick_f (And.intro @xGuard_tt (And.intro @xGuard_ff (And.intro @xGuard_tf (And.intro @xGuard_ft (And.intro @xGuard_u 
  (And.intro @xNil_r (And.intro @xIf_t (And.intro @xBin_add' (And.intro @xBin_sub' (And.intro @xBin_mul' (And.intro @xBin_quo' (And.intro @xBin_rem' (And.intro @xIf_f (And.intro @xIf_tt (And.intro @xEx0 (And.intro @xEx1 (And.intro @xEx2 (And.intro @xEx3 (And.intro @xBin_eqs (And.intro @xBin_nes (And.intro @xUn_not (And.intro @xMakeFunc_r (And.intro @xSq_r 
  (And.intro @xPur_s (And.intro @xRd_s (And.intro @xRe_s (And.intro @xDet_s (And.intro @xDet_ld (And.intro @xDet_ld2 (And.intro @xDet_ld3 (And.intro @xDet_ld4 (And.intro @xGuard_tt @ln_37))))))))))))))))))))))))))))))))))))))))))
abbrev rsChk4_1 := (And.intro @setCells_c (And.intro @setCells_n (And.intro @World.setCell_alloc_at (And.intro @World.setCell_alloc_past (And.intro @World.cell?_alloc_at (And.intro @World.cell?_alloc_past (And.intro @World.frozen?_alloc_at (And.intro @World.frozen?_alloc_past 
  (And.intro @World.size_alloc (And.intro @dlt_t (And.intro @dlt_f (And.intro @dle_t (And.intro @dle_f (And.intro @deq_t (And.intro @deq_f (And.intro @dne_t (And.intro @dne_f (And.intro @not_true_eq_false (And.intro @Bool.false_and (And.intro @Bool.true_and (And.intro @Bool.and_true (And.intro @Bool.and_false (And.intro @wrap_in (And.intro @Int.toNat_natCast 
  (And.intro @Nat.mul_one (And.intro @cells_int (And.intro @cells_bool (And.intro @cells_string (And.intro @cells_slice (And.intro @cells_pointer (And.intro @cells_agg (And.intro @one_int (And.intro @one_bool (And.intro @one_string (And.intro @one_slice (And.intro @one_pointer (And.intro @beq_tt (And.intro @beq_ff (And.intro @beq_tf 
  (And.intro @beq_ft (And.intro @cell_sets_b (And.intro @frozen_sets (And.intro @size_sets (And.intro @World.size_drew (And.intro @Nat.zero_add (And.intro @Nat.add_zero (And.intro @cell_drew (And.intro @frozen_drew (And.intro @cell_set_eq (And.intro @cell_set_o (And.intro @cell_set_b (And.intro @World.frozen?_setCell 
  (And.intro @decide_true (And.intro @decide_false (And.intro @not_false_eq_true (And.intro @Bool.not_true @Bool.not_false))))))))))))))))))))))))))))))))))))))))))))))))))))))))
theorem ClipF_spec {w : World} {b : Option Addr} {n m : Nat} (hm : n ≤ m) : Gives Try.prog n_slices_Clip_check_Finding_check_Finding #[.slice b n m] w (.slice b n n) := by
  refine slices_Clip_check_Finding_check_Finding_of ?_
  unfold slices_Clip_check_Finding_check_Finding
  have hs := fun (K : K1) (w : World) => xSlice_hms (P := Try.prog) (w := w) (K := K) (t := 37) (z := 2) (k := .i64) (k' := .i64) (a := b) (n := n) (c := m) (h := (n : Int)) (m := (n : Int)) (by kernel_rfl) (by kernel_rfl) (by omega) (by omega) (by omega)
  simp (disch := (first | omega | decide | (simp only [World.size_alloc, World.size_setCell, World.size_drew, size_sets, List.mem_cons, List.not_mem_nil, or_false, not_false_eq_true] <;> omega) | fail)) only [↓rsChk4_0, rsChk4_1, Option.isNone_some, Option.isNone_none, tick_eq, tickV_eq, ne_eq, Int.reduceAdd, Int.reduceSub, Int.reduceMul, Int.reduceEq, Int.reduceLT, Int.reduceLE, Int.reduceToNat, Nat.reduceMul, Nat.reduceAdd, Nat.reduceSub, List.nil_append, List.cons_append, List.getElem?_toArray, List.getElem?_cons_zero, List.getElem?_cons_succ, List.setIfInBounds_toArray, List.set_cons_zero, List.set_cons_succ, Option.map_some, List.not_mem_nil, ←decide_not, hs]
  exact ⟨by simp, Ext.refl _ _⟩
theorem appU1 {w : World} {K : K1} {v : Value} {l : List (BitVec 64)} {x : BitVec 64} {g : Nat} {cs : List Value} (hO : OwnU w v l) (hcs : cs = [u64 x]) (hl : l.length ≤ 100000)
    (hK : ∀ v' w', OwnU w' v' (l ++ [x]) → Stp (blk v) (blk v') w w' → K v' w') (hg : g = w.heap.size := by first | rfl | (simp only [World.size_alloc, World.size_drew, World.size_setCell] <;> omega)) : xBuiltin Try.prog .append #[28, 28] 28 [false, false] [v, .slice (some ⟨g, 0, none⟩) 1 1] (w.alloc (.cells cs.toArray 69)) K := by
  subst hcs hg
  refine xAppL (bytes := 8) (z := .int .u64 0) (by kernel_rfl) (by kernel_rfl) (by rfl) (by decide) hO (by simp) (by simp [Value.oneCell']) (by omega) (by omega) fun v' w' h1 h2 => hK v' w' ?_ h2
  show Own w' 69 1 v' (l ++ [x]).length (wrds (l ++ [x]))
  rw [List.length_append, wrds, List.map_append]
  exact h1
/-- what look leaves, as findings -/
theorem fnd_of {w0 w : World} {k r : Nat} {v : Value} {a : Option Addr} {c : Nat} {L : List (BitVec 64)} {base : Nat} {l : List Nat} {F : List Fnd} (W : WkIs w0 w k r v a c L base l F) : ∃ a2 c2, v = .slice a2 F.length c2 ∧ F.length ≤ c2 ∧ (a2 = none → c2 = 0) ∧ RowAt w a2 (F.flatMap fC) := by
  obtain ⟨a2, c2, hv, h1, h2, h3, h4, _⟩ := W.own.slice
  exact ⟨a2, c2, hv, h1, h3, h4⟩
section
variable {w : World} {base s g : Nat} {a : Option Addr} {c : Nat} {ws : List (BitVec 64)} {b t e : Nat}
abbrev rsChk4_2 := (And.intro @xBox_r (And.intro @loadK_some (And.intro @loadsK_s (And.intro @loadsK_n (And.intro @loadsR_s (And.intro @loadsR_n (And.intro @storesK_s (And.intro @storesK_n (And.intro @xPick_t (And.intro @xPick_f (And.intro @xGuard_tt (And.intro @xGuard_ff (And.intro @xGuard_tf (And.intro @xGuard_ft (And.intro @xGuard_u 
  (And.intro @xNil_r (And.intro @xIf_t (And.intro @xBin_add' (And.intro @xBin_sub' (And.intro @xBin_mul' (And.intro @xBin_quo' (And.intro @xBin_rem' (And.intro @xIf_f (And.intro @xIf_tt (And.intro @xEx0 (And.intro @xEx1 (And.intro @xEx2 (And.intro @xEx3 (And.intro @xBin_eqs (And.intro @xBin_nes (And.intro @xUn_not (And.intro @xu8_add (And.intro @xu8_lss 
  (And.intro @xu16_add (And.intro @xu16_lss (And.intro @xu32_add (And.intro @xu32_lss (And.intro @xu64_add (And.intro @xu64_lss (And.intro @xi64_lss (And.intro @xMakeFunc_r (And.intro @xSq_r (And.intro @xPur_s (And.intro @xRd_s (And.intro @xRe_s (And.intro @xDet_s (And.intro @xDet_ld (And.intro @xDet_ld2 (And.intro @xDet_ld3 (And.intro @xDet_ld4 
  (And.intro @xGuard_tt (And.intro @ld_3 (And.intro @ld_37 (And.intro @ld_99 (And.intro @fa_96_3 (And.intro @fa_102_0 (And.intro @fa_102_1 (And.intro @fa_102_2 (And.intro @bs_28_0 (And.intro @bs_28_1 (And.intro @bs_28_2 @bs_28_3)))))))))))))))))))))))))))))))))))))))))))))))))))))))))))))
theorem CSpace_spec (S : SpIs w base s g a c ws b t e) : Yld Try.prog n_check_Space #[ptr s] w fun u w' => ∃ l bad, Sc (wat ws) t b l bad ∧ FndR w w' u (allF (wat ws) l bad) := by
  have q1 := S.bt
  have q2 := S.te
  have q3 := S.el
  have q4 := S.mem.len
  refine check_Space_of ?_
  unfold check_Space
  have k0 := fun i => S.blk.cell (i := i)
  have e0 : (b : Int) = ((b + 0 : Nat) : Int) := rfl
  simp (disch := (first | omega | decide | (simp only [World.size_alloc, World.size_setCell, World.size_drew, size_sets, List.mem_cons, List.not_mem_nil, or_false, not_false_eq_true] <;> omega) | fail)) only [↓rsChk4_2, rsChk4_1, Option.isNone_some, Option.isNone_none, tick_eq, tickV_eq, ne_eq, Int.reduceAdd, Int.reduceSub, Int.reduceMul, Int.reduceEq, Int.reduceLT, Int.reduceLE, Int.reduceToNat, Nat.reduceMul, Nat.reduceAdd, Nat.reduceSub, List.nil_append, List.cons_append, List.getElem?_toArray, List.getElem?_cons_zero, List.getElem?_cons_succ, List.setIfInBounds_toArray, List.set_cons_zero, List.set_cons_succ, Option.map_some, List.not_mem_nil, ←decide_not, k0]
  rw [e0]
  refine xLoop_r (t - b) (fun j vs w' => ∃ v, vs = [v, i64 ((b + j : Nat) : Int)] ∧ NewU w w' v ((List.range j).map fun i => wat ws (b + i))) ⟨_, rfl, NewR.nil (Ext.refl _ _)⟩ ?_ ?_
  · rintro j hj u v1 ⟨v, hu, N⟩ nxt hnx
    simp only [List.map_cons, List.map_nil, List.cons.injEq, and_true] at hu
    rw [hu.1, hu.2]
    have S1 := S.ext0 N.1
    have k1 := fun i => S1.blk.cell (i := i)
    have e1 : ((b + j : Nat) : Int) + 1 = ((b + (j + 1) : Nat) : Int) := by omega
    have hsu : (List.range (j + 1)).map (fun i => wat ws (b + i)) = (List.range j).map (fun i => wat ws (b + i)) ++ [wat ws (b + j)] := by rw [List.range_succ, List.map_append]; rfl
    have hg := Get_ok (b + j) S1.mem (by omega)
    have hw : ws.getD (b + j) c0 = wat ws (b + j) := rfl
    rw [hw] at hg
    generalize hq : b + j = q at *
    unfold check_Space_l1
    simp (disch := (first | omega | decide | (simp only [World.size_alloc, World.size_setCell, World.size_drew, size_sets, List.mem_cons, List.not_mem_nil, or_false, not_false_eq_true] <;> omega) | fail)) only [↓rsChk4_2, rsChk4_1, Option.isNone_some, Option.isNone_none, tick_eq, tickV_eq, ne_eq, Int.reduceAdd, Int.reduceSub, Int.reduceMul, Int.reduceEq, Int.reduceLT, Int.reduceLE, Int.reduceToNat, Nat.reduceMul, Nat.reduceAdd, Nat.reduceSub, List.nil_append, List.cons_append, List.getElem?_toArray, List.getElem?_cons_zero, List.getElem?_cons_succ, List.setIfInBounds_toArray, List.set_cons_zero, List.set_cons_succ, Option.map_some, List.not_mem_nil, ←decide_not, k0, k1]
    refine mem_Mem_Get_call (Gives.to hg fun w2 F2 => ?_)
    have N2 := N.ext F2
    simp (disch := (first | omega | decide | (simp only [World.size_alloc, World.size_setCell, World.size_drew, size_sets, List.mem_cons, List.not_mem_nil, or_false, not_false_eq_true] <;> omega) | fail)) only [↓rsChk4_2, rsChk4_1, Option.isNone_some, Option.isNone_none, tick_eq, tickV_eq, ne_eq, Int.reduceAdd, Int.reduceSub, Int.reduceMul, Int.reduceEq, Int.reduceLT, Int.reduceLE, Int.reduceToNat, Nat.reduceMul, Nat.reduceAdd, Nat.reduceSub, List.nil_append, List.cons_append, List.getElem?_toArray, List.getElem?_cons_zero, List.getElem?_cons_succ, List.setIfInBounds_toArray, List.set_cons_zero, List.set_cons_succ, Option.map_some, List.not_mem_nil, ←decide_not, k0, k1]
    refine appU1 N2.2.1 rfl (by simp; omega) fun v' w3 O3 F3 => ?_
    simp (disch := (first | omega | decide | (simp only [World.size_alloc, World.size_setCell, World.size_drew, size_sets, List.mem_cons, List.not_mem_nil, or_false, not_false_eq_true] <;> omega) | fail)) only [↓rsChk4_2, rsChk4_1, Option.isNone_some, Option.isNone_none, tick_eq, tickV_eq, ne_eq, Int.reduceAdd, Int.reduceSub, Int.reduceMul, Int.reduceEq, Int.reduceLT, Int.reduceLE, Int.reduceToNat, Nat.reduceMul, Nat.reduceAdd, Nat.reduceSub, List.nil_append, List.cons_append, List.getElem?_toArray, List.getElem?_cons_zero, List.getElem?_cons_succ, List.setIfInBounds_toArray, List.set_cons_zero, List.set_cons_succ, Option.map_some, List.not_mem_nil, ←decide_not, k0, k1]
    rw [e1]
    refine hnx _ _ ⟨v', rfl, ?_⟩
    rw [hsu]
    exact N2.app O3 F3
  · rintro u v1 ⟨v, hu, N⟩ nxt
    simp only [List.map_cons, List.map_nil, List.cons.injEq, and_true] at hu
    rw [hu.1, hu.2]
    have S1 := S.ext0 N.1
    have k1 := fun i => S1.blk.cell (i := i)
    have hbt : b + (t - b) = t := by omega
    rw [hbt]
    obtain ⟨a2, c2, rfl, hc2, _, hn2, hr2, _⟩ := N.2.1.slice
    have hLl : ((List.range (t - b)).map fun i => wat ws (b + i)).length = t - b := by simp
    have hx : ∀ i, b ≤ i → i < t → wat ((List.range (t - b)).map fun i => wat ws (b + i)) (i - b) = wat ws i := by
      intro i h1 h2
      have h3 : (((List.range (t - b)).map fun i => wat ws (b + i)).getD (i - b) c0) = wat ws (b + (i - b)) := by
        rw [List.getD_eq_getElem?_getD, List.getElem?_map, List.getElem?_range (by omega)]
        rfl
      rw [show b + (i - b) = i by omega] at h3
      exact h3
    unfold check_Space_l1
    simp (disch := (first | omega | decide | (simp only [World.size_alloc, World.size_setCell, World.size_drew, size_sets, List.mem_cons, List.not_mem_nil, or_false, not_false_eq_true] <;> omega) | fail)) only [↓rsChk4_2, rsChk4_1, Option.isNone_some, Option.isNone_none, tick_eq, tickV_eq, ne_eq, Int.reduceAdd, Int.reduceSub, Int.reduceMul, Int.reduceEq, Int.reduceLT, Int.reduceLE, Int.reduceToNat, Nat.reduceMul, Nat.reduceAdd, Nat.reduceSub, List.nil_append, List.cons_append, List.getElem?_toArray, List.getElem?_cons_zero, List.getElem?_cons_succ, List.setIfInBounds_toArray, List.set_cons_zero, List.set_cons_succ, Option.map_some, List.not_mem_nil, ←decide_not, k0, k1]
    generalize ((List.range (t - b)).map fun i => wat ws (b + i)) = L at *
    refine check_look_call (Yld.mono (look_spec v1 L a2 c2 b hr2 (by omega) hc2) ?_)
    rintro u w2 ⟨k, r, v, l, bad, rfl, hS, W⟩
    have htt : b + L.length = t := by omega
    rw [htt] at hS
    have hS2 : Sc (wat ws) t b l bad := hS.congr hx
    rw [allF_congr hS hx] at W
    obtain ⟨a3, c3, rfl, hc3, hn3, hr3⟩ := fnd_of W
    have k2 := fun i => W.blk.cell (i := i)
    simp (disch := (first | omega | decide | (simp only [World.size_alloc, World.size_setCell, World.size_drew, size_sets, List.mem_cons, List.not_mem_nil, or_false, not_false_eq_true] <;> omega) | fail)) only [↓rsChk4_2, rsChk4_1, Option.isNone_some, Option.isNone_none, tick_eq, tickV_eq, ne_eq, Int.reduceAdd, Int.reduceSub, Int.reduceMul, Int.reduceEq, Int.reduceLT, Int.reduceLE, Int.reduceToNat, Nat.reduceMul, Nat.reduceAdd, Nat.reduceSub, List.nil_append, List.cons_append, List.getElem?_toArray, List.getElem?_cons_zero, List.getElem?_cons_succ, List.setIfInBounds_toArray, List.set_cons_zero, List.set_cons_succ, Option.map_some, List.not_mem_nil, ←decide_not, k0, k1, k2]
    refine slices_Clip_check_Finding_check_Finding_call (Gives.to (ClipF_spec hc3) fun w3 F3 => ?_)
    exact ⟨l, bad, hS2, N.1.trans (W.ext.trans F3), a3, _, rfl, Nat.le_refl _, fun h => by have := hn3 h; omega, hr3.ext0 F3⟩
end
end Go.Proofs.Ytdpmidgeipibbaa
