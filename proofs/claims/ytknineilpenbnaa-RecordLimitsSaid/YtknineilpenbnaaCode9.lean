/- The document's bytes of numbers and rows, where words are not (sq). -/
import Derived.Test.YtknineilpenbnaaCodeV
import Derived.Test.YtknineilpenbnaaRwB
set_option linter.unusedVariables false
set_option linter.unusedSimpArgs false
set_option maxHeartbeats 4000000
namespace Go.Proofs.Ytknineilpenbnaa
open Go.Sh Go.RowKit

abbrev rsCode9_0 := (And.intro @xBox_r (And.intro @loadK_some (And.intro @loadsK_s (And.intro @loadsK_n (And.intro @loadsR_s (And.intro @loadsR_n (And.intro @storesK_s (And.intro @storesK_n (And.intro @xPick_t (And.intro @xPick_f (And.intro @xGuard_tt (And.intro @xGuard_ff (And.intro @xGuard_tf (And.intro @xGuard_ft (And.intro @xGuard_u 
  (And.intro @xNil_r (And.intro @xIf_t (And.intro @xBin_add' (And.intro @xBin_sub' (And.intro @xBin_mul' (And.intro @xBin_quo' (And.intro @xBin_rem' (And.intro @xIf_f (And.intro @xIf_tt (And.intro @xEx0 (And.intro @xEx1 (And.intro @xEx2 (And.intro @xEx3 (And.intro @xBin_eqs (And.intro @xBin_nes (And.intro @xUn_not (And.intro @xu8_and (And.intro @xu8_or 
  (And.intro @xu8_shr (And.intro @xu8_geq (And.intro @xu16_and (And.intro @xu16_or (And.intro @xu16_shr (And.intro @xu16_geq (And.intro @xu32_and (And.intro @xu32_or (And.intro @xu32_shr (And.intro @xu32_geq (And.intro @xu64_and (And.intro @xu64_or (And.intro @xu64_shr (And.intro @xu64_geq (And.intro @xi64_geq (And.intro @xi64_and (And.intro @xi64_or 
  (And.intro @xi64_shr (And.intro @xMakeFunc_r (And.intro @xSq_r (And.intro @xPur_s (And.intro @xRd_s (And.intro @xRe_s (And.intro @xDet_s (And.intro @xDet_ld (And.intro @xDet_ld2 (And.intro @xDet_ld3 (And.intro @xDet_ld4 (And.intro @xGuard_tt (And.intro @cv_22_5 (And.intro @bs_25_0 (And.intro @bs_25_1 (And.intro @bs_25_2 @bs_25_4))))))))))))))))))))))))))))))))))))))))))))))))))))))))))))))))))
abbrev rsCode9_1 := (And.intro @setCells_c (And.intro @setCells_n (And.intro @World.setCell_alloc_at (And.intro @World.setCell_alloc_past (And.intro @World.cell?_alloc_at (And.intro @World.cell?_alloc_past (And.intro @World.frozen?_alloc_at (And.intro @World.frozen?_alloc_past 
  (And.intro @World.size_alloc (And.intro @dlt_t (And.intro @dlt_f (And.intro @dle_t (And.intro @dle_f (And.intro @deq_t (And.intro @deq_f (And.intro @dne_t (And.intro @dne_f (And.intro @not_true_eq_false (And.intro @Bool.false_and (And.intro @Bool.true_and (And.intro @Bool.and_true (And.intro @Bool.and_false (And.intro @wrap_in (And.intro @Int.toNat_natCast 
  (And.intro @Nat.mul_one (And.intro @cells_int (And.intro @cells_bool (And.intro @cells_string (And.intro @cells_slice (And.intro @cells_pointer (And.intro @cells_agg (And.intro @one_int (And.intro @one_bool (And.intro @one_string (And.intro @one_slice (And.intro @one_pointer (And.intro @beq_tt (And.intro @beq_ff (And.intro @beq_tf 
  (And.intro @beq_ft (And.intro @cell_sets_b (And.intro @frozen_sets (And.intro @size_sets (And.intro @World.size_drew (And.intro @Nat.zero_add (And.intro @Nat.add_zero (And.intro @cell_drew (And.intro @frozen_drew (And.intro @cell_set_eq (And.intro @cell_set_o (And.intro @cell_set_b (And.intro @World.frozen?_setCell 
  (And.intro @decide_true (And.intro @decide_false (And.intro @not_false_eq_true (And.intro @Bool.not_true @Bool.not_false))))))))))))))))))))))))))))))))))))))))))))))))))))))))
theorem rUint_spec (x : BitVec 64) (w : World) : Yld Try.prog n_loamref5_Uint #[u64 x] w fun u w' => NewB w w' u (uintB x) := by
  refine loamref5_Uint_of ?_
  unfold loamref5_Uint
  have hpos : 0 < (uintB x).length := uintF_pos
  have hle : (uintB x).length ≤ 10 := uintF_le
  refine xLoop_r ((uintB x).length - 1) (fun k vs w' => ∃ y l' v, vs = [u64 y, v] ∧ uintB x = l' ++ uintF (10 - k) y ∧ y.toNat < 2 ^ (7 * (10 - k)) ∧ l'.length = k ∧ NewB w w' v l')
    ⟨x, [], _, rfl, rfl, Nat.lt_of_lt_of_le x.isLt (by decide), rfl, NewR.nil (Ext.refl _ _)⟩ ?_ ?_
  · rintro k hk u w1 ⟨y, l', v, hu, hxe, hy, hl', hN⟩ nxt hnx
    simp only [List.map_cons, List.map_nil, List.cons.injEq, and_true] at hu
    rw [hu.1, hu.2]
    have hlen := congrArg List.length hxe
    rw [List.length_append, hl'] at hlen
    have e10 : 10 - k = (9 - k) + 1 := by omega
    have hge : 128 ≤ y.toNat := by
      rw [e10] at hlen
      exact uintF_more (k := 9 - k) (by omega)
    unfold loamref5_Uint_l1
    have d1 : decide ((BitVec.ofNat 64 128).toNat ≤ y.toNat) = true := decide_eq_true hge
    have e1 : ((y &&& BitVec.ofNat 64 127 ||| BitVec.ofNat 64 128).setWidth 8) = lowB y := by
      rw [lowB, BitVec.setWidth_or]; rfl
    simp (disch := (first | omega | decide | (simp only [World.size_alloc, World.size_setCell, World.size_drew, size_sets, List.mem_cons, List.not_mem_nil, or_false, not_false_eq_true] <;> omega) | fail)) only [↓rsCode9_0, rsCode9_1, Option.isNone_some, Option.isNone_none, tick_eq, tickV_eq, ne_eq, Int.reduceAdd, Int.reduceSub, Int.reduceMul, Int.reduceEq, Int.reduceLT, Int.reduceLE, Int.reduceToNat, Nat.reduceMul, Nat.reduceAdd, Nat.reduceSub, List.nil_append, List.cons_append, List.getElem?_toArray, List.getElem?_cons_zero, List.getElem?_cons_succ, List.setIfInBounds_toArray, List.set_cons_zero, List.set_cons_succ, Option.map_some, List.not_mem_nil, ←decide_not, d1, e1]
    refine appBl (m := [lowB y]) hN.2.1 rfl rfl (by simp; omega) fun v' w' O S => ?_
    simp (disch := (first | omega | decide | (simp only [World.size_alloc, World.size_setCell, World.size_drew, size_sets, List.mem_cons, List.not_mem_nil, or_false, not_false_eq_true] <;> omega) | fail)) only [↓rsCode9_0, rsCode9_1, Option.isNone_some, Option.isNone_none, tick_eq, tickV_eq, ne_eq, Int.reduceAdd, Int.reduceSub, Int.reduceMul, Int.reduceEq, Int.reduceLT, Int.reduceLE, Int.reduceToNat, Nat.reduceMul, Nat.reduceAdd, Nat.reduceSub, List.nil_append, List.cons_append, List.getElem?_toArray, List.getElem?_cons_zero, List.getElem?_cons_succ, List.setIfInBounds_toArray, List.set_cons_zero, List.set_cons_succ, Option.map_some, List.not_mem_nil, ←decide_not, d1, e1]
    refine hnx _ _ ⟨y >>> 7, l' ++ [lowB y], v', rfl, ?_, ?_, by simp [hl'], hN.app O S⟩
    · rw [hxe, e10, show 10 - (k + 1) = 9 - k by omega]
      rw [uintF_succ, if_pos hge]
      simp
    · rw [e10] at hy
      rw [show 10 - (k + 1) = 9 - k by omega]
      exact shr7_lt hy
  · rintro u w1 ⟨y, l', v, hu, hxe, hy, hl', hN⟩ nxt
    simp only [List.map_cons, List.map_nil, List.cons.injEq, and_true] at hu
    rw [hu.1, hu.2]
    have hlen := congrArg List.length hxe
    rw [List.length_append, hl'] at hlen
    generalize hk : (uintB x).length - 1 = k at *
    have e10 : 10 - k = (9 - k) + 1 := by omega
    rw [e10] at hlen hy hxe
    have hlt : y.toNat < 128 := uintF_one hy (by omega)
    unfold loamref5_Uint_l1
    have d1 : decide ((BitVec.ofNat 64 128).toNat ≤ y.toNat) = false := decide_eq_false (by show ¬ 128 ≤ _; omega)
    simp (disch := (first | omega | decide | (simp only [World.size_alloc, World.size_setCell, World.size_drew, size_sets, List.mem_cons, List.not_mem_nil, or_false, not_false_eq_true] <;> omega) | fail)) only [↓rsCode9_0, rsCode9_1, Option.isNone_some, Option.isNone_none, tick_eq, tickV_eq, ne_eq, Int.reduceAdd, Int.reduceSub, Int.reduceMul, Int.reduceEq, Int.reduceLT, Int.reduceLE, Int.reduceToNat, Nat.reduceMul, Nat.reduceAdd, Nat.reduceSub, List.nil_append, List.cons_append, List.getElem?_toArray, List.getElem?_cons_zero, List.getElem?_cons_succ, List.setIfInBounds_toArray, List.set_cons_zero, List.set_cons_succ, Option.map_some, List.not_mem_nil, ←decide_not, d1]
    refine appBl (m := [y.setWidth 8]) hN.2.1 rfl rfl (by simp; omega) fun v' w' O S => ?_
    have e : uintB x = l' ++ [y.setWidth 8] := by
      rw [hxe, uintF_succ, if_neg (by omega)]
    rw [e]
    exact hN.app O S
abbrev rsCode9_2 := (And.intro @xBox_r (And.intro @loadK_some (And.intro @loadsK_s (And.intro @loadsK_n (And.intro @loadsR_s (And.intro @loadsR_n (And.intro @storesK_s (And.intro @storesK_n (And.intro @xPick_t (And.intro @xPick_f (And.intro @xGuard_tt (And.intro @xGuard_ff (And.intro @xGuard_tf (And.intro @xGuard_ft (And.intro @xGuard_u 
  (And.intro @xNil_r (And.intro @xIf_t (And.intro @xBin_add' (And.intro @xBin_sub' (And.intro @xBin_mul' (And.intro @xBin_quo' (And.intro @xBin_rem' (And.intro @xIf_f (And.intro @xIf_tt (And.intro @xEx0 (And.intro @xEx1 (And.intro @xEx2 (And.intro @xEx3 (And.intro @xBin_eqs (And.intro @xBin_nes (And.intro @xUn_not (And.intro @xMakeFunc_r (And.intro @xSq_r 
  (And.intro @xPur_s (And.intro @xRd_s (And.intro @xRe_s (And.intro @xDet_s (And.intro @xDet_ld (And.intro @xDet_ld2 (And.intro @xDet_ld3 (And.intro @xDet_ld4 (And.intro @xGuard_tt (And.intro @cv_3_22 @ln_25)))))))))))))))))))))))))))))))))))))))))))
theorem rRaw_spec (m : List (BitVec 8)) (a : Option Addr) (c : Nat) (w : World) (hm : RowAt w a (bys m)) (hl : m.length ≤ 1000000) (hnil : a = none → c = 0) (hc : m.length ≤ c) :
    Yld Try.prog n_loamref5_Raw #[.slice a m.length c] w fun u w' => NewB w w' u (uintB (BitVec.ofNat 64 m.length) ++ m) := by
  refine loamref5_Raw_of ?_
  unfold loamref5_Raw
  have e1 : BitVec.ofInt 64 (m.length : Int) = BitVec.ofNat 64 m.length := BitVec.ofInt_natCast ..
  simp (disch := (first | omega | decide | (simp only [World.size_alloc, World.size_setCell, World.size_drew, size_sets, List.mem_cons, List.not_mem_nil, or_false, not_false_eq_true] <;> omega) | fail)) only [↓rsCode9_2, rsCode9_1, Option.isNone_some, Option.isNone_none, tick_eq, tickV_eq, ne_eq, Int.reduceAdd, Int.reduceSub, Int.reduceMul, Int.reduceEq, Int.reduceLT, Int.reduceLE, Int.reduceToNat, Nat.reduceMul, Nat.reduceAdd, Nat.reduceSub, List.nil_append, List.cons_append, List.getElem?_toArray, List.getElem?_cons_zero, List.getElem?_cons_succ, List.setIfInBounds_toArray, List.set_cons_zero, List.set_cons_succ, Option.map_some, List.not_mem_nil, ←decide_not, e1]
  refine loamref5_Uint_call (Yld.mono (rUint_spec _ w) ?_)
  rintro u w1 hN
  have hle : (uintB (BitVec.ofNat 64 m.length)).length ≤ 10 := uintF_le
  simp (disch := (first | omega | decide | (simp only [World.size_alloc, World.size_setCell, World.size_drew, size_sets, List.mem_cons, List.not_mem_nil, or_false, not_false_eq_true] <;> omega) | fail)) only [↓rsCode9_2, rsCode9_1, Option.isNone_some, Option.isNone_none, tick_eq, tickV_eq, ne_eq, Int.reduceAdd, Int.reduceSub, Int.reduceMul, Int.reduceEq, Int.reduceLT, Int.reduceLE, Int.reduceToNat, Nat.reduceMul, Nat.reduceAdd, Nat.reduceSub, List.nil_append, List.cons_append, List.getElem?_toArray, List.getElem?_cons_zero, List.getElem?_cons_succ, List.setIfInBounds_toArray, List.set_cons_zero, List.set_cons_succ, Option.map_some, List.not_mem_nil, ←decide_not, e1]
  refine appB hN.2.1 rfl (hm.ext0 hN.1) hnil hc (by omega) fun v' w' O S => ?_
  exact hN.app O S
end Go.Proofs.Ytknineilpenbnaa
