/- Any calls on words, walked (sq). -/
import Derived.Test.YtknineilpenbnaaDoorMem3
import Derived.Test.YtknineilpenbnaaDoorRwB
import Derived.Test.YtknineilpenbnaaDoorRwW
set_option linter.unusedVariables false
set_option linter.unusedSimpArgs false
set_option maxHeartbeats 4000000
namespace Go.Proofs.YtknineilpenbnaaDoor
open Go.Sh Go.RowKit Go.ChangeShapes Go.WideShapes Go.ChangeAt

theorem withB_byte (x : BitVec 64) (b : BitVec 8) {r : Nat} (hr : r < 8) : withB x (8 * (r : Int)) 8 (b.setWidth 64) = (x &&& ~~~(BitVec.ofNat 64 255 <<< (8 * r))) ||| (b.setWidth 64 <<< (8 * r)) := by
  have hm : ∀ r : Fin 8, maskOk (8 * ((r.val : Nat) : Int)) 8 ∧ maskB (8 * ((r.val : Nat) : Int)) 8 = BitVec.ofNat 64 255 <<< (8 * r.val) := by decide +kernel
  obtain ⟨h1, h2⟩ := hm ⟨r, hr⟩
  simp only at h1 h2
  have h3 : (8 * (r : Int)).toNat = 8 * r := by omega
  have h4 : b.setWidth 64 &&& BitVec.ofNat 64 255 = b.setWidth 64 := by
    apply BitVec.eq_of_toNat_eq
    have := b.isLt
    rw [BitVec.toNat_and, BitVec.toNat_setWidth, show (BitVec.ofNat 64 255).toNat = 2 ^ 8 - 1 by decide, Nat.and_two_pow_sub_one_eq_mod]
    omega
  unfold withB
  rw [if_pos h1, h2, h3, ← BitVec.shiftLeft_and_distrib, h4]
abbrev rsMem5_0 := (And.intro @xBox_r (And.intro @loadK_some (And.intro @loadsK_s (And.intro @loadsK_n (And.intro @loadsR_s (And.intro @loadsR_n (And.intro @storesK_s (And.intro @storesK_n (And.intro @xPick_t (And.intro @xPick_f (And.intro @xGuard_tt (And.intro @xGuard_ff (And.intro @xGuard_tf (And.intro @xGuard_ft (And.intro @xGuard_u 
  (And.intro @xNil_r (And.intro @xIf_t (And.intro @xBin_add' (And.intro @xBin_sub' (And.intro @xBin_mul' (And.intro @xBin_quo' (And.intro @xBin_rem' (And.intro @xIf_f (And.intro @xIf_tt (And.intro @xEx0 (And.intro @xEx1 (And.intro @xEx2 (And.intro @xEx3 (And.intro @xBin_eqs (And.intro @xBin_nes (And.intro @xUn_not (And.intro @xu8_add (And.intro @xu8_mul 
  (And.intro @xu8_rem (And.intro @xu8_quo (And.intro @xu8_lss (And.intro @xu16_add (And.intro @xu16_mul (And.intro @xu16_rem (And.intro @xu16_quo (And.intro @xu16_lss (And.intro @xu32_add (And.intro @xu32_mul (And.intro @xu32_rem (And.intro @xu32_quo (And.intro @xu32_lss (And.intro @xu64_add (And.intro @xu64_mul (And.intro @xu64_rem (And.intro @xu64_quo 
  (And.intro @xu64_lss (And.intro @xi64_lss (And.intro @xMakeFunc_r (And.intro @xSq_r (And.intro @xPur_s (And.intro @xRd_s (And.intro @xRe_s (And.intro @xDet_s (And.intro @xDet_ld (And.intro @xDet_ld2 (And.intro @xDet_ld3 (And.intro @xDet_ld4 (And.intro @xGuard_tt (And.intro @ld_5 (And.intro @ld_69 (And.intro @st_69 (And.intro @cv_5_69 (And.intro @ia_22 (And.intro @ia_44 
  (And.intro @ln_22 @bs_44_0))))))))))))))))))))))))))))))))))))))))))))))))))))))))))))))))))))))
abbrev rsMem5_1 := (And.intro @setCells_c (And.intro @setCells_n (And.intro @World.setCell_alloc_at (And.intro @World.setCell_alloc_past (And.intro @World.cell?_alloc_at (And.intro @World.cell?_alloc_past (And.intro @World.frozen?_alloc_at (And.intro @World.frozen?_alloc_past 
  (And.intro @World.size_alloc (And.intro @dlt_t (And.intro @dlt_f (And.intro @dle_t (And.intro @dle_f (And.intro @deq_t (And.intro @deq_f (And.intro @dne_t (And.intro @dne_f (And.intro @not_true_eq_false (And.intro @Bool.false_and (And.intro @Bool.true_and (And.intro @Bool.and_true (And.intro @Bool.and_false (And.intro @wrap_in (And.intro @Int.toNat_natCast 
  (And.intro @Nat.mul_one (And.intro @cells_int (And.intro @cells_bool (And.intro @cells_string (And.intro @cells_slice (And.intro @cells_pointer (And.intro @cells_agg (And.intro @one_int (And.intro @one_bool (And.intro @one_string (And.intro @one_slice (And.intro @one_pointer (And.intro @beq_tt (And.intro @beq_ff (And.intro @beq_tf 
  (And.intro @beq_ft (And.intro @cell_sets_b (And.intro @frozen_sets (And.intro @size_sets (And.intro @World.size_drew (And.intro @Nat.zero_add (And.intro @Nat.add_zero (And.intro @cell_drew (And.intro @frozen_drew (And.intro @cell_set_eq (And.intro @cell_set_o (And.intro @cell_set_b (And.intro @World.frozen?_setCell 
  (And.intro @decide_true (And.intro @decide_false (And.intro @not_false_eq_true (And.intro @Bool.not_true @Bool.not_false))))))))))))))))))))))))))))))))))))))))))))))))))))))))
theorem rSetBytes_spec {w : World} (ws : List (BitVec 64)) (a : Option Addr) (c : Nat) (at' : Nat) (l : List (BitVec 8)) (ab : Option Addr) (cb : Nat) (hr : RowAt w a (wrds ws)) (hn : a = none → c = 0) (hc : ws.length ≤ c) (hl : ws.length ≤ 10000) (hb : RowAt w ab (bys l)) (hi : at' + l.length ≤ 8 * ws.length) :
    Yld Tryd.prog n_loamref14_SetBytes #[.slice a ws.length c, i64 (at' : Int), .slice ab l.length cb] w fun u w' => Ext [] w w' ∧ OwnU w' u (setBytesW ws at' l) ∧ ∀ x ∈ blk u, w.heap.size ≤ x := by
  refine loamref14_SetBytes_of ?_
  unfold loamref14_SetBytes
  simp (disch := (first | omega | decide | (simp only [World.size_alloc, World.size_setCell, World.size_drew, size_sets, List.mem_cons, List.not_mem_nil, or_false, not_false_eq_true] <;> omega) | fail)) only [↓rsMem5_0, rsMem5_1, Option.isNone_some, Option.isNone_none, tick_eq, tickV_eq, ne_eq, Int.reduceAdd, Int.reduceSub, Int.reduceMul, Int.reduceEq, Int.reduceLT, Int.reduceLE, Int.reduceToNat, Nat.reduceMul, Nat.reduceAdd, Nat.reduceSub, List.nil_append, List.cons_append, List.getElem?_toArray, List.getElem?_cons_zero, List.getElem?_cons_succ, List.setIfInBounds_toArray, List.set_cons_zero, List.set_cons_succ, Option.map_some, List.not_mem_nil, ←decide_not, eq_self]
  refine appUn hr hn hc (by omega) fun v1 w1 O1 F1 U1 => ?_
  refine xLoop_n l.length (fun k => [i64 (k : Int)]) (fun k w' => Ext [] w w' ∧ OwnU w' v1 (putBs ws at' l k)) rfl ⟨F1, O1⟩ ?_ ?_
  · rintro k hk u y hu ⟨F, O⟩ nxt hnx
    simp only [List.map_cons, List.map_nil, List.cons.injEq, and_true] at hu
    rw [hu]
    have hlen : (putBs ws at' l k).length = ws.length := putBs_length k
    have hj : (at' + k) / 8 < (putBs ws at' l k).length := by omega
    obtain ⟨b, o, rfl, hbl, hcb⟩ := (hb.ext0 F).at (i := k) (by simpa using hk)
    simp only [List.getElem_map] at hcb
    have t1 : (((at' : Int) + k) / 8).toNat = (at' + k) / 8 := by omega
    have t2 : 8 * (((at' : Int) + k) % 8) = 8 * (((at' + k) % 8 : Nat) : Int) := by omega
    have O' : OwnU y.drew v1 (putBs ws at' l k) := O.ext0 (Ext.drew _ _)
    obtain ⟨g, cap, rfl, c1, f1, -, -, zg⟩ := OwnU.at O' hj (BitVec.ofNat 64 0)
    unfold loamref14_SetBytes_l1
    rw [hlen]
    simp (disch := (first | omega | decide | (simp only [World.size_alloc, World.size_setCell, World.size_drew, size_sets, List.mem_cons, List.not_mem_nil, or_false, not_false_eq_true] <;> omega) | fail)) only [↓rsMem5_0, rsMem5_1, Option.isNone_some, Option.isNone_none, tick_eq, tickV_eq, ne_eq, Int.reduceAdd, Int.reduceSub, Int.reduceMul, Int.reduceEq, Int.reduceLT, Int.reduceLE, Int.reduceToNat, Nat.reduceMul, Nat.reduceAdd, Nat.reduceSub, List.nil_append, List.cons_append, List.getElem?_toArray, List.getElem?_cons_zero, List.getElem?_cons_succ, List.setIfInBounds_toArray, List.set_cons_zero, List.set_cons_succ, Option.map_some, List.not_mem_nil, ←decide_not, hcb, t1, c1, t2]
    have hW := rWith_spec (putBs ws at' l k)[(at' + k) / 8] (l[k].setWidth 64) (8 * (((at' + k) % 8 : Nat) : Int)) 8 y.drew
    rw [withB_byte _ _ (Nat.mod_lt _ (by decide))] at hW
    refine loamref1_With_call (Gives.to hW fun w3 F3 => ?_)
    have F3' := (Ext.drew [] y).trans F3
    obtain ⟨g2, cap2, he, c3, f3, O4, X4, -⟩ := OwnU.at (O.ext0 F3') hj (((putBs ws at' l k)[(at' + k) / 8] &&& ~~~(BitVec.ofNat 64 255 <<< (8 * ((at' + k) % 8)))) ||| (l[k].setWidth 64 <<< (8 * ((at' + k) % 8))))
    simp only [Value.slice.injEq, Option.some.injEq, Addr.mk.injEq, and_true, true_and] at he
    obtain ⟨rfl, rfl⟩ := he
    simp (disch := (first | omega | decide | (simp only [World.size_alloc, World.size_setCell, World.size_drew, size_sets, List.mem_cons, List.not_mem_nil, or_false, not_false_eq_true] <;> omega) | fail)) only [↓rsMem5_0, rsMem5_1, Option.isNone_some, Option.isNone_none, tick_eq, tickV_eq, ne_eq, Int.reduceAdd, Int.reduceSub, Int.reduceMul, Int.reduceEq, Int.reduceLT, Int.reduceLE, Int.reduceToNat, Nat.reduceMul, Nat.reduceAdd, Nat.reduceSub, List.nil_append, List.cons_append, List.getElem?_toArray, List.getElem?_cons_zero, List.getElem?_cons_succ, List.setIfInBounds_toArray, List.set_cons_zero, List.set_cons_succ, Option.map_some, List.not_mem_nil, ←decide_not, hcb, t1, c1, t2, c3, f3]
    have eput : (putBs ws at' l k).set ((at' + k) / 8) (((putBs ws at' l k)[(at' + k) / 8] &&& ~~~(BitVec.ofNat 64 255 <<< (8 * ((at' + k) % 8)))) ||| (l[k].setWidth 64 <<< (8 * ((at' + k) % 8)))) = putBs ws at' l (k + 1) := by
      rw [putBs, putB, List.getD_eq_getElem?_getD, List.getElem?_eq_getElem hj, List.getD_eq_getElem?_getD, List.getElem?_eq_getElem hk]; rfl
    rw [eput] at O4
    refine hnx _ ⟨(F.trans F3').new X4 U1, ?_⟩
    exact O4
  · rintro u y hu ⟨F, O⟩ nxt
    simp only [List.map_cons, List.map_nil, List.cons.injEq, and_true] at hu
    rw [hu]
    obtain ⟨a2, c2, rfl, h2⟩ := O.slice
    unfold loamref14_SetBytes_l1
    simp (disch := (first | omega | decide | (simp only [World.size_alloc, World.size_setCell, World.size_drew, size_sets, List.mem_cons, List.not_mem_nil, or_false, not_false_eq_true] <;> omega) | fail)) only [↓rsMem5_0, rsMem5_1, Option.isNone_some, Option.isNone_none, tick_eq, tickV_eq, ne_eq, Int.reduceAdd, Int.reduceSub, Int.reduceMul, Int.reduceEq, Int.reduceLT, Int.reduceLE, Int.reduceToNat, Nat.reduceMul, Nat.reduceAdd, Nat.reduceSub, List.nil_append, List.cons_append, List.getElem?_toArray, List.getElem?_cons_zero, List.getElem?_cons_succ, List.setIfInBounds_toArray, List.set_cons_zero, List.set_cons_succ, Option.map_some, List.not_mem_nil, ←decide_not, eq_self]
    exact ⟨F, O, U1⟩
abbrev rsMem5_2 := (And.intro @xBox_r (And.intro @loadK_some (And.intro @loadsK_s (And.intro @loadsK_n (And.intro @loadsR_s (And.intro @loadsR_n (And.intro @storesK_s (And.intro @storesK_n (And.intro @xPick_t (And.intro @xPick_f (And.intro @xGuard_tt (And.intro @xGuard_ff (And.intro @xGuard_tf (And.intro @xGuard_ft (And.intro @xGuard_u 
  (And.intro @xNil_r (And.intro @xIf_t (And.intro @xBin_add' (And.intro @xBin_sub' (And.intro @xBin_mul' (And.intro @xBin_quo' (And.intro @xBin_rem' (And.intro @xIf_f (And.intro @xIf_tt (And.intro @xEx0 (And.intro @xEx1 (And.intro @xEx2 (And.intro @xEx3 (And.intro @xBin_eqs (And.intro @xBin_nes (And.intro @xUn_not (And.intro @xu8_mul (And.intro @xu8_rem 
  (And.intro @xu8_quo (And.intro @xu8_shr (And.intro @xu16_mul (And.intro @xu16_rem (And.intro @xu16_quo (And.intro @xu16_shr (And.intro @xu32_mul (And.intro @xu32_rem (And.intro @xu32_quo (And.intro @xu32_shr (And.intro @xu64_mul (And.intro @xu64_rem (And.intro @xu64_quo (And.intro @xu64_shr (And.intro @xi64_shr (And.intro @xMakeFunc_r 
  (And.intro @xSq_r (And.intro @xPur_s (And.intro @xRd_s (And.intro @xRe_s (And.intro @xDet_s (And.intro @xDet_ld (And.intro @xDet_ld2 (And.intro @xDet_ld3 (And.intro @xDet_ld4 (And.intro @xGuard_tt (And.intro @ld_69 (And.intro @cv_3_112 (And.intro @cv_69_5 @ia_44))))))))))))))))))))))))))))))))))))))))))))))))))))))))))))))
theorem rByteAt_spec {w : World} (ws : List (BitVec 64)) (a : Option Addr) (c i : Nat) (hr : RowAt w a (wrds ws)) (hl : ws.length ≤ 10000) (hi : i < 8 * ws.length) : Gives Tryd.prog n_loamref14_byteAt #[.slice a ws.length c, i64 (i : Int)] w (u8 (byteW ws i)) := by
  have hj : i / 8 < ws.length := by omega
  obtain ⟨b, o, rfl, hb, hc⟩ := hr.at (i := i / 8) (by simpa using hj)
  simp only [List.getElem_map] at hc
  have t1 : ((i : Int) / 8).toNat = i / 8 := by omega
  have t2 : (8 * ((i : Int) % 8)).toNat = 8 * (i % 8) := by omega
  have t3 : (BitVec.ofInt 64 (8 * ((i : Int) % 8))).toNat = 8 * (i % 8) := by rw [BitVec.toNat_ofInt]; omega
  have eb : (ws[i / 8] >>> (8 * (i % 8))).setWidth 8 = byteW ws i := by
    unfold byteW
    rw [List.getD_eq_getElem?_getD, List.getElem?_eq_getElem hj]
    rfl
  refine loamref14_byteAt_of ?_
  unfold loamref14_byteAt
  simp (disch := (first | omega | decide | (simp only [World.size_alloc, World.size_setCell, World.size_drew, size_sets, List.mem_cons, List.not_mem_nil, or_false, not_false_eq_true] <;> omega) | fail)) only [↓rsMem5_2, rsMem5_1, Option.isNone_some, Option.isNone_none, tick_eq, tickV_eq, ne_eq, Int.reduceAdd, Int.reduceSub, Int.reduceMul, Int.reduceEq, Int.reduceLT, Int.reduceLE, Int.reduceToNat, Nat.reduceMul, Nat.reduceAdd, Nat.reduceSub, List.nil_append, List.cons_append, List.getElem?_toArray, List.getElem?_cons_zero, List.getElem?_cons_succ, List.setIfInBounds_toArray, List.set_cons_zero, List.set_cons_succ, Option.map_some, List.not_mem_nil, ←decide_not, t1, hc, t2, t3, eb]
  exact ⟨by trivial, by (repeat (first | with_reducible exact Ext.refl _ _ | with_reducible assumption | with_reducible refine Ext.alloc' ?_ _ | with_reducible refine Ext.drew' ?_ | with_reducible refine Ext.set' ?_ ?_ | exact .inr (by first | omega | (simp only [World.size_alloc, World.size_drew, World.size_setCell] <;> omega)) | refine Ext.trans ?_ (by with_reducible assumption)))⟩
abbrev rsMem5_3 := (And.intro @xBox_r (And.intro @loadK_some (And.intro @loadsK_s (And.intro @loadsK_n (And.intro @loadsR_s (And.intro @loadsR_n (And.intro @storesK_s (And.intro @storesK_n (And.intro @xPick_t (And.intro @xPick_f (And.intro @xGuard_tt (And.intro @xGuard_ff (And.intro @xGuard_tf (And.intro @xGuard_ft (And.intro @xGuard_u 
  (And.intro @xNil_r (And.intro @xIf_t (And.intro @xBin_add' (And.intro @xBin_sub' (And.intro @xBin_mul' (And.intro @xBin_quo' (And.intro @xBin_rem' (And.intro @xIf_f (And.intro @xIf_tt (And.intro @xEx0 (And.intro @xEx1 (And.intro @xEx2 (And.intro @xEx3 (And.intro @xBin_eqs (And.intro @xBin_nes (And.intro @xUn_not (And.intro @xu8_add (And.intro @xu8_lss 
  (And.intro @xu16_add (And.intro @xu16_lss (And.intro @xu32_add (And.intro @xu32_lss (And.intro @xu64_add (And.intro @xu64_lss (And.intro @xi64_lss (And.intro @xMakeFunc_r (And.intro @xSq_r (And.intro @xPur_s (And.intro @xRd_s (And.intro @xRe_s (And.intro @xDet_s (And.intro @xDet_ld (And.intro @xDet_ld2 (And.intro @xDet_ld3 (And.intro @xDet_ld4 
  (And.intro @xGuard_tt (And.intro @bs_22_1 @bs_22_2))))))))))))))))))))))))))))))))))))))))))))))))))))
theorem rBytes_spec {w : World} (ws : List (BitVec 64)) (a : Option Addr) (c at' n : Nat) (hr : RowAt w a (wrds ws)) (hl : ws.length ≤ 10000) (hi : at' + n ≤ 8 * ws.length) :
    Yld Tryd.prog n_loamref14_Bytes #[.slice a ws.length c, i64 (at' : Int), i64 (n : Int)] w fun u w' => NewB w w' u (bytesW ws at' n) := by
  refine loamref14_Bytes_of ?_
  unfold loamref14_Bytes
  refine xLoop_r n (fun k vs w' => ∃ u, vs = [u, i64 (k : Int)] ∧ NewB w w' u (bytesW ws at' k)) ⟨_, rfl, NewR.nil (Ext.refl _ _)⟩ ?_ ?_
  · rintro k hk u v1 ⟨v, hu, N⟩ nxt hnx
    simp only [List.map_cons, List.map_nil, List.cons.injEq, and_true] at hu
    rw [hu.1, hu.2]
    unfold loamref14_Bytes_l1
    simp (disch := (first | omega | decide | (simp only [World.size_alloc, World.size_setCell, World.size_drew, size_sets, List.mem_cons, List.not_mem_nil, or_false, not_false_eq_true] <;> omega) | fail)) only [↓rsMem5_3, rsMem5_1, Option.isNone_some, Option.isNone_none, tick_eq, tickV_eq, ne_eq, Int.reduceAdd, Int.reduceSub, Int.reduceMul, Int.reduceEq, Int.reduceLT, Int.reduceLE, Int.reduceToNat, Nat.reduceMul, Nat.reduceAdd, Nat.reduceSub, List.nil_append, List.cons_append, List.getElem?_toArray, List.getElem?_cons_zero, List.getElem?_cons_succ, List.setIfInBounds_toArray, List.set_cons_zero, List.set_cons_succ, Option.map_some, List.not_mem_nil, ←decide_not, eq_self]
    have e1 : (at' : Int) + k = ((at' + k : Nat) : Int) := by omega
    rw [e1]
    have hb := rByteAt_spec ws a c (at' + k) (hr.ext0 N.1) hl (by omega)
    refine loamref14_byteAt_call (Gives.to hb fun w2 F2 => ?_)
    simp (disch := (first | omega | decide | (simp only [World.size_alloc, World.size_setCell, World.size_drew, size_sets, List.mem_cons, List.not_mem_nil, or_false, not_false_eq_true] <;> omega) | fail)) only [↓rsMem5_3, rsMem5_1, Option.isNone_some, Option.isNone_none, tick_eq, tickV_eq, ne_eq, Int.reduceAdd, Int.reduceSub, Int.reduceMul, Int.reduceEq, Int.reduceLT, Int.reduceLE, Int.reduceToNat, Nat.reduceMul, Nat.reduceAdd, Nat.reduceSub, List.nil_append, List.cons_append, List.getElem?_toArray, List.getElem?_cons_zero, List.getElem?_cons_succ, List.setIfInBounds_toArray, List.set_cons_zero, List.set_cons_succ, Option.map_some, List.not_mem_nil, ←decide_not, eq_self]
    have N2 := N.ext F2
    refine appBl N2.2.1 (m := [byteW ws (at' + k)]) rfl rfl (by rw [bytesW_length]; simp; omega) fun v3 w3 O3 F3 => ?_
    simp (disch := (first | omega | decide | (simp only [World.size_alloc, World.size_setCell, World.size_drew, size_sets, List.mem_cons, List.not_mem_nil, or_false, not_false_eq_true] <;> omega) | fail)) only [↓rsMem5_3, rsMem5_1, Option.isNone_some, Option.isNone_none, tick_eq, tickV_eq, ne_eq, Int.reduceAdd, Int.reduceSub, Int.reduceMul, Int.reduceEq, Int.reduceLT, Int.reduceLE, Int.reduceToNat, Nat.reduceMul, Nat.reduceAdd, Nat.reduceSub, List.nil_append, List.cons_append, List.getElem?_toArray, List.getElem?_cons_zero, List.getElem?_cons_succ, List.setIfInBounds_toArray, List.set_cons_zero, List.set_cons_succ, Option.map_some, List.not_mem_nil, ←decide_not, eq_self]
    have e2 : ((k : Int) + 1) = ((k + 1 : Nat) : Int) := by omega
    rw [e2]
    refine hnx _ _ ⟨v3, rfl, ?_⟩
    have e3 : bytesW ws at' k ++ [byteW ws (at' + k)] = bytesW ws at' (k + 1) := by
      unfold bytesW
      rw [List.range_succ, List.map_append]
      rfl
    rw [e3] at O3
    exact N2.app O3 F3
  · rintro u v1 ⟨v, hu, N⟩ nxt
    simp only [List.map_cons, List.map_nil, List.cons.injEq, and_true] at hu
    rw [hu.1, hu.2]
    unfold loamref14_Bytes_l1
    simp (disch := (first | omega | decide | (simp only [World.size_alloc, World.size_setCell, World.size_drew, size_sets, List.mem_cons, List.not_mem_nil, or_false, not_false_eq_true] <;> omega) | fail)) only [↓rsMem5_3, rsMem5_1, Option.isNone_some, Option.isNone_none, tick_eq, tickV_eq, ne_eq, Int.reduceAdd, Int.reduceSub, Int.reduceMul, Int.reduceEq, Int.reduceLT, Int.reduceLE, Int.reduceToNat, Nat.reduceMul, Nat.reduceAdd, Nat.reduceSub, List.nil_append, List.cons_append, List.getElem?_toArray, List.getElem?_cons_zero, List.getElem?_cons_succ, List.setIfInBounds_toArray, List.set_cons_zero, List.set_cons_succ, Option.map_some, List.not_mem_nil, ←decide_not, eq_self]
    exact N
end Go.Proofs.YtknineilpenbnaaDoor
