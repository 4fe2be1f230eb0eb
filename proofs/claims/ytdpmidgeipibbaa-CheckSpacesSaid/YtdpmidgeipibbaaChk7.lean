/- The statement on looking at spaces, walked (sq). -/
import Derived.Test.YtdpmidgeipibbaaChk6
import Derived.Test.YtdpmidgeipibbaaObjI
set_option linter.unusedVariables false
set_option linter.unusedSimpArgs false
set_option maxHeartbeats 4000000
namespace Go.Proofs.Ytdpmidgeipibbaa
open Go.Sh Go.RowKit Go.ChangeShapes Go.WideShapes Go.ChangeAt

def imgF (l : List (BitVec 64)) (os : List Nat) (bad : Option Nat) : List Fnd := magF l ++ if sizeOk l then allF (wat l) os bad else [(1, sSize)]
abbrev rsChk7_0 := (And.intro @xBox_r (And.intro @loadK_some (And.intro @loadsK_s (And.intro @loadsK_n (And.intro @loadsR_s (And.intro @loadsR_n (And.intro @storesK_s (And.intro @storesK_n (And.intro @xPick_t (And.intro @xPick_f (And.intro @xGuard_tt (And.intro @xGuard_ff (And.intro @xGuard_tf (And.intro @xGuard_ft (And.intro @xGuard_u 
  (And.intro @xNil_r (And.intro @xIf_t (And.intro @xBin_add' (And.intro @xBin_sub' (And.intro @xBin_mul' (And.intro @xBin_quo' (And.intro @xBin_rem' (And.intro @xIf_f (And.intro @xIf_tt (And.intro @xEx0 (And.intro @xEx1 (And.intro @xEx2 (And.intro @xEx3 (And.intro @xBin_eqs (And.intro @xBin_nes (And.intro @xUn_not (And.intro @xu8_eql (And.intro @xu16_eql 
  (And.intro @xu32_eql (And.intro @xu64_eql (And.intro @xi64_eql (And.intro @xMakeFunc_r (And.intro @xSq_r (And.intro @xPur_s (And.intro @xRd_s (And.intro @xRe_s (And.intro @xDet_s (And.intro @xDet_ld (And.intro @xDet_ld2 (And.intro @xDet_ld3 (And.intro @xDet_ld4 (And.intro @xGuard_tt @ln_37)))))))))))))))))))))))))))))))))))))))))))))))
abbrev rsChk7_1 := (And.intro @setCells_c (And.intro @setCells_n (And.intro @World.setCell_alloc_at (And.intro @World.setCell_alloc_past (And.intro @World.cell?_alloc_at (And.intro @World.cell?_alloc_past (And.intro @World.frozen?_alloc_at (And.intro @World.frozen?_alloc_past 
  (And.intro @World.size_alloc (And.intro @dlt_t (And.intro @dlt_f (And.intro @dle_t (And.intro @dle_f (And.intro @deq_t (And.intro @deq_f (And.intro @dne_t (And.intro @dne_f (And.intro @not_true_eq_false (And.intro @Bool.false_and (And.intro @Bool.true_and (And.intro @Bool.and_true (And.intro @Bool.and_false (And.intro @wrap_in (And.intro @Int.toNat_natCast 
  (And.intro @Nat.mul_one (And.intro @cells_int (And.intro @cells_bool (And.intro @cells_string (And.intro @cells_slice (And.intro @cells_pointer (And.intro @cells_agg (And.intro @one_int (And.intro @one_bool (And.intro @one_string (And.intro @one_slice (And.intro @one_pointer (And.intro @beq_tt (And.intro @beq_ff (And.intro @beq_tf 
  (And.intro @beq_ft (And.intro @cell_sets_b (And.intro @frozen_sets (And.intro @size_sets (And.intro @World.size_drew (And.intro @Nat.zero_add (And.intro @Nat.add_zero (And.intro @cell_drew (And.intro @frozen_drew (And.intro @cell_set_eq (And.intro @cell_set_o (And.intro @cell_set_b (And.intro @World.frozen?_setCell 
  (And.intro @decide_true (And.intro @decide_false (And.intro @not_false_eq_true (And.intro @Bool.not_true @Bool.not_false))))))))))))))))))))))))))))))))))))))))))))))))))))))))
theorem CRight_n0 (l : List (BitVec 64)) (a : Option Addr) (c : Nat) (w : World) (h : RowAt w a (wrds l)) (hc : l.length ≤ c) (hl : l.length ≤ 8192) (hn : sizeOk l → nR l = 0) :
    Yld Try.prog n_check_Right #[.slice a l.length c] w fun u w' => ∃ os bad, (sizeOk l → Sc (wat l) l.length 2 os bad) ∧ u = .bool (decide ((imgF l os bad).length = 0)) ∧ Ext [] w w' := by
  refine check_Right_of ?_
  unfold check_Right
  refine check_Image_call (Yld.mono (Image_n0 l a c w h hc hl hn) ?_)
  rintro u w1 ⟨os, bad, hS, F1, a2, c2, rfl, _, _, R1⟩
  have hf : magF l ++ (if sizeOk l then allF (wat l) os bad else [(1, sSize)]) = imgF l os bad := rfl
  rw [hf]
  have e : decide (((imgF l os bad).length : Int) = 0) = decide ((imgF l os bad).length = 0) := by
    rw [decide_eq_decide]
    omega
  simp (disch := (first | omega | decide | (simp only [World.size_alloc, World.size_setCell, World.size_drew, size_sets, List.mem_cons, List.not_mem_nil, or_false, not_false_eq_true] <;> omega) | fail)) only [↓rsChk7_0, rsChk7_1, Option.isNone_some, Option.isNone_none, tick_eq, tickV_eq, ne_eq, Int.reduceAdd, Int.reduceSub, Int.reduceMul, Int.reduceEq, Int.reduceLT, Int.reduceLE, Int.reduceToNat, Nat.reduceMul, Nat.reduceAdd, Nat.reduceSub, List.nil_append, List.cons_append, List.getElem?_toArray, List.getElem?_cons_zero, List.getElem?_cons_succ, List.setIfInBounds_toArray, List.set_cons_zero, List.set_cons_succ, Option.map_some, List.not_mem_nil, ←decide_not, e]
  exact ⟨os, bad, hS, by trivial, F1⟩
def LA : List (BitVec 64) := [BitVec.ofNat 64 1296125772, BitVec.ofNat 64 196608, BitVec.ofNat 64 9223372036854775808]
def LB : List (BitVec 64) := [BitVec.ofNat 64 1296125772, BitVec.ofNat 64 196608, BitVec.ofNat 64 5]
theorem imgA (os : List Nat) (bad : Option Nat) (h : sizeOk LA → Sc (wat LA) LA.length 2 os bad) : imgF LA os bad = [] := by
  have hs : sizeOk LA := by decide +kernel
  have e : 2 + szW (wat LA 2) = LA.length := by decide +kernel
  obtain ⟨rfl, rfl⟩ := (h hs).uniq (.step (by decide +kernel) (by decide +kernel) (by rw [e]; exact .done))
  decide +kernel
theorem imgB (os : List Nat) (bad : Option Nat) (h : sizeOk LB → Sc (wat LB) LB.length 2 os bad) : imgF LB os bad = [(2, sHead)] := by
  have hs : sizeOk LB := by decide +kernel
  obtain ⟨rfl, rfl⟩ := (h hs).uniq (.bad (by decide +kernel) (by decide +kernel))
  decide +kernel
theorem imgN (os : List Nat) (bad : Option Nat) : imgF [] os bad = [(0, sMagic), (1, sSize)] := by
  unfold imgF
  rw [if_neg (by decide +kernel)]
  decide +kernel
theorem rowW (w : World) (l : List (BitVec 64)) : RowAt (w.alloc (.cells (wrds l).toArray 69)) (some ⟨w.heap.size, 0, none⟩) (wrds l) := (Blk.new (e := 69) w (wrds l)).row
abbrev rsChk7_2 := (And.intro @xBox_r (And.intro @loadK_some (And.intro @loadsK_s (And.intro @loadsK_n (And.intro @loadsR_s (And.intro @loadsR_n (And.intro @storesK_s (And.intro @storesK_n (And.intro @xPick_t (And.intro @xPick_f (And.intro @xGuard_tt (And.intro @xGuard_ff (And.intro @xGuard_tf (And.intro @xGuard_ft (And.intro @xGuard_u 
  (And.intro @xNil_r (And.intro @xIf_t (And.intro @xBin_add' (And.intro @xBin_sub' (And.intro @xBin_mul' (And.intro @xBin_quo' (And.intro @xBin_rem' (And.intro @xIf_f (And.intro @xIf_tt (And.intro @xEx0 (And.intro @xEx1 (And.intro @xEx2 (And.intro @xEx3 (And.intro @xBin_eqs (And.intro @xBin_nes (And.intro @xUn_not (And.intro @xu8_com (And.intro @xu8_eql 
  (And.intro @xu16_com (And.intro @xu16_eql (And.intro @xu32_com (And.intro @xu32_eql (And.intro @xu64_com (And.intro @xu64_eql (And.intro @xi64_eql (And.intro @xMakeFunc_r (And.intro @xSq_r (And.intro @xPur_s (And.intro @xRd_s (And.intro @xRe_s (And.intro @xDet_s (And.intro @xDet_ld (And.intro @xDet_ld2 (And.intro @xDet_ld3 (And.intro @xDet_ld4 
  (And.intro @xGuard_tt (And.intro @ld_3 (And.intro @ld_9 (And.intro @fa_40_0 (And.intro @fa_40_1 (And.intro @ia_37 (And.intro @ln_37 (And.intro @bs_28_0 (And.intro @bs_28_1 (And.intro @bs_28_2 @bs_28_3))))))))))))))))))))))))))))))))))))))))))))))))))))))))))))
theorem known26_spec (w : World) : Gives Try.prog n_loamlaw26_known #[] w (.bool true) := by
  refine loamlaw26_known_of ?_
  unfold loamlaw26_known
  simp (disch := (first | omega | decide | (simp only [World.size_alloc, World.size_setCell, World.size_drew, size_sets, List.mem_cons, List.not_mem_nil, or_false, not_false_eq_true] <;> omega) | fail)) only [↓rsChk7_2, rsChk7_1, Option.isNone_some, Option.isNone_none, tick_eq, tickV_eq, ne_eq, Int.reduceAdd, Int.reduceSub, Int.reduceMul, Int.reduceEq, Int.reduceLT, Int.reduceLE, Int.reduceToNat, Nat.reduceMul, Nat.reduceAdd, Nat.reduceSub, List.nil_append, List.cons_append, List.getElem?_toArray, List.getElem?_cons_zero, List.getElem?_cons_succ, List.setIfInBounds_toArray, List.set_cons_zero, List.set_cons_succ, Option.map_some, List.not_mem_nil, ←decide_not, eq_self]
  have RA : RowAt (w.alloc (.cells #[c64 1296125772, c64 196608, c64 9223372036854775808] 69)) (some ⟨w.heap.size, 0, none⟩) (wrds LA) := rowW w LA
  have XA : Ext [] w (w.alloc (.cells #[c64 1296125772, c64 196608, c64 9223372036854775808] 69)) := Ext.alloc _ _ _
  have RB := rowW (w.alloc (.cells #[c64 1296125772, c64 196608, c64 9223372036854775808] 69)) LB
  rw [World.size_alloc] at RB
  have RB' : RowAt ((w.alloc (.cells #[c64 1296125772, c64 196608, c64 9223372036854775808] 69)).alloc (.cells #[c64 1296125772, c64 196608, c64 5] 69)) (some ⟨w.heap.size + 1, 0, none⟩) (wrds LB) := RB
  have XB : Ext [] (w.alloc (.cells #[c64 1296125772, c64 196608, c64 9223372036854775808] 69)) ((w.alloc (.cells #[c64 1296125772, c64 196608, c64 9223372036854775808] 69)).alloc (.cells #[c64 1296125772, c64 196608, c64 5] 69)) := Ext.alloc _ _ _
  have RA2 := RA.ext0 XB
  have X2 := XA.trans XB
  generalize (w.alloc (.cells #[c64 1296125772, c64 196608, c64 9223372036854775808] 69)).alloc (.cells #[c64 1296125772, c64 196608, c64 5] 69) = y at *
  generalize w.heap.size + 1 = B at *
  generalize w.heap.size = A at *
  have cH : strOf sHead = { data := #[104, 101, 97, 100] } := by decide +kernel
  have cM : strOf sMagic = { data := #[109, 97, 103, 105, 99] } := by decide +kernel
  have cS : strOf sSize = { data := #[115, 105, 122, 101] } := by decide +kernel
  refine check_Image_call (Yld.mono (Image_n0 LB (some ⟨B, 0, none⟩) 3 y RB' (by decide) (by decide) (fun _ => by decide +kernel)) ?_)
  rintro u w3 ⟨os, bad, hS, F3, a5, c5, rfl, hc5, hn5, R5⟩
  have e5 : (magF LB ++ if sizeOk LB then allF (wat LB) os bad else [(1, sSize)]) = [(2, sHead)] := imgB os bad hS
  rw [e5] at R5 hc5 ⊢
  simp (disch := (first | omega | decide | (simp only [World.size_alloc, World.size_setCell, World.size_drew, size_sets, List.mem_cons, List.not_mem_nil, or_false, not_false_eq_true] <;> omega) | fail)) only [↓rsChk7_2, rsChk7_1, Option.isNone_some, Option.isNone_none, tick_eq, tickV_eq, ne_eq, Int.reduceAdd, Int.reduceSub, Int.reduceMul, Int.reduceEq, Int.reduceLT, Int.reduceLE, Int.reduceToNat, Nat.reduceMul, Nat.reduceAdd, Nat.reduceSub, List.nil_append, List.cons_append, List.getElem?_toArray, List.getElem?_cons_zero, List.getElem?_cons_succ, List.setIfInBounds_toArray, List.set_cons_zero, List.set_cons_succ, Option.map_some, List.not_mem_nil, ←decide_not, eq_self]
  refine check_Image_call (Yld.mono (Image_n0 [] none 0 w3 RowAt.nil (by decide) (by decide) (fun h => absurd h (by decide +kernel))) ?_)
  rintro u w4 ⟨os2, bad2, _, F4, a7, c7, rfl, hc7, hn7, R7⟩
  have e7 : (magF [] ++ if sizeOk [] then allF (wat []) os2 bad2 else [(1, sSize)]) = [(0, sMagic), (1, sSize)] := imgN os2 bad2
  rw [e7] at R7 hc7 ⊢
  simp (disch := (first | omega | decide | (simp only [World.size_alloc, World.size_setCell, World.size_drew, size_sets, List.mem_cons, List.not_mem_nil, or_false, not_false_eq_true] <;> omega) | fail)) only [↓rsChk7_2, rsChk7_1, Option.isNone_some, Option.isNone_none, tick_eq, tickV_eq, ne_eq, Int.reduceAdd, Int.reduceSub, Int.reduceMul, Int.reduceEq, Int.reduceLT, Int.reduceLE, Int.reduceToNat, Nat.reduceMul, Nat.reduceAdd, Nat.reduceSub, List.nil_append, List.cons_append, List.getElem?_toArray, List.getElem?_cons_zero, List.getElem?_cons_succ, List.setIfInBounds_toArray, List.set_cons_zero, List.set_cons_succ, Option.map_some, List.not_mem_nil, ←decide_not, eq_self]
  refine check_Right_call (Yld.mono (CRight_n0 LA (some ⟨A, 0, none⟩) 3 w4 ((RA2.ext0 F3).ext0 F4) (by decide) (by decide) (fun _ => by decide +kernel)) ?_)
  rintro u w5 ⟨os3, bad3, hS3, rfl, F5⟩
  have e8 : decide ((imgF LA os3 bad3).length = 0) = true := by rw [imgA os3 bad3 hS3]; rfl
  rw [e8]
  simp (disch := (first | omega | decide | (simp only [World.size_alloc, World.size_setCell, World.size_drew, size_sets, List.mem_cons, List.not_mem_nil, or_false, not_false_eq_true] <;> omega) | fail)) only [↓rsChk7_2, rsChk7_1, Option.isNone_some, Option.isNone_none, tick_eq, tickV_eq, ne_eq, Int.reduceAdd, Int.reduceSub, Int.reduceMul, Int.reduceEq, Int.reduceLT, Int.reduceLE, Int.reduceToNat, Nat.reduceMul, Nat.reduceAdd, Nat.reduceSub, List.nil_append, List.cons_append, List.getElem?_toArray, List.getElem?_cons_zero, List.getElem?_cons_succ, List.setIfInBounds_toArray, List.set_cons_zero, List.set_cons_succ, Option.map_some, List.not_mem_nil, ←decide_not, eq_self]
  refine check_Image_call (Yld.mono (Image_n0 LA (some ⟨A, 0, none⟩) 3 w5 (((RA2.ext0 F3).ext0 F4).ext0 F5) (by decide) (by decide) (fun _ => by decide +kernel)) ?_)
  rintro u w6 ⟨os4, bad4, hS4, F6, a9, c9, rfl, hc9, hn9, R9⟩
  have e9 : (magF LA ++ if sizeOk LA then allF (wat LA) os4 bad4 else [(1, sSize)]) = [] := imgA os4 bad4 hS4
  rw [e9]
  obtain ⟨b1, o1, rfl, z1, k1, k2⟩ := fnd_at (R5.ext0 (F4.trans (F5.trans F6))) (k := 0) (by simp)
  obtain ⟨b2, o2, rfl, z2, _, k3⟩ := fnd_at (R7.ext0 (F5.trans F6)) (k := 0) (by simp)
  obtain ⟨b3, o3, hb3, z3, _, k4⟩ := fnd_at (R7.ext0 (F5.trans F6)) (k := 1) (by simp)
  simp only [Option.some.injEq, Addr.mk.injEq, and_true] at hb3
  obtain ⟨rfl, rfl⟩ := hb3
  have k1' : w6.cell? ⟨b1, o1, none⟩ = some (i64 2) := k1
  have k2' : w6.cell? ⟨b1, o1 + 1, none⟩ = some (.string (strOf sHead)) := k2
  have k3' : w6.cell? ⟨b2, o2 + 1, none⟩ = some (.string (strOf sMagic)) := k3
  have k4' : w6.cell? ⟨b2, o2 + 2 + 1, none⟩ = some (.string (strOf sSize)) := k4
  rw [cH] at k2'
  rw [cM] at k3'
  rw [cS] at k4'
  simp (disch := (first | omega | decide | (simp only [World.size_alloc, World.size_setCell, World.size_drew, size_sets, List.mem_cons, List.not_mem_nil, or_false, not_false_eq_true] <;> omega) | fail)) only [↓rsChk7_2, rsChk7_1, Option.isNone_some, Option.isNone_none, tick_eq, tickV_eq, ne_eq, Int.reduceAdd, Int.reduceSub, Int.reduceMul, Int.reduceEq, Int.reduceLT, Int.reduceLE, Int.reduceToNat, Nat.reduceMul, Nat.reduceAdd, Nat.reduceSub, List.nil_append, List.cons_append, List.getElem?_toArray, List.getElem?_cons_zero, List.getElem?_cons_succ, List.setIfInBounds_toArray, List.set_cons_zero, List.set_cons_succ, Option.map_some, List.not_mem_nil, ←decide_not, k1', k2', k3', k4']
  refine check_Right_call (Yld.mono (CRight_n0 [] none 0 w6 RowAt.nil (by decide) (by decide) (fun h => absurd h (by decide +kernel))) ?_)
  rintro u w7 ⟨os5, bad5, _, rfl, F7⟩
  have e10 : decide ((imgF [] os5 bad5).length = 0) = false := by rw [imgN]; rfl
  rw [e10]
  simp (disch := (first | omega | decide | (simp only [World.size_alloc, World.size_setCell, World.size_drew, size_sets, List.mem_cons, List.not_mem_nil, or_false, not_false_eq_true] <;> omega) | fail)) only [↓rsChk7_2, rsChk7_1, Option.isNone_some, Option.isNone_none, tick_eq, tickV_eq, ne_eq, Int.reduceAdd, Int.reduceSub, Int.reduceMul, Int.reduceEq, Int.reduceLT, Int.reduceLE, Int.reduceToNat, Nat.reduceMul, Nat.reduceAdd, Nat.reduceSub, List.nil_append, List.cons_append, List.getElem?_toArray, List.getElem?_cons_zero, List.getElem?_cons_succ, List.setIfInBounds_toArray, List.set_cons_zero, List.set_cons_succ, Option.map_some, List.not_mem_nil, ←decide_not, k1', k2', k3', k4']
  exact ⟨by trivial, X2.trans (F3.trans (F4.trans (F5.trans (F6.trans F7))))⟩
abbrev rsChk7_3 := (And.intro @xBox_r (And.intro @loadK_some (And.intro @loadsK_s (And.intro @loadsK_n (And.intro @loadsR_s (And.intro @loadsR_n (And.intro @storesK_s (And.intro @storesK_n (And.intro @xPick_t (And.intro @xPick_f (And.intro @xGuard_tt (And.intro @xGuard_ff (And.intro @xGuard_tf (And.intro @xGuard_ft (And.intro @xGuard_u 
  (And.intro @xNil_r (And.intro @xIf_t (And.intro @xBin_add' (And.intro @xBin_sub' (And.intro @xBin_mul' (And.intro @xBin_quo' (And.intro @xBin_rem' (And.intro @xIf_f (And.intro @xIf_tt (And.intro @xEx0 (And.intro @xEx1 (And.intro @xEx2 (And.intro @xEx3 (And.intro @xBin_eqs (And.intro @xBin_nes (And.intro @xUn_not (And.intro @xu8_com (And.intro @xu8_eql 
  (And.intro @xu8_gtr (And.intro @xu16_com (And.intro @xu16_eql (And.intro @xu16_gtr (And.intro @xu32_com (And.intro @xu32_eql (And.intro @xu32_gtr (And.intro @xu64_com (And.intro @xu64_eql (And.intro @xu64_gtr (And.intro @xi64_gtr (And.intro @xi64_eql (And.intro @xMakeFunc_r (And.intro @xSq_r (And.intro @xPur_s (And.intro @xRd_s (And.intro @xRe_s 
  (And.intro @xDet_s (And.intro @xDet_ld (And.intro @xDet_ld2 (And.intro @xDet_ld3 (And.intro @xDet_ld4 (And.intro @xGuard_tt (And.intro @bd_46_0_1_2_3 (And.intro @eb_4 (And.intro @ln_28 (And.intro @ln_37 @nq_42))))))))))))))))))))))))))))))))))))))))))))))))))))))))))))
theorem CheckSpaces_spec (l : List (BitVec 64)) (a : Option Addr) (n c : Nat) (b t : Int) (w : World) (ha : WordsArg w l a n c) : Gives Try.prog n_loamlaw26_CheckSpaces #[.slice a n c, i64 b, i64 t] w (.bool true) := by
  have hn := ha.len
  subst hn
  refine loamlaw26_CheckSpaces_of ?_
  unfold loamlaw26_CheckSpaces
  refine loamlaw26_known_call (Gives.to (known26_spec w) fun w1 F1 => ?_)
  simp (disch := (first | omega | decide | (simp only [World.size_alloc, World.size_setCell, World.size_drew, size_sets, List.mem_cons, List.not_mem_nil, or_false, not_false_eq_true] <;> omega) | fail)) only [↓rsChk7_3, rsChk7_1, Option.isNone_some, Option.isNone_none, tick_eq, tickV_eq, ne_eq, Int.reduceAdd, Int.reduceSub, Int.reduceMul, Int.reduceEq, Int.reduceLT, Int.reduceLE, Int.reduceToNat, Nat.reduceMul, Nat.reduceAdd, Nat.reduceSub, List.nil_append, List.cons_append, List.getElem?_toArray, List.getElem?_cons_zero, List.getElem?_cons_succ, List.setIfInBounds_toArray, List.set_cons_zero, List.set_cons_succ, Option.map_some, List.not_mem_nil, ←decide_not, eq_self]
  by_cases hl : 300 < l.length
  · simp (disch := (first | omega | decide | (simp only [World.size_alloc, World.size_setCell, World.size_drew, size_sets, List.mem_cons, List.not_mem_nil, or_false, not_false_eq_true] <;> omega) | fail)) only [↓rsChk7_3, rsChk7_1, Option.isNone_some, Option.isNone_none, tick_eq, tickV_eq, ne_eq, Int.reduceAdd, Int.reduceSub, Int.reduceMul, Int.reduceEq, Int.reduceLT, Int.reduceLE, Int.reduceToNat, Nat.reduceMul, Nat.reduceAdd, Nat.reduceSub, List.nil_append, List.cons_append, List.getElem?_toArray, List.getElem?_cons_zero, List.getElem?_cons_succ, List.setIfInBounds_toArray, List.set_cons_zero, List.set_cons_succ, Option.map_some, List.not_mem_nil, ←decide_not, eq_self]
    exact ⟨by trivial, F1⟩
  simp (disch := (first | omega | decide | (simp only [World.size_alloc, World.size_setCell, World.size_drew, size_sets, List.mem_cons, List.not_mem_nil, or_false, not_false_eq_true] <;> omega) | fail)) only [↓rsChk7_3, rsChk7_1, Option.isNone_some, Option.isNone_none, tick_eq, tickV_eq, ne_eq, Int.reduceAdd, Int.reduceSub, Int.reduceMul, Int.reduceEq, Int.reduceLT, Int.reduceLE, Int.reduceToNat, Nat.reduceMul, Nat.reduceAdd, Nat.reduceSub, List.nil_append, List.cons_append, List.getElem?_toArray, List.getElem?_cons_zero, List.getElem?_cons_succ, List.setIfInBounds_toArray, List.set_cons_zero, List.set_cons_succ, Option.map_some, List.not_mem_nil, ←decide_not, eq_self]
  refine loamlaw16_To_call (Yld.mono (To_spec l a c b t w1 (by omega) (ha.row.ext0 F1) ha.nil) ?_)
  rintro u w2 ⟨F2, hu⟩
  rcases hu with rfl | ⟨s, g, a2, c2, b', t', rfl, rfl, rfl, zs, S⟩
  · simp (disch := (first | omega | decide | (simp only [World.size_alloc, World.size_setCell, World.size_drew, size_sets, List.mem_cons, List.not_mem_nil, or_false, not_false_eq_true] <;> omega) | fail)) only [↓rsChk7_3, rsChk7_1, Option.isNone_some, Option.isNone_none, tick_eq, tickV_eq, ne_eq, Int.reduceAdd, Int.reduceSub, Int.reduceMul, Int.reduceEq, Int.reduceLT, Int.reduceLE, Int.reduceToNat, Nat.reduceMul, Nat.reduceAdd, Nat.reduceSub, List.nil_append, List.cons_append, List.getElem?_toArray, List.getElem?_cons_zero, List.getElem?_cons_succ, List.setIfInBounds_toArray, List.set_cons_zero, List.set_cons_succ, Option.map_some, List.not_mem_nil, ←decide_not, eq_self]
    exact ⟨by trivial, F1.trans F2⟩
  have q1 := S.bt
  have q2 := S.te
  have hrw := ha.row.ext0 (F1.trans F2)
  have R : RfIs (w2.alloc (.cells #[.slice a l.length c, i64 (b' : Int), i64 (t' : Int), i64 (l.length : Int)] 46)) w2.heap.size a c l b' t' l.length := by
    refine ⟨Blk.at rfl, hrw.ext0 (Ext.alloc _ _ _), ha.cap, ha.nil, ?_, by omega, by omega, by omega, by omega⟩
    intro hl2 hm2
    rcases hrw.get (by simpa using hl2) with ⟨b5, o5, rfl, hb5, _⟩
    simp only [blkOf, List.mem_singleton] at hm2
    omega
  have X : Ext [] w2 (w2.alloc (.cells #[.slice a l.length c, i64 (b' : Int), i64 (t' : Int), i64 (l.length : Int)] 46)) := Ext.alloc _ _ _
  simp (disch := (first | omega | decide | (simp only [World.size_alloc, World.size_setCell, World.size_drew, size_sets, List.mem_cons, List.not_mem_nil, or_false, not_false_eq_true] <;> omega) | fail)) only [↓rsChk7_3, rsChk7_1, Option.isNone_some, Option.isNone_none, tick_eq, tickV_eq, ne_eq, Int.reduceAdd, Int.reduceSub, Int.reduceMul, Int.reduceEq, Int.reduceLT, Int.reduceLE, Int.reduceToNat, Nat.reduceMul, Nat.reduceAdd, Nat.reduceSub, List.nil_append, List.cons_append, List.getElem?_toArray, List.getElem?_cons_zero, List.getElem?_cons_succ, List.setIfInBounds_toArray, List.set_cons_zero, List.set_cons_succ, Option.map_some, List.not_mem_nil, ←decide_not, eq_self]
  generalize w2.alloc (.cells #[.slice a l.length c, i64 (b' : Int), i64 (t' : Int), i64 (l.length : Int)] 46) = y at *
  refine check_Space_call (Yld.mono (CSpace_spec (S.ext0 X)) ?_)
  rintro u w3 ⟨os, bad, hS, F3, a5, c5, rfl, hc5, hn5, R5⟩
  simp (disch := (first | omega | decide | (simp only [World.size_alloc, World.size_setCell, World.size_drew, size_sets, List.mem_cons, List.not_mem_nil, or_false, not_false_eq_true] <;> omega) | fail)) only [↓rsChk7_3, rsChk7_1, Option.isNone_some, Option.isNone_none, tick_eq, tickV_eq, ne_eq, Int.reduceAdd, Int.reduceSub, Int.reduceMul, Int.reduceEq, Int.reduceLT, Int.reduceLE, Int.reduceToNat, Nat.reduceMul, Nat.reduceAdd, Nat.reduceSub, List.nil_append, List.cons_append, List.getElem?_toArray, List.getElem?_cons_zero, List.getElem?_cons_succ, List.setIfInBounds_toArray, List.set_cons_zero, List.set_cons_succ, Option.map_some, List.not_mem_nil, ←decide_not, eq_self]
  refine loamref17_Space_call (Yld.mono (rSpaceF_spec l a c b' t' w3 ((hrw.ext0 X).ext0 F3) ha.cap ha.nil (by omega) q1 q2) ?_)
  rintro u w4 ⟨os2, bad2, hS2, F4, a6, c6, rfl, hc6, hn6, R6⟩
  obtain ⟨rfl, rfl⟩ := hS.uniq hS2
  have lf : (allF (wat l) os bad).length ≤ 100000 := by
    have h1 := hS.fnd os os.length
    rw [List.take_length] at h1
    have h2 : (badF bad).length ≤ 1 := by cases bad <;> simp [badF]
    unfold allF
    rw [List.length_append]
    omega
  have hw := allF_well q1 hS
  generalize allF (wat l) os bad = F at *
  simp (disch := (first | omega | decide | (simp only [World.size_alloc, World.size_setCell, World.size_drew, size_sets, List.mem_cons, List.not_mem_nil, or_false, not_false_eq_true] <;> omega) | fail)) only [↓rsChk7_3, rsChk7_1, Option.isNone_some, Option.isNone_none, tick_eq, tickV_eq, ne_eq, Int.reduceAdd, Int.reduceSub, Int.reduceMul, Int.reduceEq, Int.reduceLT, Int.reduceLE, Int.reduceToNat, Nat.reduceMul, Nat.reduceAdd, Nat.reduceSub, List.nil_append, List.cons_append, List.getElem?_toArray, List.getElem?_cons_zero, List.getElem?_cons_succ, List.setIfInBounds_toArray, List.set_cons_zero, List.set_cons_succ, Option.map_some, List.not_mem_nil, ←decide_not, eq_self]
  refine loamlaw26_same_call (Gives.to (same26_spec (R5.ext0 F4) R6 (by omega)) fun w5 F5 => ?_)
  simp (disch := (first | omega | decide | (simp only [World.size_alloc, World.size_setCell, World.size_drew, size_sets, List.mem_cons, List.not_mem_nil, or_false, not_false_eq_true] <;> omega) | fail)) only [↓rsChk7_3, rsChk7_1, Option.isNone_some, Option.isNone_none, tick_eq, tickV_eq, ne_eq, Int.reduceAdd, Int.reduceSub, Int.reduceMul, Int.reduceEq, Int.reduceLT, Int.reduceLE, Int.reduceToNat, Nat.reduceMul, Nat.reduceAdd, Nat.reduceSub, List.nil_append, List.cons_append, List.getElem?_toArray, List.getElem?_cons_zero, List.getElem?_cons_succ, List.setIfInBounds_toArray, List.set_cons_zero, List.set_cons_succ, Option.map_some, List.not_mem_nil, ←decide_not, eq_self]
  refine loamref14_Space_Well_call (Yld.mono (rWell_spec ((R.ext0 (F3.trans F4)).ext0 F5)) ?_)
  rintro u w6 ⟨⟨v, rfl, hv⟩, F6⟩
  have Xe := F1.trans (F2.trans (X.trans (F3.trans (F4.trans (F5.trans F6)))))
  rcases hv with ⟨hv1, rfl⟩ | ⟨hv1, rfl⟩
  · have hF := hw.2 hv1
    subst hF
    simp (disch := (first | omega | decide | (simp only [World.size_alloc, World.size_setCell, World.size_drew, size_sets, List.mem_cons, List.not_mem_nil, or_false, not_false_eq_true] <;> omega) | fail)) only [↓rsChk7_3, rsChk7_1, Option.isNone_some, Option.isNone_none, tick_eq, tickV_eq, ne_eq, Int.reduceAdd, Int.reduceSub, Int.reduceMul, Int.reduceEq, Int.reduceLT, Int.reduceLE, Int.reduceToNat, Nat.reduceMul, Nat.reduceAdd, Nat.reduceSub, List.nil_append, List.cons_append, List.getElem?_toArray, List.getElem?_cons_zero, List.getElem?_cons_succ, List.setIfInBounds_toArray, List.set_cons_zero, List.set_cons_succ, Option.map_some, List.not_mem_nil, ←decide_not, eq_self]
    exact ⟨by trivial, Xe⟩
  · have hF : 0 < F.length := List.length_pos_iff.2 (fun h => hv1 (hw.1 h))
    simp (disch := (first | omega | decide | (simp only [World.size_alloc, World.size_setCell, World.size_drew, size_sets, List.mem_cons, List.not_mem_nil, or_false, not_false_eq_true] <;> omega) | fail)) only [↓rsChk7_3, rsChk7_1, Option.isNone_some, Option.isNone_none, tick_eq, tickV_eq, ne_eq, Int.reduceAdd, Int.reduceSub, Int.reduceMul, Int.reduceEq, Int.reduceLT, Int.reduceLE, Int.reduceToNat, Nat.reduceMul, Nat.reduceAdd, Nat.reduceSub, List.nil_append, List.cons_append, List.getElem?_toArray, List.getElem?_cons_zero, List.getElem?_cons_succ, List.setIfInBounds_toArray, List.set_cons_zero, List.set_cons_succ, Option.map_some, List.not_mem_nil, ←decide_not, eq_self]
    exact ⟨by trivial, Xe⟩
end Go.Proofs.Ytdpmidgeipibbaa
