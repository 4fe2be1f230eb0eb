/- Looking at words that should be objects: each object, and a space (sq). -/
import Derived.Test.YtdpmidgeipibbaaChk2
set_option linter.unusedVariables false
set_option linter.unusedSimpArgs false
set_option maxHeartbeats 4000000
namespace Go.Proofs.Ytdpmidgeipibbaa
open Go.Sh Go.RowKit

section
variable {w0 w : World} {k r : Nat} {v : Value} {a : Option Addr} {c : Nat} {L : List (BitVec 64)} {base : Nat} {l : List Nat} {F : List Fnd}
abbrev rsChk3_0 := (And.intro @xBox_r (And.intro @loadK_some (And.intro @loadsK_s (And.intro @loadsK_n (And.intro @loadsR_s (And.intro @loadsR_n (And.intro @storesK_s (And.intro @storesK_n (And.intro @xPick_t (And.intro @xPick_f (And.intro @xGuard_tt (And.intro @xGuard_ff (And.intro @xGuard_tf (And.intro @xGuard_ft (And.intro @xGuard_u 
  (And.intro @xNil_r (And.intro @xIf_t (And.intro @xBin_add' (And.intro @xBin_sub' (And.intro @xBin_mul' (And.intro @xBin_quo' (And.intro @xBin_rem' (And.intro @xIf_f (And.intro @xIf_tt (And.intro @xEx0 (And.intro @xEx1 (And.intro @xEx2 (And.intro @xEx3 (And.intro @xBin_eqs (And.intro @xBin_nes (And.intro @xUn_not (And.intro @xu8_add (And.intro @xu8_sub 
  (And.intro @xu8_com (And.intro @xu8_leq (And.intro @xu16_add (And.intro @xu16_sub (And.intro @xu16_com (And.intro @xu16_leq (And.intro @xu32_add (And.intro @xu32_sub (And.intro @xu32_com (And.intro @xu32_leq (And.intro @xu64_add (And.intro @xu64_sub (And.intro @xu64_com (And.intro @xu64_leq (And.intro @xi64_leq (And.intro @xMakeFunc_r 
  (And.intro @xSq_r (And.intro @xPur_s (And.intro @xRd_s (And.intro @xRe_s (And.intro @xDet_s (And.intro @xDet_ld (And.intro @xDet_ld2 (And.intro @xDet_ld3 (And.intro @xDet_ld4 (And.intro @xGuard_tt (And.intro @ld_3 (And.intro @ld_28 (And.intro @ld_69 (And.intro @ld_94 (And.intro @ld_123 (And.intro @fa_96_0 (And.intro @fa_96_1 (And.intro @fa_96_2 (And.intro @fa_123_0 
  (And.intro @fa_123_1 (And.intro @al_123 (And.intro @st_123 @ia_28)))))))))))))))))))))))))))))))))))))))))))))))))))))))))))))))))))))))
abbrev rsChk3_1 := (And.intro @setCells_c (And.intro @setCells_n (And.intro @World.setCell_alloc_at (And.intro @World.setCell_alloc_past (And.intro @World.cell?_alloc_at (And.intro @World.cell?_alloc_past (And.intro @World.frozen?_alloc_at (And.intro @World.frozen?_alloc_past 
  (And.intro @World.size_alloc (And.intro @dlt_t (And.intro @dlt_f (And.intro @dle_t (And.intro @dle_f (And.intro @deq_t (And.intro @deq_f (And.intro @dne_t (And.intro @dne_f (And.intro @not_true_eq_false (And.intro @Bool.false_and (And.intro @Bool.true_and (And.intro @Bool.and_true (And.intro @Bool.and_false (And.intro @wrap_in (And.intro @Int.toNat_natCast 
  (And.intro @Nat.mul_one (And.intro @cells_int (And.intro @cells_bool (And.intro @cells_string (And.intro @cells_slice (And.intro @cells_pointer (And.intro @cells_agg (And.intro @one_int (And.intro @one_bool (And.intro @one_string (And.intro @one_slice (And.intro @one_pointer (And.intro @beq_tt (And.intro @beq_ff (And.intro @beq_tf 
  (And.intro @beq_ft (And.intro @cell_sets_b (And.intro @frozen_sets (And.intro @size_sets (And.intro @World.size_drew (And.intro @Nat.zero_add (And.intro @Nat.add_zero (And.intro @cell_drew (And.intro @frozen_drew (And.intro @cell_set_eq (And.intro @cell_set_o (And.intro @cell_set_b (And.intro @World.frozen?_setCell 
  (And.intro @decide_true (And.intro @decide_false (And.intro @not_false_eq_true (And.intro @Bool.not_true @Bool.not_false))))))))))))))))))))))))))))))))))))))))))))))))))))))))
theorem object_spec {o : Nat} (h : WkIs w0 w k r v a c L base l F) (hl : ∀ p ∈ l, p < base + L.length) (hb : base + L.length ≤ 8192) (hc0 : L.length ≤ c) (ho : o ∈ l) (hlo : base ≤ o) (hok : okW (wat L (o - base))) (hhi : o + szW (wat L (o - base)) ≤ base + L.length) (hF : F.length ≤ 100000) :
    Yld Try.prog n_check_walk_object #[ptr k, i64 (o : Int)] w fun u w' => ∃ v', WkIs w0 w' k r v' a c L base l (F ++ objF (fun p => wat L (p - base)) l o) ∧ Stp (k :: Go.Sh.blk v) (k :: Go.Sh.blk v') w w' := by
  obtain ⟨v1', v2', v3', v4', v5', v6', v7', v8'⟩ := okW_v hok
  have kb := fun i => h.blk.cell (i := i)
  have hlk := fun (K : K1) => xLookup_v (P := Try.prog) (K := K) (t := 94) (kt := 3) (et := 123) (by kernel_rfl) (by kernel_rfl) (zero_hd w) h.map (o : Int)
  rw [mget_hd ho] at hlk
  have hlk2 : ∀ K : K1, xLookup Try.prog 94 (.map (some r)) (i64 (o : Int)) false w K = K (hd (pN (wat L (o - base))) (bN (wat L (o - base))) false 0) w := hlk
  refine check_walk_object_of ?_
  unfold check_walk_object
  simp (disch := (first | omega | decide | (simp only [World.size_alloc, World.size_setCell, World.size_drew, size_sets, List.mem_cons, List.not_mem_nil, or_false, not_false_eq_true] <;> omega) | fail)) only [↓rsChk3_0, rsChk3_1, Option.isNone_some, Option.isNone_none, tick_eq, tickV_eq, ne_eq, Int.reduceAdd, Int.reduceSub, Int.reduceMul, Int.reduceEq, Int.reduceLT, Int.reduceLE, Int.reduceToNat, Nat.reduceMul, Nat.reduceAdd, Nat.reduceSub, List.nil_append, List.cons_append, List.getElem?_toArray, List.getElem?_cons_zero, List.getElem?_cons_succ, List.setIfInBounds_toArray, List.set_cons_zero, List.set_cons_succ, Option.map_some, List.not_mem_nil, ←decide_not, kb, hlk2]
  have B : Blk (w.alloc (.cells #[i64 (pN (wat L (o - base))), i64 (bN (wat L (o - base))), .bool false, i64 0] 123)) w.heap.size 123 [i64 (pN (wat L (o - base))), i64 (bN (wat L (o - base))), .bool false, i64 0] := Blk.at rfl
  have X : Ext [] w (w.alloc (.cells #[i64 (pN (wat L (o - base))), i64 (bN (wat L (o - base))), .bool false, i64 0] 123)) := Ext.alloc _ _ _
  have hy := h.ext0 X
  have zk := h.blk.lt
  have zv := h.own.lt
  have hhb : w.heap.size ∉ k :: Go.Sh.blk v := fun hm => by
    rcases List.mem_cons.1 hm with e | hm
    · omega
    · have := zv _ hm; omega
  have hsz : ∀ w, Gives Try.prog n_head_Size #[hd (pN (wat L (o - base))) (bN (wat L (o - base))) false 0] w (i64 (szW (wat L (o - base)) : Int)) := fun w => by
    have := SizeW_spec hok w
    rw [v1', v2', v4'] at this
    exact this
  have hobj : objF (fun p => wat L (p - base)) l o = ptrF (fun p => wat L (p - base)) l o (pN (wat L (o - base))) ++ padF (fun p => wat L (p - base)) o := rfl
  have hpl := ptrF_len (fun p => wat L (p - base)) l o
  have hpadF : padF (fun p => wat L (p - base)) o = if (bN (wat L (o - base)) % 8 ≠ 0 ∧ wat L (o + szW (wat L (o - base)) - 1 - base) >>> (8 * (bN (wat L (o - base)) % 8)) ≠ 0#64) then [(o + szW (wat L (o - base)) - 1, sPad)] else [] := rfl
  rw [hobj]
  generalize hP : pN (wat L (o - base)) = P at *
  generalize hN : bN (wat L (o - base)) = N at *
  generalize hZ : szW (wat L (o - base)) = Z at *
  generalize w.heap.size = hb0 at *
  generalize w.alloc (.cells #[i64 (P : Int), i64 (N : Int), .bool false, i64 0] 123) = y at *
  have e1 : (o : Int) + 1 = ((o + 1 + 0 : Nat) : Int) := by omega
  rw [e1]
  refine xLoop_n P (fun j => [i64 ((o + 1 + j : Nat) : Int)]) (fun j w' => ∃ v', WkIs w0 w' k r v' a c L base l (F ++ ptrF (fun p => wat L (p - base)) l o j) ∧ Stp (k :: Go.Sh.blk v) (k :: Go.Sh.blk v') y w') rfl ⟨v, by simpa [ptrF] using hy, Stp.refl _ _⟩ ?_ ?_
  · rintro j hj u w1 hu ⟨v', W, T⟩ nxt hnx
    simp only [List.map_cons, List.map_nil, List.cons.injEq, and_true] at hu
    rw [hu]
    have B1 := B.ext T.ext hhb
    have k1 := fun i => B1.cell (i := i)
    have Wd := W.ext0 (Ext.drew [] w1)
    have kd := fun i => Wd.blk.cell (i := i)
    have hi : o + 1 + j - base < L.length := by omega
    obtain ⟨b1, o1, rfl, kw1⟩ := word_at Wd hi
    have e2 : ((o + 1 + j : Nat) : Int) - (base : Int) = ((o + 1 + j - base : Nat) : Int) := by omega
    have e3 : ((o + 1 + j : Nat) : Int) + 1 = ((o + 1 + (j + 1) : Nat) : Int) := by omega
    have hle : ((o + 1 + j : Nat) : Int) ≤ (o : Int) + (P : Int) := by omega
    have hpj := hpl j
    have hs : ptrF (fun p => wat L (p - base)) l o (j + 1) = ptrF (fun p => wat L (p - base)) l o j ++ (if PtrOk l (wat L (o + 1 + j - base)).toNat then [] else [(o + 1 + j, sPtr)]) := rfl
    have hpt := points_spec Wd hl hb (wat L (o + 1 + j - base))
    unfold check_walk_object_l1
    generalize wat L (o + 1 + j - base) = xw at *
    generalize hq : o + 1 + j = q at *
    simp (disch := (first | omega | decide | (simp only [World.size_alloc, World.size_setCell, World.size_drew, size_sets, List.mem_cons, List.not_mem_nil, or_false, not_false_eq_true] <;> omega) | fail)) only [↓rsChk3_0, rsChk3_1, Option.isNone_some, Option.isNone_none, tick_eq, tickV_eq, ne_eq, Int.reduceAdd, Int.reduceSub, Int.reduceMul, Int.reduceEq, Int.reduceLT, Int.reduceLE, Int.reduceToNat, Nat.reduceMul, Nat.reduceAdd, Nat.reduceSub, List.nil_append, List.cons_append, List.getElem?_toArray, List.getElem?_cons_zero, List.getElem?_cons_succ, List.setIfInBounds_toArray, List.set_cons_zero, List.set_cons_succ, Option.map_some, List.not_mem_nil, ←decide_not, kb, hlk2, k1, kd, e2, kw1]
    refine check_walk_points_call (Gives.to hpt fun w2 F2d => ?_)
    have F2 := (Ext.drew [] _).trans F2d
    have W2 := W.ext0 F2
    by_cases hok2 : PtrOk l xw.toNat
    · rw [decide_eq_true hok2]
      rw [if_pos hok2, List.append_nil] at hs
      unfold check_walk_object_j1
      simp (disch := (first | omega | decide | (simp only [World.size_alloc, World.size_setCell, World.size_drew, size_sets, List.mem_cons, List.not_mem_nil, or_false, not_false_eq_true] <;> omega) | fail)) only [↓rsChk3_0, rsChk3_1, Option.isNone_some, Option.isNone_none, tick_eq, tickV_eq, ne_eq, Int.reduceAdd, Int.reduceSub, Int.reduceMul, Int.reduceEq, Int.reduceLT, Int.reduceLE, Int.reduceToNat, Nat.reduceMul, Nat.reduceAdd, Nat.reduceSub, List.nil_append, List.cons_append, List.getElem?_toArray, List.getElem?_cons_zero, List.getElem?_cons_succ, List.setIfInBounds_toArray, List.set_cons_zero, List.set_cons_succ, Option.map_some, List.not_mem_nil, ←decide_not, kb, hlk2, k1, kd, e2, kw1]
      rw [e3]
      exact hnx _ ⟨v', by rw [hs]; exact W2, ⟨T.ext.trans (F2.more (by simp)), T.at'⟩⟩
    · rw [decide_eq_false hok2]
      rw [if_neg hok2] at hs
      have cP : ({ data := #[112, 116, 114] } : ByteArray) = strOf sPtr := by decide +kernel
      simp (disch := (first | omega | decide | (simp only [World.size_alloc, World.size_setCell, World.size_drew, size_sets, List.mem_cons, List.not_mem_nil, or_false, not_false_eq_true] <;> omega) | fail)) only [↓rsChk3_0, rsChk3_1, Option.isNone_some, Option.isNone_none, tick_eq, tickV_eq, ne_eq, Int.reduceAdd, Int.reduceSub, Int.reduceMul, Int.reduceEq, Int.reduceLT, Int.reduceLE, Int.reduceToNat, Nat.reduceMul, Nat.reduceAdd, Nat.reduceSub, List.nil_append, List.cons_append, List.getElem?_toArray, List.getElem?_cons_zero, List.getElem?_cons_succ, List.setIfInBounds_toArray, List.set_cons_zero, List.set_cons_succ, Option.map_some, List.not_mem_nil, ←decide_not, kb, hlk2, k1, kd, e2, kw1]
      rw [cP]
      refine check_walk_add_call (Yld.mono (add_spec (at' := q) (s := sPtr) W2 (by rw [List.length_append]; omega)) ?_)
      rintro u w3 ⟨v3, W3, T3⟩
      unfold check_walk_object_j1
      simp (disch := (first | omega | decide | (simp only [World.size_alloc, World.size_setCell, World.size_drew, size_sets, List.mem_cons, List.not_mem_nil, or_false, not_false_eq_true] <;> omega) | fail)) only [↓rsChk3_0, rsChk3_1, Option.isNone_some, Option.isNone_none, tick_eq, tickV_eq, ne_eq, Int.reduceAdd, Int.reduceSub, Int.reduceMul, Int.reduceEq, Int.reduceLT, Int.reduceLE, Int.reduceToNat, Nat.reduceMul, Nat.reduceAdd, Nat.reduceSub, List.nil_append, List.cons_append, List.getElem?_toArray, List.getElem?_cons_zero, List.getElem?_cons_succ, List.setIfInBounds_toArray, List.set_cons_zero, List.set_cons_succ, Option.map_some, List.not_mem_nil, ←decide_not, kb, hlk2, k1, kd, e2, kw1]
      rw [e3]
      refine hnx _ ⟨v3, by rw [hs, ← List.append_assoc]; exact W3, ?_⟩
      exact (Stp.trans ⟨T.ext.trans (F2.more (by simp)), T.at'⟩ T3)
  · rintro u w1 hu ⟨v', W, T⟩ nxt
    simp only [List.map_cons, List.map_nil, List.cons.injEq, and_true] at hu
    rw [hu]
    have B1 := B.ext T.ext hhb
    have k1 := fun i => B1.cell (i := i)
    have hpj := hpl P
    unfold check_walk_object_l1
    simp (disch := (first | omega | decide | (simp only [World.size_alloc, World.size_setCell, World.size_drew, size_sets, List.mem_cons, List.not_mem_nil, or_false, not_false_eq_true] <;> omega) | fail)) only [↓rsChk3_0, rsChk3_1, Option.isNone_some, Option.isNone_none, tick_eq, tickV_eq, ne_eq, Int.reduceAdd, Int.reduceSub, Int.reduceMul, Int.reduceEq, Int.reduceLT, Int.reduceLE, Int.reduceToNat, Nat.reduceMul, Nat.reduceAdd, Nat.reduceSub, List.nil_append, List.cons_append, List.getElem?_toArray, List.getElem?_cons_zero, List.getElem?_cons_succ, List.setIfInBounds_toArray, List.set_cons_zero, List.set_cons_succ, Option.map_some, List.not_mem_nil, ←decide_not, kb, hlk2, k1]
    refine head_Size_call (Gives.to (hsz _) fun w2 F2 => ?_)
    have W2 := W.ext0 F2
    have kd := fun i => W2.blk.cell (i := i)
    have hi : o + Z - 1 - base < L.length := by omega
    obtain ⟨b1, o1, rfl, kw1⟩ := word_at W2 hi
    have e2 : (o : Int) + (Z : Int) - 1 = ((o + Z - 1 : Nat) : Int) := by omega
    have e3 : ((o + Z - 1 : Nat) : Int) - (base : Int) = ((o + Z - 1 - base : Nat) : Int) := by omega
    have B2 := B1.ext F2 (by simp)
    have k2 := fun i => B2.cell (i := i)
    have hpd := cpad_spec (wat L (o + Z - 1 - base)) N (by omega) w2.drew
    generalize wat L (o + Z - 1 - base) = xw at *
    simp (disch := (first | omega | decide | (simp only [World.size_alloc, World.size_setCell, World.size_drew, size_sets, List.mem_cons, List.not_mem_nil, or_false, not_false_eq_true] <;> omega) | fail)) only [↓rsChk3_0, rsChk3_1, Option.isNone_some, Option.isNone_none, tick_eq, tickV_eq, ne_eq, Int.reduceAdd, Int.reduceSub, Int.reduceMul, Int.reduceEq, Int.reduceLT, Int.reduceLE, Int.reduceToNat, Nat.reduceMul, Nat.reduceAdd, Nat.reduceSub, List.nil_append, List.cons_append, List.getElem?_toArray, List.getElem?_cons_zero, List.getElem?_cons_succ, List.setIfInBounds_toArray, List.set_cons_zero, List.set_cons_succ, Option.map_some, List.not_mem_nil, ←decide_not, kb, hlk2, k1]
    rw [e2]
    generalize hq : o + Z - 1 = q at *
    simp (disch := (first | omega | decide | (simp only [World.size_alloc, World.size_setCell, World.size_drew, size_sets, List.mem_cons, List.not_mem_nil, or_false, not_false_eq_true] <;> omega) | fail)) only [↓rsChk3_0, rsChk3_1, Option.isNone_some, Option.isNone_none, tick_eq, tickV_eq, ne_eq, Int.reduceAdd, Int.reduceSub, Int.reduceMul, Int.reduceEq, Int.reduceLT, Int.reduceLE, Int.reduceToNat, Nat.reduceMul, Nat.reduceAdd, Nat.reduceSub, List.nil_append, List.cons_append, List.getElem?_toArray, List.getElem?_cons_zero, List.getElem?_cons_succ, List.setIfInBounds_toArray, List.set_cons_zero, List.set_cons_succ, Option.map_some, List.not_mem_nil, ←decide_not, kb, hlk2, k1, kd, e3, kw1, k2]
    refine check_pad_call (Gives.to hpd fun w3 F3d => ?_)
    have F3 := (Ext.drew [] _).trans F3d
    have W3 := W2.ext0 F3
    have T3 : Stp (k :: Go.Sh.blk v) (k :: Go.Sh.blk v') y w3 := ⟨T.ext.trans ((F2.trans F3).more (by simp)), T.at'⟩
    have X0 : ∀ {v4 : Value} {w4 : World}, Stp (k :: Go.Sh.blk v) (k :: Go.Sh.blk v4) y w4 → Stp (k :: Go.Sh.blk v) (k :: Go.Sh.blk v4) w w4 := fun T4 => ⟨(X.more (by simp)).trans T4.ext, fun z hz => (T4.at' z hz).imp id fun h5 => Nat.le_trans X.size h5⟩
    by_cases hp : (N % 8 ≠ 0 ∧ xw >>> (8 * (N % 8)) ≠ 0#64)
    · rw [decide_eq_true hp]
      rw [if_pos hp] at hpadF
      have cP : ({ data := #[112, 97, 100] } : ByteArray) = strOf sPad := by decide +kernel
      simp (disch := (first | omega | decide | (simp only [World.size_alloc, World.size_setCell, World.size_drew, size_sets, List.mem_cons, List.not_mem_nil, or_false, not_false_eq_true] <;> omega) | fail)) only [↓rsChk3_0, rsChk3_1, Option.isNone_some, Option.isNone_none, tick_eq, tickV_eq, ne_eq, Int.reduceAdd, Int.reduceSub, Int.reduceMul, Int.reduceEq, Int.reduceLT, Int.reduceLE, Int.reduceToNat, Nat.reduceMul, Nat.reduceAdd, Nat.reduceSub, List.nil_append, List.cons_append, List.getElem?_toArray, List.getElem?_cons_zero, List.getElem?_cons_succ, List.setIfInBounds_toArray, List.set_cons_zero, List.set_cons_succ, Option.map_some, List.not_mem_nil, ←decide_not, kb, hlk2, k1, kd, e3, kw1, k2]
      rw [cP]
      refine check_walk_add_call (Yld.mono (add_spec (at' := q) (s := sPad) W3 (by rw [List.length_append]; omega)) ?_)
      rintro u w4 ⟨v4, W4, T4⟩
      refine ⟨v4, by rw [hpadF, ← List.append_assoc]; exact W4, X0 (T3.trans T4)⟩
    · rw [decide_eq_false hp]
      rw [if_neg hp] at hpadF
      simp (disch := (first | omega | decide | (simp only [World.size_alloc, World.size_setCell, World.size_drew, size_sets, List.mem_cons, List.not_mem_nil, or_false, not_false_eq_true] <;> omega) | fail)) only [↓rsChk3_0, rsChk3_1, Option.isNone_some, Option.isNone_none, tick_eq, tickV_eq, ne_eq, Int.reduceAdd, Int.reduceSub, Int.reduceMul, Int.reduceEq, Int.reduceLT, Int.reduceLE, Int.reduceToNat, Nat.reduceMul, Nat.reduceAdd, Nat.reduceSub, List.nil_append, List.cons_append, List.getElem?_toArray, List.getElem?_cons_zero, List.getElem?_cons_succ, List.setIfInBounds_toArray, List.set_cons_zero, List.set_cons_succ, Option.map_some, List.not_mem_nil, ←decide_not, kb, hlk2, k1, kd, e3, kw1, k2]
      refine ⟨v', by rw [hpadF, List.append_nil]; exact W3, X0 T3⟩
abbrev rsChk3_2 := (And.intro @xBox_r (And.intro @loadK_some (And.intro @loadsK_s (And.intro @loadsK_n (And.intro @loadsR_s (And.intro @loadsR_n (And.intro @storesK_s (And.intro @storesK_n (And.intro @xPick_t (And.intro @xPick_f (And.intro @xGuard_tt (And.intro @xGuard_ff (And.intro @xGuard_tf (And.intro @xGuard_ft (And.intro @xGuard_u 
  (And.intro @xNil_r (And.intro @xIf_t (And.intro @xBin_add' (And.intro @xBin_sub' (And.intro @xBin_mul' (And.intro @xBin_quo' (And.intro @xBin_rem' (And.intro @xIf_f (And.intro @xIf_tt (And.intro @xEx0 (And.intro @xEx1 (And.intro @xEx2 (And.intro @xEx3 (And.intro @xBin_eqs (And.intro @xBin_nes (And.intro @xUn_not (And.intro @xu8_add (And.intro @xu8_lss 
  (And.intro @xu16_add (And.intro @xu16_lss (And.intro @xu32_add (And.intro @xu32_lss (And.intro @xu64_add (And.intro @xu64_lss (And.intro @xi64_lss (And.intro @xMakeFunc_r (And.intro @xSq_r (And.intro @xPur_s (And.intro @xRd_s (And.intro @xRe_s (And.intro @xDet_s (And.intro @xDet_ld (And.intro @xDet_ld2 (And.intro @xDet_ld3 (And.intro @xDet_ld4 
  (And.intro @xGuard_tt (And.intro @ld_3 (And.intro @bd_96_0_1_2 (And.intro @ia_66 @ln_66))))))))))))))))))))))))))))))))))))))))))))))))))))))
theorem look_spec (w : World) (L : List (BitVec 64)) (a : Option Addr) (c base : Nat) (hrow : RowAt w a (wrds L)) (hb : base + L.length ≤ 8192) (hc0 : L.length ≤ c) : Yld Try.prog n_check_look #[.slice a L.length c, i64 (base : Int)] w fun u w' => ∃ k r v l bad, u = ptr k ∧ Sc (fun p => wat L (p - base)) (base + L.length) base l bad ∧ WkIs w w' k r v a c L base l (allF (fun p => wat L (p - base)) l bad) := by
  refine check_look_of ?_
  unfold check_look
  have hm := fun (K : K1) (w : World) => xMakeMap_r (P := Try.prog) (w := w) (K := K) (t := 94)
  simp (disch := (first | omega | decide | (simp only [World.size_alloc, World.size_setCell, World.size_drew, size_sets, List.mem_cons, List.not_mem_nil, or_false, not_false_eq_true] <;> omega) | fail)) only [↓rsChk3_2, rsChk3_1, Option.isNone_some, Option.isNone_none, tick_eq, tickV_eq, ne_eq, Int.reduceAdd, Int.reduceSub, Int.reduceMul, Int.reduceEq, Int.reduceLT, Int.reduceLE, Int.reduceToNat, Nat.reduceMul, Nat.reduceAdd, Nat.reduceSub, List.nil_append, List.cons_append, List.getElem?_toArray, List.getElem?_cons_zero, List.getElem?_cons_succ, List.setIfInBounds_toArray, List.set_cons_zero, List.set_cons_succ, Option.map_some, List.not_mem_nil, ←decide_not, hm]
  have X1 : Ext [] w (w.alloc (.map #[] 0)) := Ext.alloc _ _ _
  have M1 := MapIs.new w
  have W : WkIs w ((w.alloc (.map #[] 0)).alloc (.cells #[.slice a L.length c, i64 (base : Int), .map (some w.heap.size), .slice none 0 0] 96)) (w.heap.size + 1) w.heap.size (.slice none 0 0) a c L base [] [] := by
    have X2 : Ext [] (w.alloc (.map #[] 0)) ((w.alloc (.map #[] 0)).alloc (.cells #[.slice a L.length c, i64 (base : Int), .map (some w.heap.size), .slice none 0 0] 96)) := Ext.alloc _ _ _
    refine ⟨?_, M1.ext0 X2, Own.nil, by omega, by simp [Go.Sh.blk, Value.ownBlock], by simp [Go.Sh.blk, Value.ownBlock], ⟨by omega, Nat.le_refl _, by simp [Go.Sh.blk, Value.ownBlock]⟩, (hrow.ext0 X1).ext0 X2, fun b o hz hL => ?_, X1.trans X2⟩
    · have := Blk.at (w := w.alloc (.map #[] 0)) (e := 96) (cs := [.slice a L.length c, i64 (base : Int), .map (some w.heap.size), .slice none 0 0]) rfl
      rw [World.size_alloc] at this
      exact this
    · obtain ⟨b9, o9, h9, z9, _⟩ := hrow.get (by simpa using hL)
      rw [hz] at h9
      simp only [Option.some.injEq, Addr.mk.injEq, and_true] at h9
      omega
  simp only [World.size_alloc]
  generalize (w.alloc (.map #[] 0)).alloc (.cells #[.slice a L.length c, i64 (base : Int), .map (some w.heap.size), .slice none 0 0] 96) = y at *
  generalize w.heap.size + 1 = k at *
  refine check_walk_objects_call (Yld.mono (objects_spec W hb hc0) ?_)
  rintro u w1 ⟨v', a2, c2, l, bad, rfl, R1, D1, hS, W1⟩
  have hcount := hS.count
  obtain ⟨hsort, hall⟩ := hS.all
  have hlb : ∀ p ∈ l, p < base + L.length := fun p hp => by
    have := hall p hp
    have := szW_pos (x := wat L (p - base))
    omega
  simp (disch := (first | omega | decide | (simp only [World.size_alloc, World.size_setCell, World.size_drew, size_sets, List.mem_cons, List.not_mem_nil, or_false, not_false_eq_true] <;> omega) | fail)) only [↓rsChk3_2, rsChk3_1, Option.isNone_some, Option.isNone_none, tick_eq, tickV_eq, ne_eq, Int.reduceAdd, Int.reduceSub, Int.reduceMul, Int.reduceEq, Int.reduceLT, Int.reduceLE, Int.reduceToNat, Nat.reduceMul, Nat.reduceAdd, Nat.reduceSub, List.nil_append, List.cons_append, List.getElem?_toArray, List.getElem?_cons_zero, List.getElem?_cons_succ, List.setIfInBounds_toArray, List.set_cons_zero, List.set_cons_succ, Option.map_some, List.not_mem_nil, ←decide_not, hm]
  refine xLoop_n l.length (fun j => [i64 (j : Int)]) (fun j w' => ∃ v'', WkIs w w' k w.heap.size v'' a c L base l (badF bad ++ (l.take j).flatMap (objF (fun p => wat L (p - base)) l)) ∧ Stp (k :: Go.Sh.blk v') (k :: Go.Sh.blk v'') w1 w') rfl ⟨v', by simpa using W1, Stp.refl _ _⟩ ?_ ?_
  · rintro j hj u w2 hu ⟨v2, W2, T2⟩ nxt hnx
    simp only [List.map_cons, List.map_nil, List.cons.injEq, and_true] at hu
    rw [hu]
    have R2 := R1.ext T2.ext (fun z o hz hm => by
      obtain ⟨d1, d2, d3⟩ := D1 z o hz
      rcases List.mem_cons.1 hm with e | hm
      · exact d2 e
      · exact d3 hm)
    obtain ⟨b1, o1, rfl, z1, k1⟩ := R2.at (i := j) (by simpa using hj)
    simp only [List.getElem_map] at k1
    have hm := List.getElem_mem hj
    obtain ⟨g1, g2, g3⟩ := hall _ hm
    have hfl : (badF bad ++ (l.take j).flatMap (objF (fun p => wat L (p - base)) l)).length ≤ 100000 := by
      have h1 := hS.fnd l j
      have h2 : (badF bad).length ≤ 1 := by cases bad <;> simp [badF]
      rw [List.length_append]
      omega
    have hsucc : badF bad ++ (l.take (j + 1)).flatMap (objF (fun p => wat L (p - base)) l) = (badF bad ++ (l.take j).flatMap (objF (fun p => wat L (p - base)) l)) ++ objF (fun p => wat L (p - base)) l l[j] := by
      rw [List.take_add_one, List.getElem?_eq_getElem hj, List.flatMap_append, List.append_assoc]
      simp
    unfold check_look_l1
    simp (disch := (first | omega | decide | (simp only [World.size_alloc, World.size_setCell, World.size_drew, size_sets, List.mem_cons, List.not_mem_nil, or_false, not_false_eq_true] <;> omega) | fail)) only [↓rsChk3_2, rsChk3_1, Option.isNone_some, Option.isNone_none, tick_eq, tickV_eq, ne_eq, Int.reduceAdd, Int.reduceSub, Int.reduceMul, Int.reduceEq, Int.reduceLT, Int.reduceLE, Int.reduceToNat, Nat.reduceMul, Nat.reduceAdd, Nat.reduceSub, List.nil_append, List.cons_append, List.getElem?_toArray, List.getElem?_cons_zero, List.getElem?_cons_succ, List.setIfInBounds_toArray, List.set_cons_zero, List.set_cons_succ, Option.map_some, List.not_mem_nil, ←decide_not, hm, k1]
    refine check_walk_object_call (Yld.mono (object_spec W2 hlb hb hc0 hm g1 g2 g3 hfl) ?_)
    rintro u w3 ⟨v3, W3, T3⟩
    simp (disch := (first | omega | decide | (simp only [World.size_alloc, World.size_setCell, World.size_drew, size_sets, List.mem_cons, List.not_mem_nil, or_false, not_false_eq_true] <;> omega) | fail)) only [↓rsChk3_2, rsChk3_1, Option.isNone_some, Option.isNone_none, tick_eq, tickV_eq, ne_eq, Int.reduceAdd, Int.reduceSub, Int.reduceMul, Int.reduceEq, Int.reduceLT, Int.reduceLE, Int.reduceToNat, Nat.reduceMul, Nat.reduceAdd, Nat.reduceSub, List.nil_append, List.cons_append, List.getElem?_toArray, List.getElem?_cons_zero, List.getElem?_cons_succ, List.setIfInBounds_toArray, List.set_cons_zero, List.set_cons_succ, Option.map_some, List.not_mem_nil, ←decide_not, hm, k1]
    exact hnx _ ⟨v3, by rw [hsucc]; exact W3, T2.trans T3⟩
  · rintro u w2 hu ⟨v2, W2, T2⟩ nxt
    simp only [List.map_cons, List.map_nil, List.cons.injEq, and_true] at hu
    rw [hu]
    unfold check_look_l1
    simp (disch := (first | omega | decide | (simp only [World.size_alloc, World.size_setCell, World.size_drew, size_sets, List.mem_cons, List.not_mem_nil, or_false, not_false_eq_true] <;> omega) | fail)) only [↓rsChk3_2, rsChk3_1, Option.isNone_some, Option.isNone_none, tick_eq, tickV_eq, ne_eq, Int.reduceAdd, Int.reduceSub, Int.reduceMul, Int.reduceEq, Int.reduceLT, Int.reduceLE, Int.reduceToNat, Nat.reduceMul, Nat.reduceAdd, Nat.reduceSub, List.nil_append, List.cons_append, List.getElem?_toArray, List.getElem?_cons_zero, List.getElem?_cons_succ, List.setIfInBounds_toArray, List.set_cons_zero, List.set_cons_succ, Option.map_some, List.not_mem_nil, ←decide_not, hm]
    exact ⟨k, w.heap.size, v2, l, bad, by trivial, hS, by rw [List.take_length] at W2; exact W2⟩
end
end Go.Proofs.Ytdpmidgeipibbaa
