/- Looking at images without names (sq). -/
import Derived.Test.YtdpmidgeipibbaaChk4
import Derived.Test.YtdpmidgeipibbaaBitsW
set_option linter.unusedVariables false
set_option linter.unusedSimpArgs false
set_option maxHeartbeats 4000000
namespace Go.Proofs.Ytdpmidgeipibbaa
open Go.Sh Go.RowKit

def sMagic : List (BitVec 8) := [109#8, 97#8, 103#8, 105#8, 99#8]
def sSize : List (BitVec 8) := [115#8, 105#8, 122#8, 101#8]
def nR (l : List (BitVec 64)) : Nat := (fieldB (wat l 1) 0 16).toNat
def sizeOk (l : List (BitVec 64)) : Prop := 2 ≤ l.length ∧ fieldB (wat l 1) 48 16 = BitVec.ofNat 64 0 ∧ fieldB (wat l 1) 16 32 = BitVec.ofNat 64 l.length ∧ nR l ≤ 64 ∧ 2 + 5 * nR l ≤ l.length
instance (l : List (BitVec 64)) : Decidable (sizeOk l) := by unfold sizeOk; infer_instance
def magF (l : List (BitVec 64)) : List Fnd := if l.length < 1 ∨ wat l 0 ≠ BitVec.ofNat 64 1296125772 then [(0, sMagic)] else []
theorem nR_lt (l : List (BitVec 64)) : nR l < 65536 := by
  have h : (fieldB (wat l 1) 0 16).toNat = _ := field_nat (wat l 1) (a := 0) (n := 16) (by decide) (by decide)
  unfold nR
  rw [h]
  exact Nat.mod_lt _ (by decide)
theorem row_w {w : World} {a : Option Addr} {l : List (BitVec 64)} (h : RowAt w a (wrds l)) {i : Nat} (hi : i < l.length) : ∃ b o, a = some ⟨b, o, none⟩ ∧ b < w.heap.size ∧ w.cell? ⟨b, o + i, none⟩ = some (u64 (wat l i)) := by
  obtain ⟨b5, o5, h5, z5, k5⟩ := h.at (i := i) (by simpa using hi)
  refine ⟨b5, o5, h5, z5, ?_⟩
  simp only [List.getElem_map] at k5
  rw [k5]
  unfold wat
  rw [List.getD_eq_getElem?_getD, List.getElem?_eq_getElem hi]
  rfl
abbrev rsChk5_0 := (And.intro @xBox_r (And.intro @loadK_some (And.intro @loadsK_s (And.intro @loadsK_n (And.intro @loadsR_s (And.intro @loadsR_n (And.intro @storesK_s (And.intro @storesK_n (And.intro @xPick_t (And.intro @xPick_f (And.intro @xGuard_tt (And.intro @xGuard_ff (And.intro @xGuard_tf (And.intro @xGuard_ft (And.intro @xGuard_u 
  (And.intro @xNil_r (And.intro @xIf_t (And.intro @xBin_add' (And.intro @xBin_sub' (And.intro @xBin_mul' (And.intro @xBin_quo' (And.intro @xBin_rem' (And.intro @xIf_f (And.intro @xIf_tt (And.intro @xEx0 (And.intro @xEx1 (And.intro @xEx2 (And.intro @xEx3 (And.intro @xBin_eqs (And.intro @xBin_nes (And.intro @xUn_not (And.intro @xu8_add (And.intro @xu8_mul 
  (And.intro @xu8_eql (And.intro @xu8_lss (And.intro @xu8_leq (And.intro @xu16_add (And.intro @xu16_mul (And.intro @xu16_eql (And.intro @xu16_lss (And.intro @xu16_leq (And.intro @xu32_add (And.intro @xu32_mul (And.intro @xu32_eql (And.intro @xu32_lss (And.intro @xu32_leq (And.intro @xu64_add (And.intro @xu64_mul (And.intro @xu64_eql (And.intro @xu64_lss 
  (And.intro @xu64_leq (And.intro @xi64_lss (And.intro @xi64_leq (And.intro @xi64_eql (And.intro @xMakeFunc_r (And.intro @xSq_r (And.intro @xPur_s (And.intro @xRd_s (And.intro @xRe_s (And.intro @xDet_s (And.intro @xDet_ld (And.intro @xDet_ld2 (And.intro @xDet_ld3 (And.intro @xDet_ld4 (And.intro @xGuard_tt (And.intro @ld_69 (And.intro @cv_3_69 (And.intro @cv_69_3 
  (And.intro @ia_28 @ln_28)))))))))))))))))))))))))))))))))))))))))))))))))))))))))))))))))))))
abbrev rsChk5_1 := (And.intro @setCells_c (And.intro @setCells_n (And.intro @World.setCell_alloc_at (And.intro @World.setCell_alloc_past (And.intro @World.cell?_alloc_at (And.intro @World.cell?_alloc_past (And.intro @World.frozen?_alloc_at (And.intro @World.frozen?_alloc_past 
  (And.intro @World.size_alloc (And.intro @dlt_t (And.intro @dlt_f (And.intro @dle_t (And.intro @dle_f (And.intro @deq_t (And.intro @deq_f (And.intro @dne_t (And.intro @dne_f (And.intro @not_true_eq_false (And.intro @Bool.false_and (And.intro @Bool.true_and (And.intro @Bool.and_true (And.intro @Bool.and_false (And.intro @wrap_in (And.intro @Int.toNat_natCast 
  (And.intro @Nat.mul_one (And.intro @cells_int (And.intro @cells_bool (And.intro @cells_string (And.intro @cells_slice (And.intro @cells_pointer (And.intro @cells_agg (And.intro @one_int (And.intro @one_bool (And.intro @one_string (And.intro @one_slice (And.intro @one_pointer (And.intro @beq_tt (And.intro @beq_ff (And.intro @beq_tf 
  (And.intro @beq_ft (And.intro @cell_sets_b (And.intro @frozen_sets (And.intro @size_sets (And.intro @World.size_drew (And.intro @Nat.zero_add (And.intro @Nat.add_zero (And.intro @cell_drew (And.intro @frozen_drew (And.intro @cell_set_eq (And.intro @cell_set_o (And.intro @cell_set_b (And.intro @World.frozen?_setCell 
  (And.intro @decide_true (And.intro @decide_false (And.intro @not_false_eq_true (And.intro @Bool.not_true @Bool.not_false))))))))))))))))))))))))))))))))))))))))))))))))))))))))
theorem csize_spec (l : List (BitVec 64)) (a : Option Addr) (c : Nat) (w : World) (h : RowAt w a (wrds l)) (hl : l.length ≤ 100000) : Gives Try.prog n_check_size #[.slice a l.length c] w (.tuple #[i64 ((if l.length < 2 then 0 else nR l : Nat) : Int), .bool (decide (sizeOk l))]) := by
  refine check_size_of ?_
  unfold check_size
  by_cases h2 : l.length < 2
  · rw [if_pos h2, decide_eq_false (fun h => by have := h.1; omega)]
    simp (disch := (first | omega | decide | (simp only [World.size_alloc, World.size_setCell, World.size_drew, size_sets, List.mem_cons, List.not_mem_nil, or_false, not_false_eq_true] <;> omega) | fail)) only [↓rsChk5_0, rsChk5_1, Option.isNone_some, Option.isNone_none, tick_eq, tickV_eq, ne_eq, Int.reduceAdd, Int.reduceSub, Int.reduceMul, Int.reduceEq, Int.reduceLT, Int.reduceLE, Int.reduceToNat, Nat.reduceMul, Nat.reduceAdd, Nat.reduceSub, List.nil_append, List.cons_append, List.getElem?_toArray, List.getElem?_cons_zero, List.getElem?_cons_succ, List.setIfInBounds_toArray, List.set_cons_zero, List.set_cons_succ, Option.map_some, List.not_mem_nil, ←decide_not, eq_self]
    exact ⟨by trivial, Ext.refl _ _⟩
  rw [if_neg h2]
  obtain ⟨b1, o1, rfl, z1, k1⟩ := row_w h (i := 1) (by omega)
  have hnl := nR_lt l
  have hni : (fieldB (wat l 1) 0 16).toInt = (nR l : Int) := by
    unfold nR at *
    rw [BitVec.toInt_eq_toNat_of_lt (by omega)]
  simp (disch := (first | omega | decide | (simp only [World.size_alloc, World.size_setCell, World.size_drew, size_sets, List.mem_cons, List.not_mem_nil, or_false, not_false_eq_true] <;> omega) | fail)) only [↓rsChk5_0, rsChk5_1, Option.isNone_some, Option.isNone_none, tick_eq, tickV_eq, ne_eq, Int.reduceAdd, Int.reduceSub, Int.reduceMul, Int.reduceEq, Int.reduceLT, Int.reduceLE, Int.reduceToNat, Nat.reduceMul, Nat.reduceAdd, Nat.reduceSub, List.nil_append, List.cons_append, List.getElem?_toArray, List.getElem?_cons_zero, List.getElem?_cons_succ, List.setIfInBounds_toArray, List.set_cons_zero, List.set_cons_succ, Option.map_some, List.not_mem_nil, ←decide_not, k1]
  refine bits_Field_call (Gives.to (Field_spec _ _ _ _) fun w2 F2 => ?_)
  have k2 : w2.cell? ⟨b1, o1 + 1, none⟩ = some (u64 (wat l 1)) := F2.cell0 k1
  simp (disch := (first | omega | decide | (simp only [World.size_alloc, World.size_setCell, World.size_drew, size_sets, List.mem_cons, List.not_mem_nil, or_false, not_false_eq_true] <;> omega) | fail)) only [↓rsChk5_0, rsChk5_1, Option.isNone_some, Option.isNone_none, tick_eq, tickV_eq, ne_eq, Int.reduceAdd, Int.reduceSub, Int.reduceMul, Int.reduceEq, Int.reduceLT, Int.reduceLE, Int.reduceToNat, Nat.reduceMul, Nat.reduceAdd, Nat.reduceSub, List.nil_append, List.cons_append, List.getElem?_toArray, List.getElem?_cons_zero, List.getElem?_cons_succ, List.setIfInBounds_toArray, List.set_cons_zero, List.set_cons_succ, Option.map_some, List.not_mem_nil, ←decide_not, k1, k2, hni]
  refine bits_Field_call (Gives.to (Field_spec _ _ _ _) fun w3 F3 => ?_)
  have k3 : w3.cell? ⟨b1, o1 + 1, none⟩ = some (u64 (wat l 1)) := F3.cell0 k2
  have hcl : BitVec.ofInt 64 (l.length : Int) = BitVec.ofNat 64 l.length := by rw [BitVec.ofInt_natCast]
  by_cases g1 : fieldB (wat l 1) 48 16 = BitVec.ofNat 64 0
  rotate_left
  · have hs : ¬ sizeOk l := fun h => g1 h.2.1
    rw [decide_eq_false hs]
    simp (disch := (first | omega | decide | (simp only [World.size_alloc, World.size_setCell, World.size_drew, size_sets, List.mem_cons, List.not_mem_nil, or_false, not_false_eq_true] <;> omega) | fail)) only [↓rsChk5_0, rsChk5_1, Option.isNone_some, Option.isNone_none, tick_eq, tickV_eq, ne_eq, Int.reduceAdd, Int.reduceSub, Int.reduceMul, Int.reduceEq, Int.reduceLT, Int.reduceLE, Int.reduceToNat, Nat.reduceMul, Nat.reduceAdd, Nat.reduceSub, List.nil_append, List.cons_append, List.getElem?_toArray, List.getElem?_cons_zero, List.getElem?_cons_succ, List.setIfInBounds_toArray, List.set_cons_zero, List.set_cons_succ, Option.map_some, List.not_mem_nil, ←decide_not, k1, k2, hni, k3, decide_eq_false g1]
    exact ⟨by trivial, F2.trans F3⟩
  simp (disch := (first | omega | decide | (simp only [World.size_alloc, World.size_setCell, World.size_drew, size_sets, List.mem_cons, List.not_mem_nil, or_false, not_false_eq_true] <;> omega) | fail)) only [↓rsChk5_0, rsChk5_1, Option.isNone_some, Option.isNone_none, tick_eq, tickV_eq, ne_eq, Int.reduceAdd, Int.reduceSub, Int.reduceMul, Int.reduceEq, Int.reduceLT, Int.reduceLE, Int.reduceToNat, Nat.reduceMul, Nat.reduceAdd, Nat.reduceSub, List.nil_append, List.cons_append, List.getElem?_toArray, List.getElem?_cons_zero, List.getElem?_cons_succ, List.setIfInBounds_toArray, List.set_cons_zero, List.set_cons_succ, Option.map_some, List.not_mem_nil, ←decide_not, k1, k2, hni, k3, decide_eq_true g1]
  refine bits_Field_call (Gives.to (Field_spec _ _ _ _) fun w4 F4 => ?_)
  have X4 := F2.trans (F3.trans F4)
  by_cases g2 : fieldB (wat l 1) 16 32 = BitVec.ofNat 64 l.length
  rotate_left
  · have hs : ¬ sizeOk l := fun h => g2 h.2.2.1
    rw [decide_eq_false hs]
    simp (disch := (first | omega | decide | (simp only [World.size_alloc, World.size_setCell, World.size_drew, size_sets, List.mem_cons, List.not_mem_nil, or_false, not_false_eq_true] <;> omega) | fail)) only [↓rsChk5_0, rsChk5_1, Option.isNone_some, Option.isNone_none, tick_eq, tickV_eq, ne_eq, Int.reduceAdd, Int.reduceSub, Int.reduceMul, Int.reduceEq, Int.reduceLT, Int.reduceLE, Int.reduceToNat, Nat.reduceMul, Nat.reduceAdd, Nat.reduceSub, List.nil_append, List.cons_append, List.getElem?_toArray, List.getElem?_cons_zero, List.getElem?_cons_succ, List.setIfInBounds_toArray, List.set_cons_zero, List.set_cons_succ, Option.map_some, List.not_mem_nil, ←decide_not, k1, k2, hni, k3, decide_eq_true g1, hcl, decide_eq_false g2]
    exact ⟨by trivial, X4⟩
  by_cases g3 : nR l ≤ 64
  rotate_left
  · have hs : ¬ sizeOk l := fun h => g3 h.2.2.2.1
    rw [decide_eq_false hs]
    simp (disch := (first | omega | decide | (simp only [World.size_alloc, World.size_setCell, World.size_drew, size_sets, List.mem_cons, List.not_mem_nil, or_false, not_false_eq_true] <;> omega) | fail)) only [↓rsChk5_0, rsChk5_1, Option.isNone_some, Option.isNone_none, tick_eq, tickV_eq, ne_eq, Int.reduceAdd, Int.reduceSub, Int.reduceMul, Int.reduceEq, Int.reduceLT, Int.reduceLE, Int.reduceToNat, Nat.reduceMul, Nat.reduceAdd, Nat.reduceSub, List.nil_append, List.cons_append, List.getElem?_toArray, List.getElem?_cons_zero, List.getElem?_cons_succ, List.setIfInBounds_toArray, List.set_cons_zero, List.set_cons_succ, Option.map_some, List.not_mem_nil, ←decide_not, k1, k2, hni, k3, decide_eq_true g1, hcl, decide_eq_true g2]
    exact ⟨by trivial, X4⟩
  by_cases g4 : 2 + 5 * nR l ≤ l.length
  · have hs : sizeOk l := ⟨by omega, g1, g2, g3, g4⟩
    rw [decide_eq_true hs]
    simp (disch := (first | omega | decide | (simp only [World.size_alloc, World.size_setCell, World.size_drew, size_sets, List.mem_cons, List.not_mem_nil, or_false, not_false_eq_true] <;> omega) | fail)) only [↓rsChk5_0, rsChk5_1, Option.isNone_some, Option.isNone_none, tick_eq, tickV_eq, ne_eq, Int.reduceAdd, Int.reduceSub, Int.reduceMul, Int.reduceEq, Int.reduceLT, Int.reduceLE, Int.reduceToNat, Nat.reduceMul, Nat.reduceAdd, Nat.reduceSub, List.nil_append, List.cons_append, List.getElem?_toArray, List.getElem?_cons_zero, List.getElem?_cons_succ, List.setIfInBounds_toArray, List.set_cons_zero, List.set_cons_succ, Option.map_some, List.not_mem_nil, ←decide_not, k1, k2, hni, k3, decide_eq_true g1, hcl, decide_eq_true g2]
    exact ⟨by trivial, X4⟩
  · have hs : ¬ sizeOk l := fun h => g4 h.2.2.2.2
    rw [decide_eq_false hs]
    simp (disch := (first | omega | decide | (simp only [World.size_alloc, World.size_setCell, World.size_drew, size_sets, List.mem_cons, List.not_mem_nil, or_false, not_false_eq_true] <;> omega) | fail)) only [↓rsChk5_0, rsChk5_1, Option.isNone_some, Option.isNone_none, tick_eq, tickV_eq, ne_eq, Int.reduceAdd, Int.reduceSub, Int.reduceMul, Int.reduceEq, Int.reduceLT, Int.reduceLE, Int.reduceToNat, Nat.reduceMul, Nat.reduceAdd, Nat.reduceSub, List.nil_append, List.cons_append, List.getElem?_toArray, List.getElem?_cons_zero, List.getElem?_cons_succ, List.setIfInBounds_toArray, List.set_cons_zero, List.set_cons_succ, Option.map_some, List.not_mem_nil, ←decide_not, k1, k2, hni, k3, decide_eq_true g1, hcl, decide_eq_true g2]
    exact ⟨by trivial, X4⟩
theorem appFs {w : World} {K : K1} {v : Value} {F G : List Fnd} {a : Option Addr} {c : Nat} (hO : OwnF w v F) (hr : RowAt w a (G.flatMap fC)) (hn : a = none → c = 0) (hc : G.length ≤ c) (hl : F.length + G.length ≤ 1000000)
    (hK : ∀ v' w', OwnF w' v' (F ++ G) → Stp (blk v) (blk v') w w' → K v' w') : xBuiltin Try.prog .append #[37, 37] 37 [false, false] [v, .slice a G.length c] w K := by
  refine xApp (e := 40) (s := 2) (n := F.length) (m := G.length) (xs := F.flatMap fC) (news := G.flatMap fC) (bytes := 24) (z := .agg #[.int .i64 0, .string ⟨#[]⟩]) (by kernel_rfl) (by kernel_rfl) (by rfl) (by decide) hO (fC_len G) hr hn hc (fun u hu => ?_) (by omega) (by omega) fun v' w' h1 h2 => hK v' w' ?_ h2
  · obtain ⟨f, _, hf⟩ := List.mem_flatMap.1 hu
    simp only [fC, List.mem_cons, List.not_mem_nil, or_false] at hf
    rcases hf with rfl | rfl <;> rfl
  · show Own w' 40 2 v' (F ++ G).length ((F ++ G).flatMap fC)
    rw [List.length_append, List.flatMap_append]
    exact h1
theorem wat_drop (l : List (BitVec 64)) (n i : Nat) : wat (l.drop n) i = wat l (n + i) := by
  unfold wat
  simp only [List.getD_eq_getElem?_getD, List.getElem?_drop]
abbrev rsChk5_2 := (And.intro @xBox_r (And.intro @loadK_some (And.intro @loadsK_s (And.intro @loadsK_n (And.intro @loadsR_s (And.intro @loadsR_n (And.intro @storesK_s (And.intro @storesK_n (And.intro @xPick_t (And.intro @xPick_f (And.intro @xGuard_tt (And.intro @xGuard_ff (And.intro @xGuard_tf (And.intro @xGuard_ft (And.intro @xGuard_u 
  (And.intro @xNil_r (And.intro @xIf_t (And.intro @xBin_add' (And.intro @xBin_sub' (And.intro @xBin_mul' (And.intro @xBin_quo' (And.intro @xBin_rem' (And.intro @xIf_f (And.intro @xIf_tt (And.intro @xEx0 (And.intro @xEx1 (And.intro @xEx2 (And.intro @xEx3 (And.intro @xBin_eqs (And.intro @xBin_nes (And.intro @xUn_not (And.intro @xu8_add (And.intro @xu8_mul 
  (And.intro @xu8_com (And.intro @xu8_neq (And.intro @xu8_lss (And.intro @xu8_leq (And.intro @xu16_add (And.intro @xu16_mul (And.intro @xu16_com (And.intro @xu16_neq (And.intro @xu16_lss (And.intro @xu16_leq (And.intro @xu32_add (And.intro @xu32_mul (And.intro @xu32_com (And.intro @xu32_neq (And.intro @xu32_lss (And.intro @xu32_leq (And.intro @xu64_add 
  (And.intro @xu64_mul (And.intro @xu64_com (And.intro @xu64_neq (And.intro @xu64_lss (And.intro @xu64_leq (And.intro @xi64_lss (And.intro @xi64_leq (And.intro @xi64_neq (And.intro @xi64_neg (And.intro @xMakeFunc_r (And.intro @xSq_r (And.intro @xPur_s (And.intro @xRd_s (And.intro @xRe_s (And.intro @xDet_s (And.intro @xDet_ld (And.intro @xDet_ld2 
  (And.intro @xDet_ld3 (And.intro @xDet_ld4 (And.intro @xGuard_tt (And.intro @ld_37 (And.intro @ld_69 (And.intro @fa_96_3 (And.intro @bd_40_0_1 (And.intro @ia_28 (And.intro @ln_28 (And.intro @bs_37_1 (And.intro @sh_28 (And.intro @sl_28 (And.intro @sm_28 @sb_28))))))))))))))))))))))))))))))))))))))))))))))))))))))))))))))))))))))))))))))))
theorem Image_n0 (l : List (BitVec 64)) (a : Option Addr) (c : Nat) (w : World) (h : RowAt w a (wrds l)) (hc : l.length ≤ c) (hl : l.length ≤ 8192) (hn : sizeOk l → nR l = 0) :
    Yld Try.prog n_check_Image #[.slice a l.length c] w fun u w' => ∃ os bad, (sizeOk l → Sc (wat l) l.length 2 os bad) ∧ FndR w w' u (magF l ++ if sizeOk l then allF (wat l) os bad else [(1, sSize)]) := by
  refine check_Image_of ?_
  unfold check_Image
  have j8 : ∀ (v : Value) (w1 : World), Ext [] w w1 → OwnF w1 v (magF l) → (∀ y ∈ blk v, w.heap.size ≤ y) → check_Image_j8 (fun u w' => ∃ os bad, (sizeOk l → Sc (wat l) l.length 2 os bad) ∧ FndR w w' u (magF l ++ if sizeOk l then allF (wat l) os bad else [(1, sSize)])) (.slice a l.length c) v w1 := by
    intro v w1 F1 O1 hv
    have R1 := h.ext0 F1
    have lm : (magF l).length ≤ 1 := by unfold magF; split <;> simp
    unfold check_Image_j8
    refine check_size_call (Gives.to (csize_spec l a c w1 R1 (by omega)) fun w2 F2 => ?_)
    have O2 := O1.ext0 F2
    have R2 := R1.ext0 F2
    obtain ⟨a0, c0, rfl, hc0, _, hn0, hr0, _⟩ := O1.slice
    by_cases hs : sizeOk l
    · have h2 : ¬ l.length < 2 := by have := hs.1; omega
      rw [decide_eq_true hs, if_neg h2, hn hs]
      have hlk := fun (w : World) (R : RowAt w a (wrds l)) => look_spec w (l.drop 2) (if c = 2 then a else a.map (·.add 2)) (c - 2) 2 (by
        have := R.drop 2 c (by simpa using hc)
        rw [← List.map_drop] at this
        exact this) (by rw [List.length_drop]; omega) (by rw [List.length_drop]; omega)
      rw [List.length_drop] at hlk
      simp (disch := (first | omega | decide | (simp only [World.size_alloc, World.size_setCell, World.size_drew, size_sets, List.mem_cons, List.not_mem_nil, or_false, not_false_eq_true] <;> omega) | fail)) only [↓rsChk5_2, rsChk5_1, Option.isNone_some, Option.isNone_none, tick_eq, tickV_eq, ne_eq, Int.reduceAdd, Int.reduceSub, Int.reduceMul, Int.reduceEq, Int.reduceLT, Int.reduceLE, Int.reduceToNat, Nat.reduceMul, Nat.reduceAdd, Nat.reduceSub, List.nil_append, List.cons_append, List.getElem?_toArray, List.getElem?_cons_zero, List.getElem?_cons_succ, List.setIfInBounds_toArray, List.set_cons_zero, List.set_cons_succ, Option.map_some, List.not_mem_nil, ←decide_not, eq_self]
      refine check_look_call (Yld.mono (hlk w2 R2) ?_)
      rintro u w3 ⟨k, r, v, os, bad, rfl, hS, W⟩
      have hS2 : Sc (wat l) l.length 2 os bad := by
        have e1 : 2 + (l.length - 2) = l.length := by omega
        rw [e1] at hS
        exact hS.congr fun i h3 h4 => by rw [wat_drop]; congr 1; omega
      have hall : allF (fun p => wat (l.drop 2) (p - 2)) os bad = allF (wat l) os bad := by
        have e1 : 2 + (l.length - 2) = l.length := by omega
        rw [e1] at hS
        exact allF_congr hS fun i h3 h4 => by rw [wat_drop]; congr 1; omega
      rw [hall] at W
      have lf : (allF (wat l) os bad).length ≤ 100000 := by
        have h1 := hS2.fnd os os.length
        rw [List.take_length] at h1
        have h2 : (badF bad).length ≤ 1 := by cases bad <;> simp [badF]
        unfold allF
        rw [List.length_append]
        omega
      have O3 := O2.ext0 W.ext
      obtain ⟨a3, c3, hv3, hc3, hn3, hr3⟩ := fnd_of W
      have k3 := fun i => W.blk.cell (i := i)
      subst hv3
      simp (disch := (first | omega | decide | (simp only [World.size_alloc, World.size_setCell, World.size_drew, size_sets, List.mem_cons, List.not_mem_nil, or_false, not_false_eq_true] <;> omega) | fail)) only [↓rsChk5_2, rsChk5_1, Option.isNone_some, Option.isNone_none, tick_eq, tickV_eq, ne_eq, Int.reduceAdd, Int.reduceSub, Int.reduceMul, Int.reduceEq, Int.reduceLT, Int.reduceLE, Int.reduceToNat, Nat.reduceMul, Nat.reduceAdd, Nat.reduceSub, List.nil_append, List.cons_append, List.getElem?_toArray, List.getElem?_cons_zero, List.getElem?_cons_succ, List.setIfInBounds_toArray, List.set_cons_zero, List.set_cons_succ, Option.map_some, List.not_mem_nil, ←decide_not, eq_self]
      refine xLoop_n 0 (fun _ => [.string { data := #[] }, i64 2]) (fun _ w' => Ext [] w3 w') rfl (Ext.refl _ _) (fun j hj => by omega) ?_
      intro u w4 hu F4 nxt
      simp only [List.map_cons, List.map_nil, List.cons.injEq, and_true] at hu
      rw [hu.1, hu.2]
      have k4 := fun i => (W.blk.ext F4 (by simp)).cell (i := i)
      unfold check_Image_l2
      simp (disch := (first | omega | decide | (simp only [World.size_alloc, World.size_setCell, World.size_drew, size_sets, List.mem_cons, List.not_mem_nil, or_false, not_false_eq_true] <;> omega) | fail)) only [↓rsChk5_2, rsChk5_1, Option.isNone_some, Option.isNone_none, tick_eq, tickV_eq, ne_eq, Int.reduceAdd, Int.reduceSub, Int.reduceMul, Int.reduceEq, Int.reduceLT, Int.reduceLE, Int.reduceToNat, Nat.reduceMul, Nat.reduceAdd, Nat.reduceSub, List.nil_append, List.cons_append, List.getElem?_toArray, List.getElem?_cons_zero, List.getElem?_cons_succ, List.setIfInBounds_toArray, List.set_cons_zero, List.set_cons_succ, Option.map_some, List.not_mem_nil, ←decide_not, k4]
      refine appFs (O3.ext0 F4) (hr3.ext0 F4) hn3 hc3 (by omega) fun v' w5 O5 F5 => ?_
      have X5 : Ext [] w w5 := (((F1.trans F2).trans W.ext).trans F4).new F5.ext (fun y hy => hv y hy)
      obtain ⟨a6, c6, rfl, hc6, _, hn6, hr6, _⟩ := O5.slice
      refine slices_Clip_check_Finding_check_Finding_call (Gives.to (ClipF_spec hc6) fun w6 F6 => ?_)
      exact ⟨os, bad, fun _ => hS2, X5.trans F6, a6, _, by rw [if_pos hs], by rw [if_pos hs]; exact Nat.le_refl _, fun h => by have := hn6 h; omega, by rw [if_pos hs]; exact hr6.ext0 F6⟩
    · rw [decide_eq_false hs]
      have cS : ({ data := #[115, 105, 122, 101] } : ByteArray) = strOf sSize := by decide +kernel
      simp (disch := (first | omega | decide | (simp only [World.size_alloc, World.size_setCell, World.size_drew, size_sets, List.mem_cons, List.not_mem_nil, or_false, not_false_eq_true] <;> omega) | fail)) only [↓rsChk5_2, rsChk5_1, Option.isNone_some, Option.isNone_none, tick_eq, tickV_eq, ne_eq, Int.reduceAdd, Int.reduceSub, Int.reduceMul, Int.reduceEq, Int.reduceLT, Int.reduceLE, Int.reduceToNat, Nat.reduceMul, Nat.reduceAdd, Nat.reduceSub, List.nil_append, List.cons_append, List.getElem?_toArray, List.getElem?_cons_zero, List.getElem?_cons_succ, List.setIfInBounds_toArray, List.set_cons_zero, List.set_cons_succ, Option.map_some, List.not_mem_nil, ←decide_not, eq_self]
      rw [cS]
      refine appFl O2 (f := (1, sSize)) rfl (by omega) fun v' w3 O3 F3 => ?_
      have X3 : Ext [] w w3 := (F1.trans F2).new F3.ext (fun y hy => hv y hy)
      obtain ⟨a6, c6, rfl, hc6, _, hn6, hr6, _⟩ := O3.slice
      refine slices_Clip_check_Finding_check_Finding_call (Gives.to (ClipF_spec hc6) fun w6 F6 => ?_)
      exact ⟨[], none, fun h => absurd h hs, X3.trans F6, a6, _, by rw [if_neg hs], by rw [if_neg hs]; exact Nat.le_refl _, fun h => by have := hn6 h; omega, by rw [if_neg hs]; exact hr6.ext0 F6⟩
  have cM : ({ data := #[109, 97, 103, 105, 99] } : ByteArray) = strOf sMagic := by decide +kernel
  by_cases hm : l.length < 1
  · have hmg : magF l = [(0, sMagic)] := by unfold magF; rw [if_pos (.inl hm)]
    simp (disch := (first | omega | decide | (simp only [World.size_alloc, World.size_setCell, World.size_drew, size_sets, List.mem_cons, List.not_mem_nil, or_false, not_false_eq_true] <;> omega) | fail)) only [↓rsChk5_2, rsChk5_1, Option.isNone_some, Option.isNone_none, tick_eq, tickV_eq, ne_eq, Int.reduceAdd, Int.reduceSub, Int.reduceMul, Int.reduceEq, Int.reduceLT, Int.reduceLE, Int.reduceToNat, Nat.reduceMul, Nat.reduceAdd, Nat.reduceSub, List.nil_append, List.cons_append, List.getElem?_toArray, List.getElem?_cons_zero, List.getElem?_cons_succ, List.setIfInBounds_toArray, List.set_cons_zero, List.set_cons_succ, Option.map_some, List.not_mem_nil, ←decide_not, eq_self]
    rw [cM]
    refine appFl (F := []) Own.nil (f := (0, sMagic)) rfl (by simp) fun v' w3 O3 F3 => ?_
    exact j8 v' w3 (F3.ext.more (by simp [blk, Value.ownBlock])) (by rw [hmg]; exact O3) (fun y hy => by
      rcases F3.at' y hy with h1 | h1
      · simp [blk, Value.ownBlock] at h1
      · exact h1)
  obtain ⟨b1, o1, rfl, z1, k1⟩ := row_w h (i := 0) (by omega)
  have k1' : w.cell? ⟨b1, o1, none⟩ = some (u64 (wat l 0)) := k1
  by_cases hm2 : wat l 0 = BitVec.ofNat 64 1296125772
  · have hmg : magF l = [] := by unfold magF; rw [if_neg]; rintro (h1 | h1); exact hm h1; exact h1 hm2
    simp (disch := (first | omega | decide | (simp only [World.size_alloc, World.size_setCell, World.size_drew, size_sets, List.mem_cons, List.not_mem_nil, or_false, not_false_eq_true] <;> omega) | fail)) only [↓rsChk5_2, rsChk5_1, Option.isNone_some, Option.isNone_none, tick_eq, tickV_eq, ne_eq, Int.reduceAdd, Int.reduceSub, Int.reduceMul, Int.reduceEq, Int.reduceLT, Int.reduceLE, Int.reduceToNat, Nat.reduceMul, Nat.reduceAdd, Nat.reduceSub, List.nil_append, List.cons_append, List.getElem?_toArray, List.getElem?_cons_zero, List.getElem?_cons_succ, List.setIfInBounds_toArray, List.set_cons_zero, List.set_cons_succ, Option.map_some, List.not_mem_nil, ←decide_not, k1', hm2]
    exact j8 _ w (Ext.refl _ _) (by rw [hmg]; exact Own.nil) (by simp [blk, Value.ownBlock])
  · have hmg : magF l = [(0, sMagic)] := by unfold magF; rw [if_pos (.inr hm2)]
    simp (disch := (first | omega | decide | (simp only [World.size_alloc, World.size_setCell, World.size_drew, size_sets, List.mem_cons, List.not_mem_nil, or_false, not_false_eq_true] <;> omega) | fail)) only [↓rsChk5_2, rsChk5_1, Option.isNone_some, Option.isNone_none, tick_eq, tickV_eq, ne_eq, Int.reduceAdd, Int.reduceSub, Int.reduceMul, Int.reduceEq, Int.reduceLT, Int.reduceLE, Int.reduceToNat, Nat.reduceMul, Nat.reduceAdd, Nat.reduceSub, List.nil_append, List.cons_append, List.getElem?_toArray, List.getElem?_cons_zero, List.getElem?_cons_succ, List.setIfInBounds_toArray, List.set_cons_zero, List.set_cons_succ, Option.map_some, List.not_mem_nil, ←decide_not, k1', decide_eq_true hm2]
    rw [cM]
    refine appFl (F := []) Own.nil (f := (0, sMagic)) rfl (by simp) fun v' w3 O3 F3 => ?_
    exact j8 v' w3 (F3.ext.more (by simp [blk, Value.ownBlock])) (by rw [hmg]; exact O3) (fun y hy => by
      rcases F3.at' y hy with h1 | h1
      · simp [blk, Value.ownBlock] at h1
      · exact h1)
theorem fnd_at {w : World} {a : Option Addr} {F : List Fnd} (h : RowAt w a (F.flatMap fC)) {k : Nat} (hk : k < F.length) : ∃ b o, a = some ⟨b, o, none⟩ ∧ b < w.heap.size ∧ w.cell? ⟨b, o + k * 2, none⟩ = some (i64 (F[k].1 : Int)) ∧ w.cell? ⟨b, o + k * 2 + 1, none⟩ = some (.string (strOf F[k].2)) := by
  have hc : ∀ (l : List Fnd) (k : Nat) (h : k < l.length) (j : Nat), j < 2 → (l.flatMap fC)[k * 2 + j]? = (fC l[k])[j]? := by
    intro l
    induction l with
    | nil => intro k h; simp at h
    | cons x l ih =>
      intro k h j hj
      rw [List.flatMap_cons]
      cases k with
      | zero => rw [List.getElem?_append_left (by simp [fC]; omega)]; simp
      | succ k =>
        rw [List.getElem?_append_right (by simp [fC]; omega), show (k + 1) * 2 + j - (fC x).length = k * 2 + j by simp [fC]; omega]
        simpa using ih k (by simpa using h) j hj
  obtain ⟨b, o, rfl, hb, hcc⟩ := h.get (by intro e; have := congrArg List.length e; rw [fC_len] at this; simp only [List.length_nil] at this; omega)
  refine ⟨b, o, rfl, hb, ?_, ?_⟩
  · have := hcc (k * 2 + 0) _ ((hc F k hk 0 (by omega)).trans rfl); simpa using this
  · have := hcc (k * 2 + 1) _ ((hc F k hk 1 (by omega)).trans rfl); rw [Nat.add_assoc]; exact this
abbrev rsChk5_3 := (And.intro @xBox_r (And.intro @loadK_some (And.intro @loadsK_s (And.intro @loadsK_n (And.intro @loadsR_s (And.intro @loadsR_n (And.intro @storesK_s (And.intro @storesK_n (And.intro @xPick_t (And.intro @xPick_f (And.intro @xGuard_tt (And.intro @xGuard_ff (And.intro @xGuard_tf (And.intro @xGuard_ft (And.intro @xGuard_u 
  (And.intro @xNil_r (And.intro @xIf_t (And.intro @xBin_add' (And.intro @xBin_sub' (And.intro @xBin_mul' (And.intro @xBin_quo' (And.intro @xBin_rem' (And.intro @xIf_f (And.intro @xIf_tt (And.intro @xEx0 (And.intro @xEx1 (And.intro @xEx2 (And.intro @xEx3 (And.intro @xBin_eqs (And.intro @xBin_nes (And.intro @xUn_not (And.intro @xu8_add (And.intro @xu8_neq 
  (And.intro @xu8_lss (And.intro @xu16_add (And.intro @xu16_neq (And.intro @xu16_lss (And.intro @xu32_add (And.intro @xu32_neq (And.intro @xu32_lss (And.intro @xu64_add (And.intro @xu64_neq (And.intro @xu64_lss (And.intro @xi64_lss (And.intro @xi64_neq (And.intro @xi64_neg (And.intro @xMakeFunc_r (And.intro @xSq_r (And.intro @xPur_s (And.intro @xRd_s 
  (And.intro @xRe_s (And.intro @xDet_s (And.intro @xDet_ld (And.intro @xDet_ld2 (And.intro @xDet_ld3 (And.intro @xDet_ld4 (And.intro @xGuard_tt (And.intro @ld_3 (And.intro @ld_9 (And.intro @fa_40_0 (And.intro @fa_40_1 (And.intro @fa_105_0 (And.intro @fa_105_1 (And.intro @ia_37 (And.intro @ia_49 (And.intro @ln_37 @ln_49))))))))))))))))))))))))))))))))))))))))))))))))))))))))))))))))))
theorem same26_spec {w : World} {F : List Fnd} {a a' : Option Addr} {c c' : Nat} (h : RowAt w a (F.flatMap fC)) (h' : RowAt w a' (F.flatMap fC)) (hl : F.length ≤ 1000000) : Gives Try.prog n_loamlaw26_same #[.slice a F.length c, .slice a' F.length c'] w (.bool true) := by
  refine loamlaw26_same_of ?_
  unfold loamlaw26_same
  simp (disch := (first | omega | decide | (simp only [World.size_alloc, World.size_setCell, World.size_drew, size_sets, List.mem_cons, List.not_mem_nil, or_false, not_false_eq_true] <;> omega) | fail)) only [↓rsChk5_3, rsChk5_1, Option.isNone_some, Option.isNone_none, tick_eq, tickV_eq, ne_eq, Int.reduceAdd, Int.reduceSub, Int.reduceMul, Int.reduceEq, Int.reduceLT, Int.reduceLE, Int.reduceToNat, Nat.reduceMul, Nat.reduceAdd, Nat.reduceSub, List.nil_append, List.cons_append, List.getElem?_toArray, List.getElem?_cons_zero, List.getElem?_cons_succ, List.setIfInBounds_toArray, List.set_cons_zero, List.set_cons_succ, Option.map_some, List.not_mem_nil, ←decide_not, eq_self]
  refine xLoop_n F.length (fun j => [i64 (j : Int)]) (fun _ w' => Ext [] w w') rfl (Ext.refl _ _) ?_ ?_
  · intro j hj u v1 hu F1 nxt hnx
    simp only [List.map_cons, List.map_nil, List.cons.injEq, and_true] at hu
    rw [hu]
    obtain ⟨b1, o1, rfl, z1, k1, k2⟩ := fnd_at ((h.ext0 F1).ext0 (Ext.drew [] v1)) hj
    obtain ⟨b3, o3, rfl, z3, k3, k4⟩ := fnd_at ((h'.ext0 F1).ext0 (Ext.drew [] v1)) hj
    have dne : decide (strOf F[j].2 ≠ strOf F[j].2) = false := decide_eq_false (fun h => h rfl)
    unfold loamlaw26_same_l1
    simp (disch := (first | omega | decide | (simp only [World.size_alloc, World.size_setCell, World.size_drew, size_sets, List.mem_cons, List.not_mem_nil, or_false, not_false_eq_true] <;> omega) | fail)) only [↓rsChk5_3, rsChk5_1, Option.isNone_some, Option.isNone_none, tick_eq, tickV_eq, ne_eq, Int.reduceAdd, Int.reduceSub, Int.reduceMul, Int.reduceEq, Int.reduceLT, Int.reduceLE, Int.reduceToNat, Nat.reduceMul, Nat.reduceAdd, Nat.reduceSub, List.nil_append, List.cons_append, List.getElem?_toArray, List.getElem?_cons_zero, List.getElem?_cons_succ, List.setIfInBounds_toArray, List.set_cons_zero, List.set_cons_succ, Option.map_some, List.not_mem_nil, ←decide_not, k1, k2, k3, k4, dne]
    exact hnx _ (F1.trans (Ext.drew _ _))
  · intro u v1 hu F1 nxt
    simp only [List.map_cons, List.map_nil, List.cons.injEq, and_true] at hu
    rw [hu]
    unfold loamlaw26_same_l1
    simp (disch := (first | omega | decide | (simp only [World.size_alloc, World.size_setCell, World.size_drew, size_sets, List.mem_cons, List.not_mem_nil, or_false, not_false_eq_true] <;> omega) | fail)) only [↓rsChk5_3, rsChk5_1, Option.isNone_some, Option.isNone_none, tick_eq, tickV_eq, ne_eq, Int.reduceAdd, Int.reduceSub, Int.reduceMul, Int.reduceEq, Int.reduceLT, Int.reduceLE, Int.reduceToNat, Nat.reduceMul, Nat.reduceAdd, Nat.reduceSub, List.nil_append, List.cons_append, List.getElem?_toArray, List.getElem?_cons_zero, List.getElem?_cons_succ, List.setIfInBounds_toArray, List.set_cons_zero, List.set_cons_succ, Option.map_some, List.not_mem_nil, ←decide_not, eq_self]
    exact ⟨by trivial, F1⟩
end Go.Proofs.Ytdpmidgeipibbaa
