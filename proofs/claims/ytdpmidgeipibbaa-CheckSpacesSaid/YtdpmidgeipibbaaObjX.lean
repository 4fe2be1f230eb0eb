/- The document's word on whether objects are well (sq). -/
import Derived.Test.YtdpmidgeipibbaaObjO
import Derived.Test.YtdpmidgeipibbaaSpc3
import Derived.Test.YtdpmidgeipibbaaMem5
set_option linter.unusedVariables false
set_option linter.unusedSimpArgs false
set_option maxHeartbeats 4000000
namespace Go.Proofs.Ytdpmidgeipibbaa
open Go.Sh Go.RowKit

abbrev rsObjX_0 := (And.intro @xBox_r (And.intro @loadK_some (And.intro @loadsK_s (And.intro @loadsK_n (And.intro @loadsR_s (And.intro @loadsR_n (And.intro @storesK_s (And.intro @storesK_n (And.intro @xPick_t (And.intro @xPick_f (And.intro @xGuard_tt (And.intro @xGuard_ff (And.intro @xGuard_tf (And.intro @xGuard_ft (And.intro @xGuard_u 
  (And.intro @xNil_r (And.intro @xIf_t (And.intro @xBin_add' (And.intro @xBin_sub' (And.intro @xBin_mul' (And.intro @xBin_quo' (And.intro @xBin_rem' (And.intro @xIf_f (And.intro @xIf_tt (And.intro @xEx0 (And.intro @xEx1 (And.intro @xEx2 (And.intro @xEx3 (And.intro @xBin_eqs (And.intro @xBin_nes (And.intro @xUn_not (And.intro @xu8_add (And.intro @xu8_eql 
  (And.intro @xu8_lss (And.intro @xu16_add (And.intro @xu16_eql (And.intro @xu16_lss (And.intro @xu32_add (And.intro @xu32_eql (And.intro @xu32_lss (And.intro @xu64_add (And.intro @xu64_eql (And.intro @xu64_lss (And.intro @xi64_lss (And.intro @xi64_eql (And.intro @xMakeFunc_r (And.intro @xSq_r (And.intro @xPur_s (And.intro @xRd_s (And.intro @xRe_s 
  (And.intro @xDet_s (And.intro @xDet_ld (And.intro @xDet_ld2 (And.intro @xDet_ld3 (And.intro @xDet_ld4 (And.intro @xGuard_tt (And.intro @ld_3 (And.intro @ia_66 @ln_66))))))))))))))))))))))))))))))))))))))))))))))))))))))))))
abbrev rsObjX_1 := (And.intro @setCells_c (And.intro @setCells_n (And.intro @World.setCell_alloc_at (And.intro @World.setCell_alloc_past (And.intro @World.cell?_alloc_at (And.intro @World.cell?_alloc_past (And.intro @World.frozen?_alloc_at (And.intro @World.frozen?_alloc_past 
  (And.intro @World.size_alloc (And.intro @dlt_t (And.intro @dlt_f (And.intro @dle_t (And.intro @dle_f (And.intro @deq_t (And.intro @deq_f (And.intro @dne_t (And.intro @dne_f (And.intro @not_true_eq_false (And.intro @Bool.false_and (And.intro @Bool.true_and (And.intro @Bool.and_true (And.intro @Bool.and_false (And.intro @wrap_in (And.intro @Int.toNat_natCast 
  (And.intro @Nat.mul_one (And.intro @cells_int (And.intro @cells_bool (And.intro @cells_string (And.intro @cells_slice (And.intro @cells_pointer (And.intro @cells_agg (And.intro @one_int (And.intro @one_bool (And.intro @one_string (And.intro @one_slice (And.intro @one_pointer (And.intro @beq_tt (And.intro @beq_ff (And.intro @beq_tf 
  (And.intro @beq_ft (And.intro @cell_sets_b (And.intro @frozen_sets (And.intro @size_sets (And.intro @World.size_drew (And.intro @Nat.zero_add (And.intro @Nat.add_zero (And.intro @cell_drew (And.intro @frozen_drew (And.intro @cell_set_eq (And.intro @cell_set_o (And.intro @cell_set_b (And.intro @World.frozen?_setCell 
  (And.intro @decide_true (And.intro @decide_false (And.intro @not_false_eq_true (And.intro @Bool.not_true @Bool.not_false))))))))))))))))))))))))))))))))))))))))))))))))))))))))
theorem rAmong_spec {w : World} {l : List Nat} {a : Option Addr} {c : Nat} (h : RowAt w a (nums l)) (hl : l.length ≤ 1000000) (x : Nat) : Gives Try.prog n_loamref14_among #[.slice a l.length c, i64 (x : Int)] w (.bool (decide (x ∈ l))) := by
  refine loamref14_among_of ?_
  unfold loamref14_among
  simp (disch := (first | omega | decide | (simp only [World.size_alloc, World.size_setCell, World.size_drew, size_sets, List.mem_cons, List.not_mem_nil, or_false, not_false_eq_true] <;> omega) | fail)) only [↓rsObjX_0, rsObjX_1, Option.isNone_some, Option.isNone_none, tick_eq, tickV_eq, ne_eq, Int.reduceAdd, Int.reduceSub, Int.reduceMul, Int.reduceEq, Int.reduceLT, Int.reduceLE, Int.reduceToNat, Nat.reduceMul, Nat.reduceAdd, Nat.reduceSub, List.nil_append, List.cons_append, List.getElem?_toArray, List.getElem?_cons_zero, List.getElem?_cons_succ, List.setIfInBounds_toArray, List.set_cons_zero, List.set_cons_succ, Option.map_some, List.not_mem_nil, ←decide_not, eq_self]
  refine xLoop_n l.length (fun j => [i64 (j : Int)]) (fun j w' => Ext [] w w' ∧ ∀ i (hi : i < l.length), i < j → l[i] ≠ x) rfl ⟨Ext.refl _ _, by intro i _ hi; omega⟩ ?_ ?_
  · intro j hj u v1 hu ⟨F, hq⟩ nxt hnx
    simp only [List.map_cons, List.map_nil, List.cons.injEq, and_true] at hu
    rw [hu]
    obtain ⟨b1, o1, rfl, z1, k1⟩ := (h.ext0 F).at (i := j) (by simpa using hj)
    simp only [List.getElem_map] at k1
    have hm := List.getElem_mem hj
    unfold loamref14_among_l1
    by_cases he : l[j] = x
    · rw [he] at k1 hm
      simp (disch := (first | omega | decide | (simp only [World.size_alloc, World.size_setCell, World.size_drew, size_sets, List.mem_cons, List.not_mem_nil, or_false, not_false_eq_true] <;> omega) | fail)) only [↓rsObjX_0, rsObjX_1, Option.isNone_some, Option.isNone_none, tick_eq, tickV_eq, ne_eq, Int.reduceAdd, Int.reduceSub, Int.reduceMul, Int.reduceEq, Int.reduceLT, Int.reduceLE, Int.reduceToNat, Nat.reduceMul, Nat.reduceAdd, Nat.reduceSub, List.nil_append, List.cons_append, List.getElem?_toArray, List.getElem?_cons_zero, List.getElem?_cons_succ, List.setIfInBounds_toArray, List.set_cons_zero, List.set_cons_succ, Option.map_some, List.not_mem_nil, ←decide_not, k1]
      exact ⟨by rw [decide_eq_true hm], F⟩
    · generalize hy : l[j] = y at *
      simp (disch := (first | omega | decide | (simp only [World.size_alloc, World.size_setCell, World.size_drew, size_sets, List.mem_cons, List.not_mem_nil, or_false, not_false_eq_true] <;> omega) | fail)) only [↓rsObjX_0, rsObjX_1, Option.isNone_some, Option.isNone_none, tick_eq, tickV_eq, ne_eq, Int.reduceAdd, Int.reduceSub, Int.reduceMul, Int.reduceEq, Int.reduceLT, Int.reduceLE, Int.reduceToNat, Nat.reduceMul, Nat.reduceAdd, Nat.reduceSub, List.nil_append, List.cons_append, List.getElem?_toArray, List.getElem?_cons_zero, List.getElem?_cons_succ, List.setIfInBounds_toArray, List.set_cons_zero, List.set_cons_succ, Option.map_some, List.not_mem_nil, ←decide_not, k1]
      refine hnx _ ⟨F, fun i hi hij => ?_⟩
      by_cases e : i = j
      · subst e; rw [hy]; exact he
      · exact hq i hi (by omega)
  · intro u v1 hu ⟨F, hq⟩ nxt
    simp only [List.map_cons, List.map_nil, List.cons.injEq, and_true] at hu
    rw [hu]
    have hm : ¬ x ∈ l := fun hx => by
      obtain ⟨i, hi, he⟩ := List.getElem_of_mem hx
      exact hq i hi hi he
    unfold loamref14_among_l1
    simp (disch := (first | omega | decide | (simp only [World.size_alloc, World.size_setCell, World.size_drew, size_sets, List.mem_cons, List.not_mem_nil, or_false, not_false_eq_true] <;> omega) | fail)) only [↓rsObjX_0, rsObjX_1, Option.isNone_some, Option.isNone_none, tick_eq, tickV_eq, ne_eq, Int.reduceAdd, Int.reduceSub, Int.reduceMul, Int.reduceEq, Int.reduceLT, Int.reduceLE, Int.reduceToNat, Nat.reduceMul, Nat.reduceAdd, Nat.reduceSub, List.nil_append, List.cons_append, List.getElem?_toArray, List.getElem?_cons_zero, List.getElem?_cons_succ, List.setIfInBounds_toArray, List.set_cons_zero, List.set_cons_succ, Option.map_some, List.not_mem_nil, ←decide_not, eq_self]
    exact ⟨by rw [decide_eq_false hm], F⟩
abbrev rsObjX_2 := (And.intro @xBox_r (And.intro @loadK_some (And.intro @loadsK_s (And.intro @loadsK_n (And.intro @loadsR_s (And.intro @loadsR_n (And.intro @storesK_s (And.intro @storesK_n (And.intro @xPick_t (And.intro @xPick_f (And.intro @xGuard_tt (And.intro @xGuard_ff (And.intro @xGuard_tf (And.intro @xGuard_ft (And.intro @xGuard_u 
  (And.intro @xNil_r (And.intro @xIf_t (And.intro @xBin_add' (And.intro @xBin_sub' (And.intro @xBin_mul' (And.intro @xBin_quo' (And.intro @xBin_rem' (And.intro @xIf_f (And.intro @xIf_tt (And.intro @xEx0 (And.intro @xEx1 (And.intro @xEx2 (And.intro @xEx3 (And.intro @xBin_eqs (And.intro @xBin_nes (And.intro @xUn_not (And.intro @xu8_sub (And.intro @xu8_eql 
  (And.intro @xu8_lss (And.intro @xu16_sub (And.intro @xu16_eql (And.intro @xu16_lss (And.intro @xu32_sub (And.intro @xu32_eql (And.intro @xu32_lss (And.intro @xu64_sub (And.intro @xu64_eql (And.intro @xu64_lss (And.intro @xi64_lss (And.intro @xi64_eql (And.intro @xMakeFunc_r (And.intro @xSq_r (And.intro @xPur_s (And.intro @xRd_s (And.intro @xRe_s 
  (And.intro @xDet_s (And.intro @xDet_ld (And.intro @xDet_ld2 (And.intro @xDet_ld3 (And.intro @xDet_ld4 (And.intro @xGuard_tt @cv_69_3))))))))))))))))))))))))))))))))))))))))))))))))))))))))
theorem rPoints_spec {w : World} {l : List Nat} {a : Option Addr} {c : Nat} (h : RowAt w a (nums l)) (hl : l.length ≤ 1000000) (hb : ∀ y ∈ l, y < 8192) (x : BitVec 64) : Gives Try.prog n_loamref14_Points #[.slice a l.length c, u64 x] w (.bool (decide (PtrOk l x.toNat))) := by
  have hx := x.isLt
  refine loamref14_Points_of ?_
  unfold loamref14_Points
  by_cases h0 : x.toNat = 0
  · have hx0 : x = BitVec.ofNat 64 0 := BitVec.eq_of_toNat_eq h0
    subst hx0
    simp (disch := (first | omega | decide | (simp only [World.size_alloc, World.size_setCell, World.size_drew, size_sets, List.mem_cons, List.not_mem_nil, or_false, not_false_eq_true] <;> omega) | fail)) only [↓rsObjX_2, rsObjX_1, Option.isNone_some, Option.isNone_none, tick_eq, tickV_eq, ne_eq, Int.reduceAdd, Int.reduceSub, Int.reduceMul, Int.reduceEq, Int.reduceLT, Int.reduceLE, Int.reduceToNat, Nat.reduceMul, Nat.reduceAdd, Nat.reduceSub, List.nil_append, List.cons_append, List.getElem?_toArray, List.getElem?_cons_zero, List.getElem?_cons_succ, List.setIfInBounds_toArray, List.set_cons_zero, List.set_cons_succ, Option.map_some, List.not_mem_nil, ←decide_not, eq_self]
    exact ⟨by rw [decide_eq_true (.inl rfl)], Ext.refl _ _⟩
  have hne : x ≠ BitVec.ofNat 64 0 := fun h => h0 (by rw [h]; rfl)
  have hs : (x - BitVec.ofNat 64 1).toNat = x.toNat - 1 := by
    rw [BitVec.toNat_sub]
    have : (BitVec.ofNat 64 1).toNat = 1 := by decide
    omega
  have h30 : (BitVec.ofNat 64 1073741824).toNat = 1073741824 := by decide
  by_cases h1 : x.toNat - 1 < 1073741824
  · have hlt : decide ((x - BitVec.ofNat 64 1).toNat < (BitVec.ofNat 64 1073741824).toNat) = true := decide_eq_true (by omega)
    have hi : (x - BitVec.ofNat 64 1).toInt = ((x.toNat - 1 : Nat) : Int) := by rw [BitVec.toInt_eq_toNat_of_lt (by omega), hs]
    simp (disch := (first | omega | decide | (simp only [World.size_alloc, World.size_setCell, World.size_drew, size_sets, List.mem_cons, List.not_mem_nil, or_false, not_false_eq_true] <;> omega) | fail)) only [↓rsObjX_2, rsObjX_1, Option.isNone_some, Option.isNone_none, tick_eq, tickV_eq, ne_eq, Int.reduceAdd, Int.reduceSub, Int.reduceMul, Int.reduceEq, Int.reduceLT, Int.reduceLE, Int.reduceToNat, Nat.reduceMul, Nat.reduceAdd, Nat.reduceSub, List.nil_append, List.cons_append, List.getElem?_toArray, List.getElem?_cons_zero, List.getElem?_cons_succ, List.setIfInBounds_toArray, List.set_cons_zero, List.set_cons_succ, Option.map_some, List.not_mem_nil, ←decide_not, decide_eq_false hne, hlt, hi]
    refine loamref14_among_call (Gives.to (rAmong_spec h hl _) fun w1 F1 => ?_)
    simp (disch := (first | omega | decide | (simp only [World.size_alloc, World.size_setCell, World.size_drew, size_sets, List.mem_cons, List.not_mem_nil, or_false, not_false_eq_true] <;> omega) | fail)) only [↓rsObjX_2, rsObjX_1, Option.isNone_some, Option.isNone_none, tick_eq, tickV_eq, ne_eq, Int.reduceAdd, Int.reduceSub, Int.reduceMul, Int.reduceEq, Int.reduceLT, Int.reduceLE, Int.reduceToNat, Nat.reduceMul, Nat.reduceAdd, Nat.reduceSub, List.nil_append, List.cons_append, List.getElem?_toArray, List.getElem?_cons_zero, List.getElem?_cons_succ, List.setIfInBounds_toArray, List.set_cons_zero, List.set_cons_succ, Option.map_some, List.not_mem_nil, ←decide_not, decide_eq_false hne, hlt, hi]
    refine ⟨?_, F1⟩
    congr 1
    rw [decide_eq_decide]
    constructor
    · intro hm
      have := hb _ hm
      exact .inr ⟨by omega, by omega, hm⟩
    · rintro (h | ⟨_, _, h⟩)
      · exact absurd h h0
      · exact h
  · have hlt : decide ((x - BitVec.ofNat 64 1).toNat < (BitVec.ofNat 64 1073741824).toNat) = false := decide_eq_false (by omega)
    have hp : ¬ PtrOk l x.toNat := by
      rintro (h | ⟨h, _, _⟩)
      · exact h0 h
      · omega
    simp (disch := (first | omega | decide | (simp only [World.size_alloc, World.size_setCell, World.size_drew, size_sets, List.mem_cons, List.not_mem_nil, or_false, not_false_eq_true] <;> omega) | fail)) only [↓rsObjX_2, rsObjX_1, Option.isNone_some, Option.isNone_none, tick_eq, tickV_eq, ne_eq, Int.reduceAdd, Int.reduceSub, Int.reduceMul, Int.reduceEq, Int.reduceLT, Int.reduceLE, Int.reduceToNat, Nat.reduceMul, Nat.reduceAdd, Nat.reduceSub, List.nil_append, List.cons_append, List.getElem?_toArray, List.getElem?_cons_zero, List.getElem?_cons_succ, List.setIfInBounds_toArray, List.set_cons_zero, List.set_cons_succ, Option.map_some, List.not_mem_nil, ←decide_not, decide_eq_false hne, hlt]
    exact ⟨by rw [decide_eq_false hp], Ext.refl _ _⟩
section
variable {w : World} {m : Nat} {r : Option Addr} {c : Nat} {ws : List (BitVec 64)} {b t e : Nat}
abbrev rsObjX_3 := (And.intro @xBox_r (And.intro @loadK_some (And.intro @loadsK_s (And.intro @loadsK_n (And.intro @loadsR_s (And.intro @loadsR_n (And.intro @storesK_s (And.intro @storesK_n (And.intro @xPick_t (And.intro @xPick_f (And.intro @xGuard_tt (And.intro @xGuard_ff (And.intro @xGuard_tf (And.intro @xGuard_ft (And.intro @xGuard_u 
  (And.intro @xNil_r (And.intro @xIf_t (And.intro @xBin_add' (And.intro @xBin_sub' (And.intro @xBin_mul' (And.intro @xBin_quo' (And.intro @xBin_rem' (And.intro @xIf_f (And.intro @xIf_tt (And.intro @xEx0 (And.intro @xEx1 (And.intro @xEx2 (And.intro @xEx3 (And.intro @xBin_eqs (And.intro @xBin_nes (And.intro @xUn_not (And.intro @xu8_add (And.intro @xu8_mul 
  (And.intro @xu8_neq (And.intro @xu8_lss (And.intro @xu16_add (And.intro @xu16_mul (And.intro @xu16_neq (And.intro @xu16_lss (And.intro @xu32_add (And.intro @xu32_mul (And.intro @xu32_neq (And.intro @xu32_lss (And.intro @xu64_add (And.intro @xu64_mul (And.intro @xu64_neq (And.intro @xu64_lss (And.intro @xi64_lss (And.intro @xi64_neq (And.intro @xi64_neg 
  (And.intro @xMakeFunc_r (And.intro @xSq_r (And.intro @xPur_s (And.intro @xRd_s (And.intro @xRe_s (And.intro @xDet_s (And.intro @xDet_ld (And.intro @xDet_ld2 (And.intro @xDet_ld3 (And.intro @xDet_ld4 (And.intro @xGuard_tt (And.intro @ld_3 (And.intro @ld_28 (And.intro @ld_84 (And.intro @fa_46_0 (And.intro @fa_84_0 @fa_84_1))))))))))))))))))))))))))))))))))))))))))))))))))))))))))))))))))
theorem rPad_spec {o : Nat} (S : RfIs w m r c ws b t e) (hO : ObjAt ws b t o) : Yld Try.prog n_loamref14_Space_Pad #[ptr m, i64 (o : Int), hd (pN (wat ws o)) (bN (wat ws o)) false 0] w fun u w' => (∃ k : Bool, u = .bool k ∧ (k = true ↔ ¬ PadW ws o)) ∧ Ext [] w w' := by
  obtain ⟨v1, v2, v3, v4, v5, v6, v7, v8⟩ := okW_v hO.ok
  have q2 := S.te
  have q3 := S.el
  have q4 := S.len
  have hhi := hO.hi
  have hsz : ∀ w, Gives Try.prog n_loamref14_Size #[hd (pN (wat ws o)) (bN (wat ws o)) false 0] w (i64 (szW (wat ws o) : Int)) := fun w => by
    have := rSizeW_spec hO.ok w
    rw [v1, v2, v4] at this
    exact this
  refine loamref14_Space_Pad_of ?_
  unfold loamref14_Space_Pad
  simp (disch := (first | omega | decide | (simp only [World.size_alloc, World.size_setCell, World.size_drew, size_sets, List.mem_cons, List.not_mem_nil, or_false, not_false_eq_true] <;> omega) | fail)) only [↓rsObjX_3, rsObjX_1, Option.isNone_some, Option.isNone_none, tick_eq, tickV_eq, ne_eq, Int.reduceAdd, Int.reduceSub, Int.reduceMul, Int.reduceEq, Int.reduceLT, Int.reduceLE, Int.reduceToNat, Nat.reduceMul, Nat.reduceAdd, Nat.reduceSub, List.nil_append, List.cons_append, List.getElem?_toArray, List.getElem?_cons_zero, List.getElem?_cons_succ, List.setIfInBounds_toArray, List.set_cons_zero, List.set_cons_succ, Option.map_some, List.not_mem_nil, ←decide_not, eq_self]
  have B : Blk (w.alloc (.cells #[i64 (pN (wat ws o)), i64 (bN (wat ws o)), .bool false, i64 0] 84)) w.heap.size 84 [i64 (pN (wat ws o)), i64 (bN (wat ws o)), .bool false, i64 0] := Blk.at rfl
  have X : Ext [] w (w.alloc (.cells #[i64 (pN (wat ws o)), i64 (bN (wat ws o)), .bool false, i64 0] 84)) := Ext.alloc _ _ _
  generalize w.alloc (.cells #[i64 (pN (wat ws o)), i64 (bN (wat ws o)), .bool false, i64 0] 84) = y at *
  have e0 : 8 * ((o : Int) + 1 + (pN (wat ws o) : Int)) + (bN (wat ws o) : Int) = (((o + 1 + pN (wat ws o)) * 8 + bN (wat ws o) + 0 : Nat) : Int) := by omega
  rw [e0]
  refine xLoop_n ((o + szW (wat ws o)) * 8 - ((o + 1 + pN (wat ws o)) * 8 + bN (wat ws o))) (fun j => [i64 (((o + 1 + pN (wat ws o)) * 8 + bN (wat ws o) + j : Nat) : Int)]) (fun j w' => Ext [] y w' ∧ ∀ i, (o + 1 + pN (wat ws o)) * 8 + bN (wat ws o) ≤ i → i < (o + 1 + pN (wat ws o)) * 8 + bN (wat ws o) + j → byteW ws i = BitVec.ofNat 8 0) rfl ⟨Ext.refl _ _, by intro i _ _; omega⟩ ?_ ?_
  · intro j hj u v1 hu ⟨F, hq⟩ nxt hnx
    simp only [List.map_cons, List.map_nil, List.cons.injEq, and_true] at hu
    rw [hu]
    generalize hA : (o + 1 + pN (wat ws o)) * 8 + bN (wat ws o) = A at *
    have kb := fun i => (B.ext F (by simp)).cell (i := i)
    unfold loamref14_Space_Pad_l1
    simp (disch := (first | omega | decide | (simp only [World.size_alloc, World.size_setCell, World.size_drew, size_sets, List.mem_cons, List.not_mem_nil, or_false, not_false_eq_true] <;> omega) | fail)) only [↓rsObjX_3, rsObjX_1, Option.isNone_some, Option.isNone_none, tick_eq, tickV_eq, ne_eq, Int.reduceAdd, Int.reduceSub, Int.reduceMul, Int.reduceEq, Int.reduceLT, Int.reduceLE, Int.reduceToNat, Nat.reduceMul, Nat.reduceAdd, Nat.reduceSub, List.nil_append, List.cons_append, List.getElem?_toArray, List.getElem?_cons_zero, List.getElem?_cons_succ, List.setIfInBounds_toArray, List.set_cons_zero, List.set_cons_succ, Option.map_some, List.not_mem_nil, ←decide_not, kb]
    refine loamref14_Size_call (Gives.to (hsz _) fun w2 F2 => ?_)
    have S2 := S.ext0 (X.trans (F.trans F2))
    have k2 := fun i => S2.blk.cell (i := i)
    simp (disch := (first | omega | decide | (simp only [World.size_alloc, World.size_setCell, World.size_drew, size_sets, List.mem_cons, List.not_mem_nil, or_false, not_false_eq_true] <;> omega) | fail)) only [↓rsObjX_3, rsObjX_1, Option.isNone_some, Option.isNone_none, tick_eq, tickV_eq, ne_eq, Int.reduceAdd, Int.reduceSub, Int.reduceMul, Int.reduceEq, Int.reduceLT, Int.reduceLE, Int.reduceToNat, Nat.reduceMul, Nat.reduceAdd, Nat.reduceSub, List.nil_append, List.cons_append, List.getElem?_toArray, List.getElem?_cons_zero, List.getElem?_cons_succ, List.setIfInBounds_toArray, List.set_cons_zero, List.set_cons_succ, Option.map_some, List.not_mem_nil, ←decide_not, kb, k2]
    refine loamref14_byteAt_call (Gives.to (rByteAt_spec ws r c (A + j) S2.row (by omega) (by omega)) fun w3 F3 => ?_)
    have X3 := F.trans (F2.trans F3)
    by_cases hz : byteW ws (A + j) = BitVec.ofNat 8 0
    · rw [hz]
      simp (disch := (first | omega | decide | (simp only [World.size_alloc, World.size_setCell, World.size_drew, size_sets, List.mem_cons, List.not_mem_nil, or_false, not_false_eq_true] <;> omega) | fail)) only [↓rsObjX_3, rsObjX_1, Option.isNone_some, Option.isNone_none, tick_eq, tickV_eq, ne_eq, Int.reduceAdd, Int.reduceSub, Int.reduceMul, Int.reduceEq, Int.reduceLT, Int.reduceLE, Int.reduceToNat, Nat.reduceMul, Nat.reduceAdd, Nat.reduceSub, List.nil_append, List.cons_append, List.getElem?_toArray, List.getElem?_cons_zero, List.getElem?_cons_succ, List.setIfInBounds_toArray, List.set_cons_zero, List.set_cons_succ, Option.map_some, List.not_mem_nil, ←decide_not, kb, k2]
      have e2 : ((A + j : Nat) : Int) + 1 = ((A + (j + 1) : Nat) : Int) := by omega
      rw [e2]
      refine hnx _ ⟨X3, fun i h1 h2 => ?_⟩
      by_cases e : i = A + j
      · subst e; exact hz
      · exact hq i h1 (by omega)
    · generalize hbw : byteW ws (A + j) = bw at *
      simp (disch := (first | omega | decide | (simp only [World.size_alloc, World.size_setCell, World.size_drew, size_sets, List.mem_cons, List.not_mem_nil, or_false, not_false_eq_true] <;> omega) | fail)) only [↓rsObjX_3, rsObjX_1, Option.isNone_some, Option.isNone_none, tick_eq, tickV_eq, ne_eq, Int.reduceAdd, Int.reduceSub, Int.reduceMul, Int.reduceEq, Int.reduceLT, Int.reduceLE, Int.reduceToNat, Nat.reduceMul, Nat.reduceAdd, Nat.reduceSub, List.nil_append, List.cons_append, List.getElem?_toArray, List.getElem?_cons_zero, List.getElem?_cons_succ, List.setIfInBounds_toArray, List.set_cons_zero, List.set_cons_succ, Option.map_some, List.not_mem_nil, ←decide_not, kb, k2, decide_eq_true hz]
      refine ⟨⟨true, by trivial, ⟨fun _ h => ?_, fun _ => rfl⟩⟩, X.trans X3⟩
      exact hz (hbw ▸ h (A + j) (by omega) (by omega))
  · intro u v1 hu ⟨F, hq⟩ nxt
    simp only [List.map_cons, List.map_nil, List.cons.injEq, and_true] at hu
    rw [hu]
    generalize hA : (o + 1 + pN (wat ws o)) * 8 + bN (wat ws o) = A at *
    have kb := fun i => (B.ext F (by simp)).cell (i := i)
    unfold loamref14_Space_Pad_l1
    simp (disch := (first | omega | decide | (simp only [World.size_alloc, World.size_setCell, World.size_drew, size_sets, List.mem_cons, List.not_mem_nil, or_false, not_false_eq_true] <;> omega) | fail)) only [↓rsObjX_3, rsObjX_1, Option.isNone_some, Option.isNone_none, tick_eq, tickV_eq, ne_eq, Int.reduceAdd, Int.reduceSub, Int.reduceMul, Int.reduceEq, Int.reduceLT, Int.reduceLE, Int.reduceToNat, Nat.reduceMul, Nat.reduceAdd, Nat.reduceSub, List.nil_append, List.cons_append, List.getElem?_toArray, List.getElem?_cons_zero, List.getElem?_cons_succ, List.setIfInBounds_toArray, List.set_cons_zero, List.set_cons_succ, Option.map_some, List.not_mem_nil, ←decide_not, kb]
    refine loamref14_Size_call (Gives.to (hsz _) fun w2 F2 => ?_)
    simp (disch := (first | omega | decide | (simp only [World.size_alloc, World.size_setCell, World.size_drew, size_sets, List.mem_cons, List.not_mem_nil, or_false, not_false_eq_true] <;> omega) | fail)) only [↓rsObjX_3, rsObjX_1, Option.isNone_some, Option.isNone_none, tick_eq, tickV_eq, ne_eq, Int.reduceAdd, Int.reduceSub, Int.reduceMul, Int.reduceEq, Int.reduceLT, Int.reduceLE, Int.reduceToNat, Nat.reduceMul, Nat.reduceAdd, Nat.reduceSub, List.nil_append, List.cons_append, List.getElem?_toArray, List.getElem?_cons_zero, List.getElem?_cons_succ, List.setIfInBounds_toArray, List.set_cons_zero, List.set_cons_succ, Option.map_some, List.not_mem_nil, ←decide_not, kb]
    refine ⟨⟨false, by trivial, ⟨(fun h => by cases h), fun h => absurd (fun i h1 h2 => hq i (by omega) (by omega)) h⟩⟩, X.trans (F.trans F2)⟩
abbrev rsObjX_4 := (And.intro @xBox_r (And.intro @loadK_some (And.intro @loadsK_s (And.intro @loadsK_n (And.intro @loadsR_s (And.intro @loadsR_n (And.intro @storesK_s (And.intro @storesK_n (And.intro @xPick_t (And.intro @xPick_f (And.intro @xGuard_tt (And.intro @xGuard_ff (And.intro @xGuard_tf (And.intro @xGuard_ft (And.intro @xGuard_u 
  (And.intro @xNil_r (And.intro @xIf_t (And.intro @xBin_add' (And.intro @xBin_sub' (And.intro @xBin_mul' (And.intro @xBin_quo' (And.intro @xBin_rem' (And.intro @xIf_f (And.intro @xIf_tt (And.intro @xEx0 (And.intro @xEx1 (And.intro @xEx2 (And.intro @xEx3 (And.intro @xBin_eqs (And.intro @xBin_nes (And.intro @xUn_not (And.intro @xu8_add (And.intro @xu8_com 
  (And.intro @xu8_lss (And.intro @xu16_add (And.intro @xu16_com (And.intro @xu16_lss (And.intro @xu32_add (And.intro @xu32_com (And.intro @xu32_lss (And.intro @xu64_add (And.intro @xu64_com (And.intro @xu64_lss (And.intro @xi64_lss (And.intro @xMakeFunc_r (And.intro @xSq_r (And.intro @xPur_s (And.intro @xRd_s (And.intro @xRe_s (And.intro @xDet_s 
  (And.intro @xDet_ld (And.intro @xDet_ld2 (And.intro @xDet_ld3 (And.intro @xDet_ld4 (And.intro @xGuard_tt (And.intro @ld_3 (And.intro @ld_28 (And.intro @ld_69 (And.intro @ld_84 (And.intro @fa_46_0 (And.intro @fa_84_0 (And.intro @al_84 (And.intro @st_84 (And.intro @ia_28 (And.intro @ia_66 @ln_66)))))))))))))))))))))))))))))))))))))))))))))))))))))))))))))))))
theorem rWell_spec (S : RfIs w m r c ws b t e) : Yld Try.prog n_loamref14_Space_Well #[ptr m] w fun u w' => (∃ v, u = i64 v ∧ WellIs ws b t v) ∧ Ext [] w w' := by
  have q1 := S.bt
  have q2 := S.te
  have q3 := S.el
  have q4 := S.len
  refine loamref14_Space_Well_of ?_
  unfold loamref14_Space_Well
  refine loamref14_Space_Objects_call (Yld.mono (rObjects_spec S) ?_)
  intro u w1 hu
  cases hob : objs ws b t with
  | none =>
    rw [hob] at hu
    obtain ⟨rfl, F1⟩ := hu
    simp (disch := (first | omega | decide | (simp only [World.size_alloc, World.size_setCell, World.size_drew, size_sets, List.mem_cons, List.not_mem_nil, or_false, not_false_eq_true] <;> omega) | fail)) only [↓rsObjX_4, rsObjX_1, Option.isNone_some, Option.isNone_none, tick_eq, tickV_eq, ne_eq, Int.reduceAdd, Int.reduceSub, Int.reduceMul, Int.reduceEq, Int.reduceLT, Int.reduceLE, Int.reduceToNat, Nat.reduceMul, Nat.reduceAdd, Nat.reduceSub, List.nil_append, List.cons_append, List.getElem?_toArray, List.getElem?_cons_zero, List.getElem?_cons_succ, List.setIfInBounds_toArray, List.set_cons_zero, List.set_cons_succ, Option.map_some, List.not_mem_nil, ←decide_not, eq_self]
    exact ⟨⟨2, by trivial, .inr ⟨(fun ⟨l, h, _⟩ => by rw [hob] at h; cases h), rfl⟩⟩, F1⟩
  | some l =>
  rw [hob] at hu
  have ho := (objs_some S.bt).1 hob
  obtain ⟨hsort, hall⟩ := ho.sorted
  have hll : l.length ≤ 100000 := by have := ho.count; omega
  have hlb : ∀ y ∈ l, y < 8192 := fun y hy => by
    have := hall _ hy
    have := szW_pos (x := wat ws y)
    omega
  obtain ⟨v, rfl, F1, al, cl, rfl, hcl, Rl⟩ := hu
  simp (disch := (first | omega | decide | (simp only [World.size_alloc, World.size_setCell, World.size_drew, size_sets, List.mem_cons, List.not_mem_nil, or_false, not_false_eq_true] <;> omega) | fail)) only [↓rsObjX_4, rsObjX_1, Option.isNone_some, Option.isNone_none, tick_eq, tickV_eq, ne_eq, Int.reduceAdd, Int.reduceSub, Int.reduceMul, Int.reduceEq, Int.reduceLT, Int.reduceLE, Int.reduceToNat, Nat.reduceMul, Nat.reduceAdd, Nat.reduceSub, List.nil_append, List.cons_append, List.getElem?_toArray, List.getElem?_cons_zero, List.getElem?_cons_succ, List.setIfInBounds_toArray, List.set_cons_zero, List.set_cons_succ, Option.map_some, List.not_mem_nil, ←decide_not, eq_self]
  refine xLoop_n l.length (fun j => [i64 (j : Int)]) (fun j w' => (Ext [] w w' ∧ Ext [] w1 w') ∧ ∀ i (hi : i < l.length), i < j → PtrW ws l l[i] ∧ PadW ws l[i]) rfl ⟨⟨F1, Ext.refl _ _⟩, by intro i _ hi; omega⟩ ?_ ?_
  rotate_left
  · intro u v1 hu ⟨⟨F, G⟩, hq⟩ nxt
    simp only [List.map_cons, List.map_nil, List.cons.injEq, and_true] at hu
    rw [hu]
    unfold loamref14_Space_Well_l1
    simp (disch := (first | omega | decide | (simp only [World.size_alloc, World.size_setCell, World.size_drew, size_sets, List.mem_cons, List.not_mem_nil, or_false, not_false_eq_true] <;> omega) | fail)) only [↓rsObjX_4, rsObjX_1, Option.isNone_some, Option.isNone_none, tick_eq, tickV_eq, ne_eq, Int.reduceAdd, Int.reduceSub, Int.reduceMul, Int.reduceEq, Int.reduceLT, Int.reduceLE, Int.reduceToNat, Nat.reduceMul, Nat.reduceAdd, Nat.reduceSub, List.nil_append, List.cons_append, List.getElem?_toArray, List.getElem?_cons_zero, List.getElem?_cons_succ, List.setIfInBounds_toArray, List.set_cons_zero, List.set_cons_succ, Option.map_some, List.not_mem_nil, ←decide_not, eq_self]
    refine ⟨⟨0, by trivial, .inl ⟨⟨l, hob, fun o ho => ?_⟩, rfl⟩⟩, F⟩
    obtain ⟨i, hi, rfl⟩ := List.getElem_of_mem ho
    exact hq i hi hi
  intro j hj u v1 hu ⟨⟨F, G⟩, hq⟩ nxt hnx
  simp only [List.map_cons, List.map_nil, List.cons.injEq, and_true] at hu
  rw [hu]
  have hne : l ≠ [] := fun h => by subst h; simp at hj
  have hmem := List.getElem_mem hj
  obtain ⟨hlo, hok, hhi⟩ := hall _ hmem
  obtain ⟨v1', v2', v3', v4', v5', v6', v7', v8'⟩ := okW_v hok
  obtain ⟨bL, oL, rfl, zL, kL⟩ := (Rl.get (by simpa using hne))
  have kl : ∀ {w' : World}, Ext [] w1 w' → w'.cell? ⟨bL, oL + j, none⟩ = some (i64 (l[j] : Int)) := fun {w'} F' => by
    obtain ⟨b5, o5, h5, z5, k5⟩ := (Rl.ext0 F').at (i := j) (by simpa using hj)
    cases h5
    simpa only [List.getElem_map] using k5
  have hqs : PtrW ws l l[j] → PadW ws l[j] → ∀ i (hi : i < l.length), i < j + 1 → PtrW ws l l[i] ∧ PadW ws l[i] := fun h1 h2 i hi hij => by
    by_cases e : i = j
    · subst e; exact ⟨h1, h2⟩
    · exact hq i hi (by omega)
  generalize hol : l[j] = o at *
  have hO : ObjAt ws b t o := ⟨hlo, hok, hhi⟩
  have S1 := S.ext0 F
  have hrow : ∀ {w' : World} {i : Nat}, RfIs w' m r c ws b t e → i < ws.length → ∃ b1 o1, r = some ⟨b1, o1, none⟩ ∧ w'.cell? ⟨b1, o1 + i, none⟩ = some (u64 (wat ws i)) := fun {w' i} S' hi => by
    obtain ⟨b5, o5, h5, z5, k5⟩ := S'.row.at (i := i) (by simpa using hi)
    refine ⟨b5, o5, h5, ?_⟩
    simp only [List.getElem_map] at k5
    rw [k5]
    unfold wat
    rw [List.getD_eq_getElem?_getD, List.getElem?_eq_getElem hi]
    rfl
  have hot := hO.lt
  have hhd : ∀ w, Gives Try.prog n_loamref14_Unpack #[u64 (wat ws o)] w (.tuple #[hd (pN (wat ws o)) (bN (wat ws o)) false 0, i64 0]) := fun w => by
    have := rUnpack_spec (wat ws o) w
    rw [v1', v2', v3', v4', v5'] at this
    exact this
  have main : ∀ (y : World) (h : Nat), Ext [] v1 y → Blk y h 84 [i64 (pN (wat ws o)), i64 (bN (wat ws o)), .bool false, i64 0] →
      loamref14_Space_Well_j1 (fun u w' => (∃ v, u = i64 v ∧ WellIs ws b t v) ∧ Ext [] w w') nxt (ptr m) (.slice (some ⟨bL, oL, none⟩) l.length cl) (i64 (j : Int)) (.pointer (some ⟨h, 0, none⟩)) y := by
    intro y h Fy B
    have Sy := S1.ext0 Fy
    unfold loamref14_Space_Well_j1
    simp (disch := (first | omega | decide | (simp only [World.size_alloc, World.size_setCell, World.size_drew, size_sets, List.mem_cons, List.not_mem_nil, or_false, not_false_eq_true] <;> omega) | fail)) only [↓rsObjX_4, rsObjX_1, Option.isNone_some, Option.isNone_none, tick_eq, tickV_eq, ne_eq, Int.reduceAdd, Int.reduceSub, Int.reduceMul, Int.reduceEq, Int.reduceLT, Int.reduceLE, Int.reduceToNat, Nat.reduceMul, Nat.reduceAdd, Nat.reduceSub, List.nil_append, List.cons_append, List.getElem?_toArray, List.getElem?_cons_zero, List.getElem?_cons_succ, List.setIfInBounds_toArray, List.set_cons_zero, List.set_cons_succ, Option.map_some, List.not_mem_nil, ←decide_not, eq_self]
    refine xLoop_n (pN (wat ws o)) (fun i => [i64 (i : Int)]) (fun i w' => Ext [] y w' ∧ ∀ i', i' < i → PtrOk l (wat ws (o + 1 + i')).toNat) rfl ⟨Ext.refl _ _, by intro i hi; omega⟩ ?_ ?_
    · intro i hi u v3 hu ⟨F3, hp⟩ nxt2 hnx2
      simp only [List.map_cons, List.map_nil, List.cons.injEq, and_true] at hu
      rw [hu]
      have S3 := Sy.ext0 F3
      have G3 := G.trans (Fy.trans F3)
      have k3 := fun i => (B.ext F3 (by simp)).cell (i := i)
      have c3 := kl (G3.trans (Ext.drew [] v3))
      have S3d := S3.ext0 (Ext.drew [] v3)
      have ks3 := fun i => S3d.blk.cell (i := i)
      obtain ⟨b1, o1, hr1, kr1⟩ := hrow (i := o + 1 + i) S3d (by omega)
      have t1 : ((o : Int) + 1 + (i : Int)).toNat = o + 1 + i := by omega
      unfold loamref14_Space_Well_l3
      simp (disch := (first | omega | decide | (simp only [World.size_alloc, World.size_setCell, World.size_drew, size_sets, List.mem_cons, List.not_mem_nil, or_false, not_false_eq_true] <;> omega) | fail)) only [↓rsObjX_4, rsObjX_1, Option.isNone_some, Option.isNone_none, tick_eq, tickV_eq, ne_eq, Int.reduceAdd, Int.reduceSub, Int.reduceMul, Int.reduceEq, Int.reduceLT, Int.reduceLE, Int.reduceToNat, Nat.reduceMul, Nat.reduceAdd, Nat.reduceSub, List.nil_append, List.cons_append, List.getElem?_toArray, List.getElem?_cons_zero, List.getElem?_cons_succ, List.setIfInBounds_toArray, List.set_cons_zero, List.set_cons_succ, Option.map_some, List.not_mem_nil, ←decide_not, k3, c3, ks3, hr1, t1, kr1]
      refine loamref14_Points_call (Gives.to (rPoints_spec (Rl.ext0 (G3.trans (Ext.drew [] v3))) (by omega) hlb _) fun w4 F4d => ?_)
      have F4 := (Ext.drew [] _).trans F4d
      by_cases hpt : PtrOk l (wat ws (o + 1 + i)).toNat
      · rw [decide_eq_true hpt]
        simp (disch := (first | omega | decide | (simp only [World.size_alloc, World.size_setCell, World.size_drew, size_sets, List.mem_cons, List.not_mem_nil, or_false, not_false_eq_true] <;> omega) | fail)) only [↓rsObjX_4, rsObjX_1, Option.isNone_some, Option.isNone_none, tick_eq, tickV_eq, ne_eq, Int.reduceAdd, Int.reduceSub, Int.reduceMul, Int.reduceEq, Int.reduceLT, Int.reduceLE, Int.reduceToNat, Nat.reduceMul, Nat.reduceAdd, Nat.reduceSub, List.nil_append, List.cons_append, List.getElem?_toArray, List.getElem?_cons_zero, List.getElem?_cons_succ, List.setIfInBounds_toArray, List.set_cons_zero, List.set_cons_succ, Option.map_some, List.not_mem_nil, ←decide_not, k3, c3, ks3, hr1, t1, kr1]
        refine hnx2 _ ⟨F3.trans F4, fun i' hi' => ?_⟩
        by_cases e : i' = i
        · subst e; exact hpt
        · exact hp i' (by omega)
      · rw [decide_eq_false hpt]
        simp (disch := (first | omega | decide | (simp only [World.size_alloc, World.size_setCell, World.size_drew, size_sets, List.mem_cons, List.not_mem_nil, or_false, not_false_eq_true] <;> omega) | fail)) only [↓rsObjX_4, rsObjX_1, Option.isNone_some, Option.isNone_none, tick_eq, tickV_eq, ne_eq, Int.reduceAdd, Int.reduceSub, Int.reduceMul, Int.reduceEq, Int.reduceLT, Int.reduceLE, Int.reduceToNat, Nat.reduceMul, Nat.reduceAdd, Nat.reduceSub, List.nil_append, List.cons_append, List.getElem?_toArray, List.getElem?_cons_zero, List.getElem?_cons_succ, List.setIfInBounds_toArray, List.set_cons_zero, List.set_cons_succ, Option.map_some, List.not_mem_nil, ←decide_not, k3, c3, ks3, hr1, t1, kr1]
        exact ⟨⟨2, by trivial, WellIs.bad hob (hol ▸ hmem) (fun h1 => hpt (h1.1 i hi))⟩, F.trans (Fy.trans (F3.trans F4))⟩
    · intro u v3 hu ⟨F3, hp⟩ nxt2
      simp only [List.map_cons, List.map_nil, List.cons.injEq, and_true] at hu
      rw [hu]
      have S3 := Sy.ext0 F3
      have G3 := G.trans (Fy.trans F3)
      have k3 := fun i => (B.ext F3 (by simp)).cell (i := i)
      have c3 := kl (G3.trans (Ext.drew [] v3))
      have k3d := fun i => (B.ext (F3.trans (Ext.drew [] v3)) (by simp)).cell (i := i)
      unfold loamref14_Space_Well_l3
      simp (disch := (first | omega | decide | (simp only [World.size_alloc, World.size_setCell, World.size_drew, size_sets, List.mem_cons, List.not_mem_nil, or_false, not_false_eq_true] <;> omega) | fail)) only [↓rsObjX_4, rsObjX_1, Option.isNone_some, Option.isNone_none, tick_eq, tickV_eq, ne_eq, Int.reduceAdd, Int.reduceSub, Int.reduceMul, Int.reduceEq, Int.reduceLT, Int.reduceLE, Int.reduceToNat, Nat.reduceMul, Nat.reduceAdd, Nat.reduceSub, List.nil_append, List.cons_append, List.getElem?_toArray, List.getElem?_cons_zero, List.getElem?_cons_succ, List.setIfInBounds_toArray, List.set_cons_zero, List.set_cons_succ, Option.map_some, List.not_mem_nil, ←decide_not, k3, c3, k3d]
      refine loamref14_Space_Pad_call (Yld.mono (rPad_spec (S3.ext0 (Ext.drew [] v3)) hO) ?_)
      rintro u w4 ⟨⟨kk, rfl, hk⟩, F4d⟩
      have F4 := (Ext.drew [] _).trans F4d
      have X4 := Fy.trans (F3.trans F4)
      cases kk with
      | true =>
        simp (disch := (first | omega | decide | (simp only [World.size_alloc, World.size_setCell, World.size_drew, size_sets, List.mem_cons, List.not_mem_nil, or_false, not_false_eq_true] <;> omega) | fail)) only [↓rsObjX_4, rsObjX_1, Option.isNone_some, Option.isNone_none, tick_eq, tickV_eq, ne_eq, Int.reduceAdd, Int.reduceSub, Int.reduceMul, Int.reduceEq, Int.reduceLT, Int.reduceLE, Int.reduceToNat, Nat.reduceMul, Nat.reduceAdd, Nat.reduceSub, List.nil_append, List.cons_append, List.getElem?_toArray, List.getElem?_cons_zero, List.getElem?_cons_succ, List.setIfInBounds_toArray, List.set_cons_zero, List.set_cons_succ, Option.map_some, List.not_mem_nil, ←decide_not, k3, c3, k3d]
        exact ⟨⟨2, by trivial, WellIs.bad hob (hol ▸ hmem) (fun h1 => (hk.1 rfl) h1.2)⟩, F.trans X4⟩
      | false =>
        have hpad : PadW ws o := Classical.byContradiction fun h => by cases hk.2 h
        simp (disch := (first | omega | decide | (simp only [World.size_alloc, World.size_setCell, World.size_drew, size_sets, List.mem_cons, List.not_mem_nil, or_false, not_false_eq_true] <;> omega) | fail)) only [↓rsObjX_4, rsObjX_1, Option.isNone_some, Option.isNone_none, tick_eq, tickV_eq, ne_eq, Int.reduceAdd, Int.reduceSub, Int.reduceMul, Int.reduceEq, Int.reduceLT, Int.reduceLE, Int.reduceToNat, Nat.reduceMul, Nat.reduceAdd, Nat.reduceSub, List.nil_append, List.cons_append, List.getElem?_toArray, List.getElem?_cons_zero, List.getElem?_cons_succ, List.setIfInBounds_toArray, List.set_cons_zero, List.set_cons_succ, Option.map_some, List.not_mem_nil, ←decide_not, k3, c3, k3d]
        exact hnx _ ⟨⟨F.trans X4, G.trans X4⟩, hqs (fun i hi => hp i hi) hpad⟩
  have S1d := S1.ext0 (Ext.drew [] v1)
  have c1 := kl (G.trans (Ext.drew [] v1))
  have ks1 := fun i => S1d.blk.cell (i := i)
  obtain ⟨b1, o1, hr1, kr1⟩ := hrow (i := o) S1d (by omega)
  unfold loamref14_Space_Well_l1
  simp (disch := (first | omega | decide | (simp only [World.size_alloc, World.size_setCell, World.size_drew, size_sets, List.mem_cons, List.not_mem_nil, or_false, not_false_eq_true] <;> omega) | fail)) only [↓rsObjX_4, rsObjX_1, Option.isNone_some, Option.isNone_none, tick_eq, tickV_eq, ne_eq, Int.reduceAdd, Int.reduceSub, Int.reduceMul, Int.reduceEq, Int.reduceLT, Int.reduceLE, Int.reduceToNat, Nat.reduceMul, Nat.reduceAdd, Nat.reduceSub, List.nil_append, List.cons_append, List.getElem?_toArray, List.getElem?_cons_zero, List.getElem?_cons_succ, List.setIfInBounds_toArray, List.set_cons_zero, List.set_cons_succ, Option.map_some, List.not_mem_nil, ←decide_not, c1, ks1, hr1, kr1]
  refine xAlt_i ?_ ?_
  · refine loamref14_Unpack_call (Gives.to (hhd _) fun w2 F2d => ?_)
    have F2 := (Ext.drew [] _).trans F2d
    simp (disch := (first | omega | decide | (simp only [World.size_alloc, World.size_setCell, World.size_drew, size_sets, List.mem_cons, List.not_mem_nil, or_false, not_false_eq_true] <;> omega) | fail)) only [↓rsObjX_4, rsObjX_1, Option.isNone_some, Option.isNone_none, tick_eq, tickV_eq, ne_eq, Int.reduceAdd, Int.reduceSub, Int.reduceMul, Int.reduceEq, Int.reduceLT, Int.reduceLE, Int.reduceToNat, Nat.reduceMul, Nat.reduceAdd, Nat.reduceSub, List.nil_append, List.cons_append, List.getElem?_toArray, List.getElem?_cons_zero, List.getElem?_cons_succ, List.setIfInBounds_toArray, List.set_cons_zero, List.set_cons_succ, Option.map_some, List.not_mem_nil, ←decide_not, c1, ks1, hr1, kr1]
    exact main _ _ (F2.trans (Ext.alloc _ _ _)) (Blk.at rfl)
  · have B : Blk (v1.drew.alloc (.cells #[i64 0, i64 0, .bool false, i64 0] 84)) v1.drew.heap.size 84 [i64 0, i64 0, .bool false, i64 0] := Blk.at rfl
    have X : Ext [] v1 (v1.drew.alloc (.cells #[i64 0, i64 0, .bool false, i64 0] 84)) := (Ext.drew [] _).trans (Ext.alloc _ _ _)
    have zd : v1.heap.size ≤ v1.drew.heap.size := (Ext.drew [] v1).size
    have Sy := S1.ext0 X
    have cy := kl (G.trans X)
    have ky := fun i => Sy.blk.cell (i := i)
    obtain ⟨b2, o2, hr2, kr2⟩ := hrow (i := o) Sy (by omega)
    rw [hr1] at hr2
    cases hr2
    generalize v1.drew.heap.size = h at *
    generalize v1.drew.alloc (.cells #[i64 0, i64 0, .bool false, i64 0] 84) = y at *
    simp (disch := (first | omega | decide | (simp only [World.size_alloc, World.size_setCell, World.size_drew, size_sets, List.mem_cons, List.not_mem_nil, or_false, not_false_eq_true] <;> omega) | fail)) only [↓rsObjX_4, rsObjX_1, Option.isNone_some, Option.isNone_none, tick_eq, tickV_eq, ne_eq, Int.reduceAdd, Int.reduceSub, Int.reduceMul, Int.reduceEq, Int.reduceLT, Int.reduceLE, Int.reduceToNat, Nat.reduceMul, Nat.reduceAdd, Nat.reduceSub, List.nil_append, List.cons_append, List.getElem?_toArray, List.getElem?_cons_zero, List.getElem?_cons_succ, List.setIfInBounds_toArray, List.set_cons_zero, List.set_cons_succ, Option.map_some, List.not_mem_nil, ←decide_not, c1, ks1, hr1, kr1, cy, ky, kr2]
    refine loamref14_Unpack_call (Gives.to (hhd _) fun w2 F2 => ?_)
    have B2 := B.ext F2 (by simp)
    have kb := fun i => B2.cell (i := i)
    have fb := fun i => B2.frozen (i := i)
    simp (disch := (first | omega | decide | (simp only [World.size_alloc, World.size_setCell, World.size_drew, size_sets, List.mem_cons, List.not_mem_nil, or_false, not_false_eq_true] <;> omega) | fail)) only [↓rsObjX_4, rsObjX_1, Option.isNone_some, Option.isNone_none, tick_eq, tickV_eq, ne_eq, Int.reduceAdd, Int.reduceSub, Int.reduceMul, Int.reduceEq, Int.reduceLT, Int.reduceLE, Int.reduceToNat, Nat.reduceMul, Nat.reduceAdd, Nat.reduceSub, List.nil_append, List.cons_append, List.getElem?_toArray, List.getElem?_cons_zero, List.getElem?_cons_succ, List.setIfInBounds_toArray, List.set_cons_zero, List.set_cons_succ, Option.map_some, List.not_mem_nil, ←decide_not, c1, ks1, hr1, kr1, cy, ky, kr2, kb, fb]
    exact main _ _ (((((X.trans F2).set' (.inr zd)).set' (.inr zd)).set' (.inr zd)).set' (.inr zd)) ((((B2.set (i := 0) (v := i64 (pN (wat ws o)))).set (i := 1) (v := i64 (bN (wat ws o)))).set (i := 2) (v := .bool false)).set (i := 3) (v := i64 0))
end
end Go.Proofs.Ytdpmidgeipibbaa
