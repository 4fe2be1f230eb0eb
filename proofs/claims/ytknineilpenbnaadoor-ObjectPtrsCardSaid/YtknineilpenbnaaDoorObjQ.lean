/- Each pointer of an object is by itself: the walk (sq). -/
import Derived.Test.YtknineilpenbnaaDoorObjP
set_option linter.unusedVariables false
set_option linter.unusedSimpArgs false
set_option maxHeartbeats 4000000
namespace Go.Proofs.YtknineilpenbnaaDoor
open Go.Sh Go.RowKit

abbrev zis (l : List Int) : List Value := l.map fun (i : Int) => i64 i
abbrev rsObjQ_0 := (And.intro @xBox_r (And.intro @loadK_some (And.intro @loadsK_s (And.intro @loadsK_n (And.intro @loadsR_s (And.intro @loadsR_n (And.intro @storesK_s (And.intro @storesK_n (And.intro @xPick_t (And.intro @xPick_f (And.intro @xGuard_tt (And.intro @xGuard_ff (And.intro @xGuard_tf (And.intro @xGuard_ft (And.intro @xGuard_u 
  (And.intro @xNil_r (And.intro @xIf_t (And.intro @xBin_add' (And.intro @xBin_sub' (And.intro @xBin_mul' (And.intro @xBin_quo' (And.intro @xBin_rem' (And.intro @xIf_f (And.intro @xIf_tt (And.intro @xEx0 (And.intro @xEx1 (And.intro @xEx2 (And.intro @xEx3 (And.intro @xBin_eqs (And.intro @xBin_nes (And.intro @xUn_not (And.intro @xu8_add (And.intro @xu8_rem 
  (And.intro @xu8_com (And.intro @xu8_eql (And.intro @xu8_neq (And.intro @xu8_lss (And.intro @xu8_gtr (And.intro @xu16_add (And.intro @xu16_rem (And.intro @xu16_com (And.intro @xu16_eql (And.intro @xu16_neq (And.intro @xu16_lss (And.intro @xu16_gtr (And.intro @xu32_add (And.intro @xu32_rem (And.intro @xu32_com (And.intro @xu32_eql (And.intro @xu32_neq 
  (And.intro @xu32_lss (And.intro @xu32_gtr (And.intro @xu64_add (And.intro @xu64_rem (And.intro @xu64_com (And.intro @xu64_eql (And.intro @xu64_neq (And.intro @xu64_lss (And.intro @xu64_gtr (And.intro @xi64_lss (And.intro @xi64_gtr (And.intro @xi64_eql (And.intro @xi64_neq (And.intro @xi64_neg (And.intro @xMakeFunc_r (And.intro @xSq_r (And.intro @xPur_s 
  (And.intro @xRd_s (And.intro @xRe_s (And.intro @xDet_s (And.intro @xDet_ld (And.intro @xDet_ld2 (And.intro @xDet_ld3 (And.intro @xDet_ld4 (And.intro @xGuard_tt (And.intro @ld_3 (And.intro @ld_5 (And.intro @st_3 (And.intro @bd_34_0_1 (And.intro @bd_34_0 (And.intro @bd_34_1 (And.intro @bd_34_2_3 (And.intro @bd_34 (And.intro @cv_5_3 (And.intro @ia_22 (And.intro @ia_40 
  (And.intro @ln_22 (And.intro @bs_40_1 (And.intro @bs_40_3 (And.intro @mk_22 @mk_40))))))))))))))))))))))))))))))))))))))))))))))))))))))))))))))))))))))))))))))))))))))))))
abbrev rsObjQ_1 := (And.intro @setCells_c (And.intro @setCells_n (And.intro @World.setCell_alloc_at (And.intro @World.setCell_alloc_past (And.intro @World.cell?_alloc_at (And.intro @World.cell?_alloc_past (And.intro @World.frozen?_alloc_at (And.intro @World.frozen?_alloc_past 
  (And.intro @World.size_alloc (And.intro @dlt_t (And.intro @dlt_f (And.intro @dle_t (And.intro @dle_f (And.intro @deq_t (And.intro @deq_f (And.intro @dne_t (And.intro @dne_f (And.intro @not_true_eq_false (And.intro @Bool.false_and (And.intro @Bool.true_and (And.intro @Bool.and_true (And.intro @Bool.and_false (And.intro @wrap_in (And.intro @Int.toNat_natCast 
  (And.intro @Nat.mul_one (And.intro @cells_int (And.intro @cells_bool (And.intro @cells_string (And.intro @cells_slice (And.intro @cells_pointer (And.intro @cells_agg (And.intro @one_int (And.intro @one_bool (And.intro @one_string (And.intro @one_slice (And.intro @one_pointer (And.intro @beq_tt (And.intro @beq_ff (And.intro @beq_tf 
  (And.intro @beq_ft (And.intro @cell_sets_b (And.intro @frozen_sets (And.intro @size_sets (And.intro @World.size_drew (And.intro @Nat.zero_add (And.intro @Nat.add_zero (And.intro @cell_drew (And.intro @frozen_drew (And.intro @cell_set_eq (And.intro @cell_set_o (And.intro @cell_set_b (And.intro @World.frozen?_setCell 
  (And.intro @decide_true (And.intro @decide_false (And.intro @not_false_eq_true (And.intro @Bool.not_true @Bool.not_false))))))))))))))))))))))))))))))))))))))))))))))))))))))))
theorem ObjectPtrs_spec (p0 : Int) (x : List (BitVec 8)) (ax : Option Addr) (nx cx : Nat) (hp0 : 0 ≤ p0 ∧ p0 ≤ 255) (w : World) (hx : BytesArg w x ax nx cx) :
    Gives Tryd.prog n_loamlaw16_ObjectPtrs #[.int .u8 p0, .slice ax nx cx] w (.bool true) := by
  obtain ⟨rfl, hcx, -, hnx, Rx⟩ := hx
  rw [u8_of hp0.1 hp0.2]
  generalize BitVec.ofInt 8 p0 = p
  have hP : (p % BitVec.ofNat 8 64).toNat ≤ 63 := by rw [BitVec.toNat_umod, show (BitVec.ofNat 8 64).toNat = 64 by decide]; omega
  refine loamlaw16_ObjectPtrs_of ?_
  unfold loamlaw16_ObjectPtrs
  refine loamlaw16_known_call (Yld.mono (known16_spec w) ?_)
  rintro u w1 ⟨rfl, F1⟩
  simp (disch := (first | omega | decide | (simp only [World.size_alloc, World.size_setCell, World.size_drew, size_sets, List.mem_cons, List.not_mem_nil, or_false, not_false_eq_true] <;> omega) | fail)) only [↓rsObjQ_0, rsObjQ_1, Option.isNone_some, Option.isNone_none, tick_eq, tickV_eq, ne_eq, Int.reduceAdd, Int.reduceSub, Int.reduceMul, Int.reduceEq, Int.reduceLT, Int.reduceLE, Int.reduceToNat, Nat.reduceMul, Nat.reduceAdd, Nat.reduceSub, List.nil_append, List.cons_append, List.getElem?_toArray, List.getElem?_cons_zero, List.getElem?_cons_succ, List.setIfInBounds_toArray, List.set_cons_zero, List.set_cons_succ, Option.map_some, List.not_mem_nil, ←decide_not, eq_self]
  by_cases h1 : 60 < x.length
  · simp (disch := (first | omega | decide | (simp only [World.size_alloc, World.size_setCell, World.size_drew, size_sets, List.mem_cons, List.not_mem_nil, or_false, not_false_eq_true] <;> omega) | fail)) only [↓rsObjQ_0, rsObjQ_1, Option.isNone_some, Option.isNone_none, tick_eq, tickV_eq, ne_eq, Int.reduceAdd, Int.reduceSub, Int.reduceMul, Int.reduceEq, Int.reduceLT, Int.reduceLE, Int.reduceToNat, Nat.reduceMul, Nat.reduceAdd, Nat.reduceSub, List.nil_append, List.cons_append, List.getElem?_toArray, List.getElem?_cons_zero, List.getElem?_cons_succ, List.setIfInBounds_toArray, List.set_cons_zero, List.set_cons_succ, Option.map_some, List.not_mem_nil, ←decide_not, eq_self]
    exact ⟨by trivial, F1⟩
  simp (disch := (first | omega | decide | (simp only [World.size_alloc, World.size_setCell, World.size_drew, size_sets, List.mem_cons, List.not_mem_nil, or_false, not_false_eq_true] <;> omega) | fail)) only [↓rsObjQ_0, rsObjQ_1, Option.isNone_some, Option.isNone_none, tick_eq, tickV_eq, ne_eq, Int.reduceAdd, Int.reduceSub, Int.reduceMul, Int.reduceEq, Int.reduceLT, Int.reduceLE, Int.reduceToNat, Nat.reduceMul, Nat.reduceAdd, Nat.reduceSub, List.nil_append, List.cons_append, List.getElem?_toArray, List.getElem?_cons_zero, List.getElem?_cons_succ, List.setIfInBounds_toArray, List.set_cons_zero, List.set_cons_succ, Option.map_some, List.not_mem_nil, ←decide_not, eq_self]
  have hn0 : ∃ n : Nat, n = 1 + (p % BitVec.ofNat 8 64).toNat := ⟨_, rfl⟩
  obtain ⟨n, hn⟩ := hn0
  have en : (1 : Int) + ((p % BitVec.ofNat 8 64).toNat : Int) = ((n : Nat) : Int) := by omega
  rw [en]
  have hn1 : 1 ≤ n := by omega
  have hn2 : n ≤ 64 := by omega
  obtain ⟨r1, ok1, sz1, pn1, bn1⟩ := pack_v (P := n) (n := 8) (by omega) (by omega)
  obtain ⟨r2, ok2, sz2, pn2, bn2⟩ := pack_v (P := 1) (n := 0) (by omega) (by omega)
  refine mem_New_call (Yld.mono (New_spec 400 w1 (by decide)) ?_)
  rintro u w2 ⟨F2, g, am, c, rfl, M⟩
  simp (disch := (first | omega | decide | (simp only [World.size_alloc, World.size_setCell, World.size_drew, size_sets, List.mem_cons, List.not_mem_nil, or_false, not_false_eq_true] <;> omega) | fail)) only [↓rsObjQ_0, rsObjQ_1, Option.isNone_some, Option.isNone_none, tick_eq, tickV_eq, ne_eq, Int.reduceAdd, Int.reduceSub, Int.reduceMul, Int.reduceEq, Int.reduceLT, Int.reduceLE, Int.reduceToNat, Nat.reduceMul, Nat.reduceAdd, Nat.reduceSub, List.nil_append, List.cons_append, List.getElem?_toArray, List.getElem?_cons_zero, List.getElem?_cons_succ, List.setIfInBounds_toArray, List.set_cons_zero, List.set_cons_succ, Option.map_some, List.not_mem_nil, ←decide_not, eq_self]
  refine space_New_call (Yld.mono (SNew_ok (b := 0) (e := 400) M (by decide) (by rw [List.length_replicate]; decide)) ?_)
  rintro u w3 ⟨F3, s, rfl, z1, z2, S3⟩
  simp (disch := (first | omega | decide | (simp only [World.size_alloc, World.size_setCell, World.size_drew, size_sets, List.mem_cons, List.not_mem_nil, or_false, not_false_eq_true] <;> omega) | fail)) only [↓rsObjQ_0, rsObjQ_1, Option.isNone_some, Option.isNone_none, tick_eq, tickV_eq, ne_eq, Int.reduceAdd, Int.reduceSub, Int.reduceMul, Int.reduceEq, Int.reduceLT, Int.reduceLE, Int.reduceToNat, Nat.reduceMul, Nat.reduceAdd, Nat.reduceSub, List.nil_append, List.cons_append, List.getElem?_toArray, List.getElem?_cons_zero, List.getElem?_cons_succ, List.setIfInBounds_toArray, List.set_cons_zero, List.set_cons_succ, Option.map_some, List.not_mem_nil, ←decide_not, eq_self]
  have hz1 := F1.size
  have hz2 := F2.size
  have ub : ∀ q ∈ blkOf am, w1.heap.size ≤ q := M.up
  have ub0 : ∀ q ∈ s :: blkOf am, w.heap.size ≤ q := fun q hq => by
    rcases List.mem_cons.1 hq with rfl | hq
    · omega
    · have := ub q hq
      omega
  have X3 : Ext [] w w3 := F1.trans (F2.trans F3)
  have sz1' : n + 2 = szW (packW (n : Int) ((8 : Nat) : Int) false 0) := by rw [sz1]; omega
  have sz2' : 2 = szW (packW ((1 : Nat) : Int) ((0 : Nat) : Int) false 0) := by rw [sz2]
  have hfit : 0 + (n + 2) ≤ 400 := by omega
  have hA := SAlloc_ok S3 r1 sz1' hfit
  refine space_Space_Alloc_call (Yld.mono hA ?_)
  rintro u w4 ⟨rfl, F4, S4⟩
  have X4 := X3.new F4 ub0
  rw [Nat.zero_add] at S4
  simp (disch := (first | omega | decide | (simp only [World.size_alloc, World.size_setCell, World.size_drew, size_sets, List.mem_cons, List.not_mem_nil, or_false, not_false_eq_true] <;> omega) | fail)) only [↓rsObjQ_0, rsObjQ_1, Option.isNone_some, Option.isNone_none, tick_eq, tickV_eq, ne_eq, Int.reduceAdd, Int.reduceSub, Int.reduceMul, Int.reduceEq, Int.reduceLT, Int.reduceLE, Int.reduceToNat, Nat.reduceMul, Nat.reduceAdd, Nat.reduceSub, List.nil_append, List.cons_append, List.getElem?_toArray, List.getElem?_cons_zero, List.getElem?_cons_succ, List.setIfInBounds_toArray, List.set_cons_zero, List.set_cons_succ, Option.map_some, List.not_mem_nil, ←decide_not, eq_self]
  have hfit2 : n + 2 + 2 ≤ 400 := by omega
  have hA2 := SAlloc_ok S4 r2 sz2' hfit2
  refine space_Space_Alloc_call (Yld.mono hA2 ?_)
  rintro u w5 ⟨rfl, F5, S5⟩
  have X5 := X4.new F5 ub0
  simp (disch := (first | omega | decide | (simp only [World.size_alloc, World.size_setCell, World.size_drew, size_sets, List.mem_cons, List.not_mem_nil, or_false, not_false_eq_true] <;> omega) | fail)) only [↓rsObjQ_0, rsObjQ_1, Option.isNone_some, Option.isNone_none, tick_eq, tickV_eq, ne_eq, Int.reduceAdd, Int.reduceSub, Int.reduceMul, Int.reduceEq, Int.reduceLT, Int.reduceLE, Int.reduceToNat, Nat.reduceMul, Nat.reduceAdd, Nat.reduceSub, List.nil_append, List.cons_append, List.getElem?_toArray, List.getElem?_cons_zero, List.getElem?_cons_succ, List.setIfInBounds_toArray, List.set_cons_zero, List.set_cons_succ, Option.map_some, List.not_mem_nil, ←decide_not, eq_self]
  have P0 : PtrsAre (alW (alW (List.replicate 400 c0) 0 (packW (n : Int) ((8 : Nat) : Int) false 0) (n + 2)) (n + 2) (packW ((1 : Nat) : Int) ((0 : Nat) : Int) false 0) 2) n (List.replicate n (-1)) := by
    have hw : ∀ i, wat (alW (alW (List.replicate 400 c0) 0 (packW (n : Int) ((8 : Nat) : Int) false 0) (n + 2)) (n + 2) (packW ((1 : Nat) : Int) ((0 : Nat) : Int) false 0) 2) i = if i = n + 2 then packW ((1 : Nat) : Int) ((0 : Nat) : Int) false 0 else if i = 0 then packW (n : Int) ((8 : Nat) : Int) false 0 else c0 := fun i => by
      rw [wat_alW (by rw [alW_length, List.length_replicate]; omega), wat_alW (by rw [List.length_replicate]; decide), wat_rep]
      by_cases h1 : i = n + 2
      · rw [if_pos h1, if_pos h1]
      · rw [if_neg h1, if_neg h1]
        by_cases h2 : i = 0
        · rw [if_pos h2, if_pos h2, if_neg (by omega)]
        · rw [if_neg h2, if_neg h2]
          simp
    refine ⟨by rw [alW_length, alW_length, List.length_replicate], List.length_replicate, by rw [hw, if_neg (by omega), if_pos rfl], by rw [hw, if_pos rfl], by rw [hw, if_neg (by omega), if_neg (by omega)], by rw [hw, if_neg (by omega), if_neg (by omega)], fun i hi => ?_, fun i hi => .inl (by simp [List.getD_eq_getElem?_getD, hi])⟩
    rw [hw, if_neg (by omega), if_neg (by omega)]
    simp [List.getD_eq_getElem?_getD, hi]
  generalize alW (alW (List.replicate 400 c0) 0 (packW (n : Int) ((8 : Nat) : Int) false 0) (n + 2)) (n + 2) (packW ((1 : Nat) : Int) ((0 : Nat) : Int) false 0) 2 = W at *
  have B0 : Blk (w5.alloc (.cells (List.replicate n (.int .i64 0)).toArray 3)) w5.heap.size 3 (zis (List.replicate 0 (-1) ++ List.replicate (n - 0) 0)) := by
    have := Blk.new (e := 3) w5 (List.replicate n (.int .i64 0))
    simpa [zis] using this
  have Xm : Ext [] w5 (w5.alloc (.cells (List.replicate n (.int .i64 0)).toArray 3)) := Ext.alloc _ _ _
  have S6 := S5.ext0 Xm
  have X6 := X5.trans Xm
  have zw5 := X5.size
  have zS := S5.blk.lt
  generalize w5.alloc (.cells (List.replicate n (.int .i64 0)).toArray 3) = w6 at *
  simp only [Int.toNat_natCast]
  refine xLoop_n n (fun j => [i64 (j : Int)]) (fun j w' => Ext [w5.heap.size] w6 w' ∧ Blk w' w5.heap.size 3 (zis (List.replicate j (-1) ++ List.replicate (n - j) 0))) rfl ⟨Ext.refl _ _, B0⟩ ?_ ?_
  · intro j hj u v1 hu ⟨F, B⟩ nxt hnx
    simp only [List.map_cons, List.map_nil, List.cons.injEq, and_true] at hu
    rw [hu]
    have hlj : j < (List.replicate j (-1 : Int) ++ List.replicate (n - j) 0).length := by simp; omega
    have c1 : v1.cell? ⟨w5.heap.size, j, none⟩ = some (i64 ((List.replicate j (-1 : Int) ++ List.replicate (n - j) 0)[j]'hlj)) := by rw [B.cell, List.getElem?_map, List.getElem?_eq_getElem hlj]; rfl
    have f1 : v1.frozen? ⟨w5.heap.size, j, none⟩ = false := B.frozen
    unfold loamlaw16_ObjectPtrs_l1
    simp (disch := (first | omega | decide | (simp only [World.size_alloc, World.size_setCell, World.size_drew, size_sets, List.mem_cons, List.not_mem_nil, or_false, not_false_eq_true] <;> omega) | fail)) only [↓rsObjQ_0, rsObjQ_1, Option.isNone_some, Option.isNone_none, tick_eq, tickV_eq, ne_eq, Int.reduceAdd, Int.reduceSub, Int.reduceMul, Int.reduceEq, Int.reduceLT, Int.reduceLE, Int.reduceToNat, Nat.reduceMul, Nat.reduceAdd, Nat.reduceSub, List.nil_append, List.cons_append, List.getElem?_toArray, List.getElem?_cons_zero, List.getElem?_cons_succ, List.setIfInBounds_toArray, List.set_cons_zero, List.set_cons_succ, Option.map_some, List.not_mem_nil, ←decide_not, c1, f1]
    have B2 := B.set (i := j) (v := i64 (-1))
    have e2 : (zis (List.replicate j (-1) ++ List.replicate (n - j) 0)).set j (i64 (-1)) = zis (List.replicate (j + 1) (-1) ++ List.replicate (n - (j + 1)) 0) := by
      have : n - j = (n - (j + 1)) + 1 := by omega
      rw [this, List.replicate_succ (n := n - (j + 1)), List.replicate_succ' (n := j)]
      simp [zis, List.set_append_right]
    rw [e2] at B2
    exact hnx _ ⟨F.set' (.inl (by simp)), B2⟩
  intro u v1 hu ⟨F, B⟩ nxt
  simp only [List.map_cons, List.map_nil, List.cons.injEq, and_true] at hu
  rw [hu]
  rw [Nat.sub_self, List.replicate_zero, List.append_nil] at B
  unfold loamlaw16_ObjectPtrs_l1
  simp (disch := (first | omega | decide | (simp only [World.size_alloc, World.size_setCell, World.size_drew, size_sets, List.mem_cons, List.not_mem_nil, or_false, not_false_eq_true] <;> omega) | fail)) only [↓rsObjQ_0, rsObjQ_1, Option.isNone_some, Option.isNone_none, tick_eq, tickV_eq, ne_eq, Int.reduceAdd, Int.reduceSub, Int.reduceMul, Int.reduceEq, Int.reduceLT, Int.reduceLE, Int.reduceToNat, Nat.reduceMul, Nat.reduceAdd, Nat.reduceSub, List.nil_append, List.cons_append, List.getElem?_toArray, List.getElem?_cons_zero, List.getElem?_cons_succ, List.setIfInBounds_toArray, List.set_cons_zero, List.set_cons_succ, Option.map_some, List.not_mem_nil, ←decide_not, eq_self]
  have S6' : SpIs w6 w1.heap.size s g am c W 0 (n + 4) 400 := S6
  have zb : ∀ q ∈ s :: blkOf am, q < w5.heap.size := fun q hq => by
    rcases List.mem_cons.1 hq with rfl | hq
    · exact zS
    · exact S5.mem.blt (by intro e; have := P0.len; rw [e] at this; simp at this) q hq
  have zgm : g < w5.heap.size := S5.mem.lt
  have S7 := S6'.ext F (by intro hm; have := zb s (by simp); simp only [List.mem_singleton] at hm; omega) (by intro hm; simp only [List.mem_singleton] at hm; omega) (fun _ q hq hm => by have := zb q (List.mem_cons_of_mem _ hq); simp only [List.mem_singleton] at hm; omega)
  have X7 : Ext [] w v1 := X6.new F (fun q hq => by simp only [List.mem_singleton] at hq; omega)
  refine xLoop_n x.length (fun i => [i64 (i : Int)]) (fun _ w' => Ext [] w w' ∧ ∃ ws l, PtrsAre ws n l ∧ SpIs w' w1.heap.size s g am c ws 0 (n + 4) 400 ∧ Blk w' w5.heap.size 3 (zis l)) rfl ⟨X7, W, _, P0, S7, B⟩ ?_ ?_
  · intro i hi u v2 hu ⟨F8, ws, l, Pw, S8, B8⟩ nxt2 hnx2
    simp only [List.map_cons, List.map_nil, List.cons.injEq, and_true] at hu
    rw [hu]
    obtain ⟨bx, ox, rfl, zx, kx⟩ := (Rx.ext0 F8).at (i := i) (by simpa using hi)
    simp only [List.getElem_map] at kx
    obtain ⟨O1, O2, p1, b1, p2, b2, s1, s2⟩ := Pw.obj hn1 hn2
    have hsel : ∃ to : Int, [Value.int .i64 ((0 : Nat) : Int), Value.int .i64 ((n + 2 : Nat) : Int), Value.int .i64 (-1)][((i : Int) % 3).toNat]? = some (i64 to) ∧ (to = -1 ∨ to = 0 ∨ to = ((n + 2 : Nat) : Int)) := by
      rcases (show ((i : Int) % 3).toNat = 0 ∨ ((i : Int) % 3).toNat = 1 ∨ ((i : Int) % 3).toNat = 2 by omega) with h | h | h
      · rw [h]; exact ⟨0, rfl, .inr (.inl rfl)⟩
      · rw [h]; exact ⟨_, rfl, .inr (.inr rfl)⟩
      · rw [h]; exact ⟨-1, rfl, .inl rfl⟩
    obtain ⟨to, hto, hto2⟩ := hsel
    have ek : ((x[i].toNat : Nat) : Int) % (n : Int) = ((x[i].toNat % n : Nat) : Int) := (Int.natCast_emod _ _).symm
    have hk : x[i].toNat % n < n := Nat.mod_lt _ hn1
    unfold loamlaw16_ObjectPtrs_l2
    simp (disch := (first | omega | decide | (simp only [World.size_alloc, World.size_setCell, World.size_drew, size_sets, List.mem_cons, List.not_mem_nil, or_false, not_false_eq_true] <;> omega) | fail)) only [↓rsObjQ_0, rsObjQ_1, Option.isNone_some, Option.isNone_none, tick_eq, tickV_eq, ne_eq, Int.reduceAdd, Int.reduceSub, Int.reduceMul, Int.reduceEq, Int.reduceLT, Int.reduceLE, Int.reduceToNat, Nat.reduceMul, Nat.reduceAdd, Nat.reduceSub, List.nil_append, List.cons_append, List.getElem?_toArray, List.getElem?_cons_zero, List.getElem?_cons_succ, List.setIfInBounds_toArray, List.set_cons_zero, List.set_cons_succ, Option.map_some, List.not_mem_nil, ←decide_not, kx, hto, ek]
    generalize x[i].toNat % n = k at *
    have S9 := S8.ext0 (Ext.alloc [] v2 (.cells #[.int .i64 ((0 : Nat) : Int), .int .i64 ((n + 2 : Nat) : Int), .int .i64 (-1)] 3))
    have B9 := B8.ext (Ext.alloc [] v2 (.cells #[.int .i64 ((0 : Nat) : Int), .int .i64 ((n + 2 : Nat) : Int), .int .i64 (-1)] 3)) (by simp)
    have X9 := F8.trans (Ext.alloc [] v2 (.cells #[.int .i64 ((0 : Nat) : Int), .int .i64 ((n + 2 : Nat) : Int), .int .i64 (-1)] 3))
    generalize v2.alloc (.cells #[.int .i64 ((0 : Nat) : Int), .int .i64 ((n + 2 : Nat) : Int), .int .i64 (-1)] 3) = v3 at *
    refine obj_SetPtr_call (Yld.mono (SetPtr_ok (i := k) (to := to) S9 O1 (by rw [p1]; exact hk) (by rcases hto2 with h | h | h <;> omega)) ?_)
    rintro u v4 ⟨rfl, F10, S10⟩
    have B10 := B9.ext F10 (fun hm => by have := zb _ (List.mem_cons_of_mem _ hm); omega)
    have X10 := X9.new F10 (fun q hq => ub0 q (List.mem_cons_of_mem _ hq))
    have hkl : k < l.length := by rw [Pw.ln]; exact hk
    have c1 : v4.cell? ⟨w5.heap.size, k, none⟩ = some (i64 (l[k]'hkl)) := by rw [B10.cell, List.getElem?_map, List.getElem?_eq_getElem hkl]; rfl
    have f1 : v4.frozen? ⟨w5.heap.size, k, none⟩ = false := B10.frozen
    simp (disch := (first | omega | decide | (simp only [World.size_alloc, World.size_setCell, World.size_drew, size_sets, List.mem_cons, List.not_mem_nil, or_false, not_false_eq_true] <;> omega) | fail)) only [↓rsObjQ_0, rsObjQ_1, Option.isNone_some, Option.isNone_none, tick_eq, tickV_eq, ne_eq, Int.reduceAdd, Int.reduceSub, Int.reduceMul, Int.reduceEq, Int.reduceLT, Int.reduceLE, Int.reduceToNat, Nat.reduceMul, Nat.reduceAdd, Nat.reduceSub, List.nil_append, List.cons_append, List.getElem?_toArray, List.getElem?_cons_zero, List.getElem?_cons_succ, List.setIfInBounds_toArray, List.set_cons_zero, List.set_cons_succ, Option.map_some, List.not_mem_nil, ←decide_not, kx, hto, ek, c1, f1]
    have B11 := B10.set (i := k) (v := i64 to)
    have e2 : (zis l).set k (i64 to) = zis (l.set k to) := by simp [zis, List.map_set]
    rw [e2] at B11
    have F11 : Ext [w5.heap.size] v4 (v4.setCell ⟨w5.heap.size, k, none⟩ (i64 to)) := Ext.set
    exact hnx2 _ ⟨X10.new F11 (fun q hq => by simp only [List.mem_singleton] at hq; omega), _, _, Pw.set hk hn2 hto2, S10.ext F11 (by intro hm; have := zb s (by simp); simp only [List.mem_singleton] at hm; omega) (by intro hm; simp only [List.mem_singleton] at hm; omega) (fun _ q hq hm => by have := zb q (List.mem_cons_of_mem _ hq); simp only [List.mem_singleton] at hm; omega), B11⟩
  · intro u v2 hu ⟨F8, ws, l, Pw, S8, B8⟩ nxt2
    simp only [List.map_cons, List.map_nil, List.cons.injEq, and_true] at hu
    rw [hu]
    unfold loamlaw16_ObjectPtrs_l2
    simp (disch := (first | omega | decide | (simp only [World.size_alloc, World.size_setCell, World.size_drew, size_sets, List.mem_cons, List.not_mem_nil, or_false, not_false_eq_true] <;> omega) | fail)) only [↓rsObjQ_0, rsObjQ_1, Option.isNone_some, Option.isNone_none, tick_eq, tickV_eq, ne_eq, Int.reduceAdd, Int.reduceSub, Int.reduceMul, Int.reduceEq, Int.reduceLT, Int.reduceLE, Int.reduceToNat, Nat.reduceMul, Nat.reduceAdd, Nat.reduceSub, List.nil_append, List.cons_append, List.getElem?_toArray, List.getElem?_cons_zero, List.getElem?_cons_succ, List.setIfInBounds_toArray, List.set_cons_zero, List.set_cons_succ, Option.map_some, List.not_mem_nil, ←decide_not, eq_self]
    obtain ⟨O1, O2, p1, b1, p2, b2, s1, s2⟩ := Pw.obj hn1 hn2
    refine xLoop_n n (fun i => [i64 (i : Int)]) (fun _ w' => Ext [] v2 w') rfl (Ext.refl _ _) ?_ ?_
    · intro i hi u v3 hu F9 nxt3 hnx3
      simp only [List.map_cons, List.map_nil, List.cons.injEq, and_true] at hu
      rw [hu]
      have hil : i < l.length := by rw [Pw.ln]; exact hi
      have hPt := Ptr_ok (i := i) (S8.ext0 F9) O1 (by rw [p1]; exact hi)
      rw [(Pw.ptr hn2 hi).1, show l.getD i 0 = l[i] by rw [List.getD_eq_getElem?_getD, List.getElem?_eq_getElem hil]; rfl] at hPt
      unfold loamlaw16_ObjectPtrs_l3
      simp (disch := (first | omega | decide | (simp only [World.size_alloc, World.size_setCell, World.size_drew, size_sets, List.mem_cons, List.not_mem_nil, or_false, not_false_eq_true] <;> omega) | fail)) only [↓rsObjQ_0, rsObjQ_1, Option.isNone_some, Option.isNone_none, tick_eq, tickV_eq, ne_eq, Int.reduceAdd, Int.reduceSub, Int.reduceMul, Int.reduceEq, Int.reduceLT, Int.reduceLE, Int.reduceToNat, Nat.reduceMul, Nat.reduceAdd, Nat.reduceSub, List.nil_append, List.cons_append, List.getElem?_toArray, List.getElem?_cons_zero, List.getElem?_cons_succ, List.setIfInBounds_toArray, List.set_cons_zero, List.set_cons_succ, Option.map_some, List.not_mem_nil, ←decide_not, eq_self]
      refine obj_Ptr_call (Gives.to hPt fun v4 F10 => ?_)
      have B10 := B8.ext (F9.trans F10) (by simp)
      have c1 : v4.cell? ⟨w5.heap.size, i, none⟩ = some (i64 (l[i]'hil)) := by rw [B10.cell, List.getElem?_map, List.getElem?_eq_getElem hil]; rfl
      simp (disch := (first | omega | decide | (simp only [World.size_alloc, World.size_setCell, World.size_drew, size_sets, List.mem_cons, List.not_mem_nil, or_false, not_false_eq_true] <;> omega) | fail)) only [↓rsObjQ_0, rsObjQ_1, Option.isNone_some, Option.isNone_none, tick_eq, tickV_eq, ne_eq, Int.reduceAdd, Int.reduceSub, Int.reduceMul, Int.reduceEq, Int.reduceLT, Int.reduceLE, Int.reduceToNat, Nat.reduceMul, Nat.reduceAdd, Nat.reduceSub, List.nil_append, List.cons_append, List.getElem?_toArray, List.getElem?_cons_zero, List.getElem?_cons_succ, List.setIfInBounds_toArray, List.set_cons_zero, List.set_cons_succ, Option.map_some, List.not_mem_nil, ←decide_not, c1]
      exact hnx3 _ (F9.trans F10)
    · intro u v3 hu F9 nxt3
      simp only [List.map_cons, List.map_nil, List.cons.injEq, and_true] at hu
      rw [hu]
      unfold loamlaw16_ObjectPtrs_l3
      simp (disch := (first | omega | decide | (simp only [World.size_alloc, World.size_setCell, World.size_drew, size_sets, List.mem_cons, List.not_mem_nil, or_false, not_false_eq_true] <;> omega) | fail)) only [↓rsObjQ_0, rsObjQ_1, Option.isNone_some, Option.isNone_none, tick_eq, tickV_eq, ne_eq, Int.reduceAdd, Int.reduceSub, Int.reduceMul, Int.reduceEq, Int.reduceLT, Int.reduceLE, Int.reduceToNat, Nat.reduceMul, Nat.reduceAdd, Nat.reduceSub, List.nil_append, List.cons_append, List.getElem?_toArray, List.getElem?_cons_zero, List.getElem?_cons_succ, List.setIfInBounds_toArray, List.set_cons_zero, List.set_cons_succ, Option.map_some, List.not_mem_nil, ←decide_not, eq_self]
      have hbz : bytesW ws ((0 + 1 + n) * 8 + 0) 8 = List.replicate 8 (BitVec.ofNat 8 0) := by
        refine List.ext_getElem (by simp [bytesW]) fun j h1 h2 => ?_
        simp only [bytesW, List.getElem_map, List.getElem_range, List.getElem_replicate]
        simp only [List.length_replicate] at h2
        refine byte_zero ?_
        rw [show ((0 + 1 + n) * 8 + 0 + j) / 8 = n + 1 by omega]
        exact Pw.by0
      have hr := ORead_ok (from' := 0) (n := 8) (S8.ext0 F9) O1 (by rw [b1]; decide)
      rw [p1, hbz] at hr
      refine obj_Read_call (Yld.mono hr ?_)
      rintro u v4 ⟨F10, a4, c4, rfl, hc4, R4, U4⟩
      have S10 := (S8.ext0 F9).ext0 F10
      simp (disch := (first | omega | decide | (simp only [World.size_alloc, World.size_setCell, World.size_drew, size_sets, List.mem_cons, List.not_mem_nil, or_false, not_false_eq_true] <;> omega) | fail)) only [↓rsObjQ_0, rsObjQ_1, Option.isNone_some, Option.isNone_none, tick_eq, tickV_eq, ne_eq, Int.reduceAdd, Int.reduceSub, Int.reduceMul, Int.reduceEq, Int.reduceLT, Int.reduceLE, Int.reduceToNat, Nat.reduceMul, Nat.reduceAdd, Nat.reduceSub, List.nil_append, List.cons_append, List.getElem?_toArray, List.getElem?_cons_zero, List.getElem?_cons_succ, List.setIfInBounds_toArray, List.set_cons_zero, List.set_cons_succ, Option.map_some, List.not_mem_nil, ←decide_not, eq_self]
      have hPt := Ptr_ok (i := 0) S10 O2 (by rw [p2]; decide)
      have e0 : ptrV 0 (n + 4) (wat ws (n + 2 + 1 + 0)) = (-1, 0) := by
        rw [show n + 2 + 1 + 0 = n + 3 by omega, Pw.b0, ptrV, if_pos (by decide)]
      rw [e0] at hPt
      refine obj_Ptr_call (Gives.to hPt fun v5 F11 => ?_)
      have s4 := strB (c := c4) rfl ((R4.ext0 F11).ext0 (Ext.drew [] v5))
      simp (disch := (first | omega | decide | (simp only [World.size_alloc, World.size_setCell, World.size_drew, size_sets, List.mem_cons, List.not_mem_nil, or_false, not_false_eq_true] <;> omega) | fail)) only [↓rsObjQ_0, rsObjQ_1, Option.isNone_some, Option.isNone_none, tick_eq, tickV_eq, ne_eq, Int.reduceAdd, Int.reduceSub, Int.reduceMul, Int.reduceEq, Int.reduceLT, Int.reduceLE, Int.reduceToNat, Nat.reduceMul, Nat.reduceAdd, Nat.reduceSub, List.nil_append, List.cons_append, List.getElem?_toArray, List.getElem?_cons_zero, List.getElem?_cons_succ, List.setIfInBounds_toArray, List.set_cons_zero, List.set_cons_succ, Option.map_some, List.not_mem_nil, ←decide_not, s4]
      have Xy : Ext [] v5 (v5.drew.alloc (.cells (List.replicate 8 (c8 0)).toArray 5)) := (Ext.drew [] v5).trans (Ext.alloc _ _ _)
      have s5 := strB (c := c4) rfl ((R4.ext0 F11).ext0 Xy)
      have R6 : RowAt (v5.drew.alloc (.cells (List.replicate 8 (c8 0)).toArray 5)) (some ⟨v5.heap.size, 0, none⟩) (bys (List.replicate 8 (BitVec.ofNat 8 0))) := (Blk.new (e := 5) v5.drew (List.replicate 8 (c8 0))).row
      have s6 := strB (n := 8) (c := 8) (by rfl) R6
      have d1 : decide (strOf (List.replicate 8 (BitVec.ofNat 8 0)) = strOf (List.replicate 8 (BitVec.ofNat 8 0))) = true := by simp
      simp (disch := (first | omega | decide | (simp only [World.size_alloc, World.size_setCell, World.size_drew, size_sets, List.mem_cons, List.not_mem_nil, or_false, not_false_eq_true] <;> omega) | fail)) only [↓rsObjQ_0, rsObjQ_1, Option.isNone_some, Option.isNone_none, tick_eq, tickV_eq, ne_eq, Int.reduceAdd, Int.reduceSub, Int.reduceMul, Int.reduceEq, Int.reduceLT, Int.reduceLE, Int.reduceToNat, Nat.reduceMul, Nat.reduceAdd, Nat.reduceSub, List.nil_append, List.cons_append, List.getElem?_toArray, List.getElem?_cons_zero, List.getElem?_cons_succ, List.setIfInBounds_toArray, List.set_cons_zero, List.set_cons_succ, Option.map_some, List.not_mem_nil, ←decide_not, s4, s5, s6, d1]
      have hObj : Objs ws (n + 4) 0 [0, n + 2] := by
        refine .cons O1.ok O1.hi ?_
        rw [s1, Nat.zero_add]
        refine .cons O2.ok O2.hi ?_
        rw [s2]
        exact .nil
      refine obj_Well_call (Gives.to (Well_ok (S10.ext0 (F11.trans Xy)) hObj (fun o ho => by
        simp only [List.mem_cons, List.not_mem_nil, or_false] at ho
        rcases ho with rfl | rfl
        · refine ⟨fun i hi => (Pw.ptr hn2 (by rw [p1] at hi; exact hi)).2, fun j h1 h2 => ?_⟩
          rw [p1, b1] at h1
          rw [s1] at h2
          omega
        · refine ⟨fun i hi => .inl ?_, fun j h1 h2 => ?_⟩
          · rw [p2] at hi
            rw [show n + 2 + 1 + i = n + 3 by omega, Pw.b0]
            decide
          · rw [p2, b2] at h1
            rw [s2] at h2
            omega)) fun w9 F12 => ?_)
      simp (disch := (first | omega | decide | (simp only [World.size_alloc, World.size_setCell, World.size_drew, size_sets, List.mem_cons, List.not_mem_nil, or_false, not_false_eq_true] <;> omega) | fail)) only [↓rsObjQ_0, rsObjQ_1, Option.isNone_some, Option.isNone_none, tick_eq, tickV_eq, ne_eq, Int.reduceAdd, Int.reduceSub, Int.reduceMul, Int.reduceEq, Int.reduceLT, Int.reduceLE, Int.reduceToNat, Nat.reduceMul, Nat.reduceAdd, Nat.reduceSub, List.nil_append, List.cons_append, List.getElem?_toArray, List.getElem?_cons_zero, List.getElem?_cons_succ, List.setIfInBounds_toArray, List.set_cons_zero, List.set_cons_succ, Option.map_some, List.not_mem_nil, ←decide_not, s4, s5, s6, d1]
      exact ⟨by trivial, F8.trans (F9.trans (F10.trans ((F11.trans Xy).trans F12)))⟩
end Go.Proofs.YtknineilpenbnaaDoor
