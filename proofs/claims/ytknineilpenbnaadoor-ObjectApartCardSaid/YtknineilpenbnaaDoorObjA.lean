/- What is written into an object is in no other one: the walk (sq). -/
import Derived.Test.YtknineilpenbnaaDoorObjL
import Derived.Test.YtknineilpenbnaaDoorObjV
set_option linter.unusedVariables false
set_option linter.unusedSimpArgs false
set_option maxHeartbeats 4000000
namespace Go.Proofs.YtknineilpenbnaaDoor
open Go.Sh Go.RowKit

abbrev rsObjA_0 := (And.intro @xBox_r (And.intro @loadK_some (And.intro @loadsK_s (And.intro @loadsK_n (And.intro @loadsR_s (And.intro @loadsR_n (And.intro @storesK_s (And.intro @storesK_n (And.intro @xPick_t (And.intro @xPick_f (And.intro @xGuard_tt (And.intro @xGuard_ff (And.intro @xGuard_tf (And.intro @xGuard_ft (And.intro @xGuard_u 
  (And.intro @xNil_r (And.intro @xIf_t (And.intro @xBin_add' (And.intro @xBin_sub' (And.intro @xBin_mul' (And.intro @xBin_quo' (And.intro @xBin_rem' (And.intro @xIf_f (And.intro @xIf_tt (And.intro @xEx0 (And.intro @xEx1 (And.intro @xEx2 (And.intro @xEx3 (And.intro @xBin_eqs (And.intro @xBin_nes (And.intro @xUn_not (And.intro @xu8_add (And.intro @xu8_sub 
  (And.intro @xu8_rem (And.intro @xu8_com (And.intro @xu8_eql (And.intro @xu8_neq (And.intro @xu8_gtr (And.intro @xu16_add (And.intro @xu16_sub (And.intro @xu16_rem (And.intro @xu16_com (And.intro @xu16_eql (And.intro @xu16_neq (And.intro @xu16_gtr (And.intro @xu32_add (And.intro @xu32_sub (And.intro @xu32_rem (And.intro @xu32_com (And.intro @xu32_eql 
  (And.intro @xu32_neq (And.intro @xu32_gtr (And.intro @xu64_add (And.intro @xu64_sub (And.intro @xu64_rem (And.intro @xu64_com (And.intro @xu64_eql (And.intro @xu64_neq (And.intro @xu64_gtr (And.intro @xi64_gtr (And.intro @xi64_eql (And.intro @xi64_neq (And.intro @xi64_neg (And.intro @xMakeFunc_r (And.intro @xSq_r (And.intro @xPur_s (And.intro @xRd_s 
  (And.intro @xRe_s (And.intro @xDet_s (And.intro @xDet_ld (And.intro @xDet_ld2 (And.intro @xDet_ld3 (And.intro @xDet_ld4 (And.intro @xGuard_tt (And.intro @bd_34_0_1 (And.intro @bd_34_0 (And.intro @bd_34_1 (And.intro @bd_34_2_3 (And.intro @bd_34 (And.intro @cv_5_3 @ln_22))))))))))))))))))))))))))))))))))))))))))))))))))))))))))))))))))))))))))))))))
abbrev rsObjA_1 := (And.intro @setCells_c (And.intro @setCells_n (And.intro @World.setCell_alloc_at (And.intro @World.setCell_alloc_past (And.intro @World.cell?_alloc_at (And.intro @World.cell?_alloc_past (And.intro @World.frozen?_alloc_at (And.intro @World.frozen?_alloc_past 
  (And.intro @World.size_alloc (And.intro @dlt_t (And.intro @dlt_f (And.intro @dle_t (And.intro @dle_f (And.intro @deq_t (And.intro @deq_f (And.intro @dne_t (And.intro @dne_f (And.intro @not_true_eq_false (And.intro @Bool.false_and (And.intro @Bool.true_and (And.intro @Bool.and_true (And.intro @Bool.and_false (And.intro @wrap_in (And.intro @Int.toNat_natCast 
  (And.intro @Nat.mul_one (And.intro @cells_int (And.intro @cells_bool (And.intro @cells_string (And.intro @cells_slice (And.intro @cells_pointer (And.intro @cells_agg (And.intro @one_int (And.intro @one_bool (And.intro @one_string (And.intro @one_slice (And.intro @one_pointer (And.intro @beq_tt (And.intro @beq_ff (And.intro @beq_tf 
  (And.intro @beq_ft (And.intro @cell_sets_b (And.intro @frozen_sets (And.intro @size_sets (And.intro @World.size_drew (And.intro @Nat.zero_add (And.intro @Nat.add_zero (And.intro @cell_drew (And.intro @frozen_drew (And.intro @cell_set_eq (And.intro @cell_set_o (And.intro @cell_set_b (And.intro @World.frozen?_setCell 
  (And.intro @decide_true (And.intro @decide_false (And.intro @not_false_eq_true (And.intro @Bool.not_true @Bool.not_false))))))))))))))))))))))))))))))))))))))))))))))))))))))))
theorem ObjectApart_spec (p0 a0 b0 : Int) (x : List (BitVec 8)) (ax : Option Addr) (nx cx : Nat) (y : List (BitVec 8)) (ay : Option Addr) (ny cy : Nat) (hp0 : 0 ≤ p0 ∧ p0 ≤ 255) (ha0 : 0 ≤ a0 ∧ a0 ≤ 255) (hb0 : 0 ≤ b0 ∧ b0 ≤ 255) (w : World) (hx : BytesArg w x ax nx cx) (hy : BytesArg w y ay ny cy) :
    Gives Tryd.prog n_loamlaw16_ObjectApart #[.int .u8 p0, .int .u8 a0, .int .u8 b0, .slice ax nx cx, .slice ay ny cy] w (.bool true) := by
  obtain ⟨rfl, hcx, -, hnx, Rx⟩ := hx
  obtain ⟨rfl, hcy, -, hny, Ry⟩ := hy
  rw [u8_of hp0.1 hp0.2, u8_of ha0.1 ha0.2, u8_of hb0.1 hb0.2]
  generalize BitVec.ofInt 8 p0 = p
  generalize BitVec.ofInt 8 a0 = a
  generalize BitVec.ofInt 8 b0 = b
  have hP : (p % BitVec.ofNat 8 8).toNat ≤ 7 := by rw [BitVec.toNat_umod, show (BitVec.ofNat 8 8).toNat = 8 by decide]; omega
  have hn : (a % BitVec.ofNat 8 64).toNat ≤ 63 := by rw [BitVec.toNat_umod, show (BitVec.ofNat 8 64).toNat = 64 by decide]; omega
  have hk : (b % BitVec.ofNat 8 64).toNat ≤ 63 := by rw [BitVec.toNat_umod, show (BitVec.ofNat 8 64).toNat = 64 by decide]; omega
  refine loamlaw16_ObjectApart_of ?_
  unfold loamlaw16_ObjectApart
  refine loamlaw16_known_call (Yld.mono (known16_spec w) ?_)
  rintro u w1 ⟨rfl, F1⟩
  simp (disch := (first | omega | decide | (simp only [World.size_alloc, World.size_setCell, World.size_drew, size_sets, List.mem_cons, List.not_mem_nil, or_false, not_false_eq_true] <;> omega) | fail)) only [↓rsObjA_0, rsObjA_1, Option.isNone_some, Option.isNone_none, tick_eq, tickV_eq, ne_eq, Int.reduceAdd, Int.reduceSub, Int.reduceMul, Int.reduceEq, Int.reduceLT, Int.reduceLE, Int.reduceToNat, Nat.reduceMul, Nat.reduceAdd, Nat.reduceSub, List.nil_append, List.cons_append, List.getElem?_toArray, List.getElem?_cons_zero, List.getElem?_cons_succ, List.setIfInBounds_toArray, List.set_cons_zero, List.set_cons_succ, Option.map_some, List.not_mem_nil, ←decide_not, eq_self]
  generalize (a % BitVec.ofNat 8 64).toNat = n at *
  generalize (b % BitVec.ofNat 8 64).toNat = k at *
  by_cases h1 : n < x.length
  · simp (disch := (first | omega | decide | (simp only [World.size_alloc, World.size_setCell, World.size_drew, size_sets, List.mem_cons, List.not_mem_nil, or_false, not_false_eq_true] <;> omega) | fail)) only [↓rsObjA_0, rsObjA_1, Option.isNone_some, Option.isNone_none, tick_eq, tickV_eq, ne_eq, Int.reduceAdd, Int.reduceSub, Int.reduceMul, Int.reduceEq, Int.reduceLT, Int.reduceLE, Int.reduceToNat, Nat.reduceMul, Nat.reduceAdd, Nat.reduceSub, List.nil_append, List.cons_append, List.getElem?_toArray, List.getElem?_cons_zero, List.getElem?_cons_succ, List.setIfInBounds_toArray, List.set_cons_zero, List.set_cons_succ, Option.map_some, List.not_mem_nil, ←decide_not, eq_self]
    exact ⟨by trivial, F1⟩
  by_cases h2 : k < y.length
  · simp (disch := (first | omega | decide | (simp only [World.size_alloc, World.size_setCell, World.size_drew, size_sets, List.mem_cons, List.not_mem_nil, or_false, not_false_eq_true] <;> omega) | fail)) only [↓rsObjA_0, rsObjA_1, Option.isNone_some, Option.isNone_none, tick_eq, tickV_eq, ne_eq, Int.reduceAdd, Int.reduceSub, Int.reduceMul, Int.reduceEq, Int.reduceLT, Int.reduceLE, Int.reduceToNat, Nat.reduceMul, Nat.reduceAdd, Nat.reduceSub, List.nil_append, List.cons_append, List.getElem?_toArray, List.getElem?_cons_zero, List.getElem?_cons_succ, List.setIfInBounds_toArray, List.set_cons_zero, List.set_cons_succ, Option.map_some, List.not_mem_nil, ←decide_not, eq_self]
    exact ⟨by trivial, F1⟩
  simp (disch := (first | omega | decide | (simp only [World.size_alloc, World.size_setCell, World.size_drew, size_sets, List.mem_cons, List.not_mem_nil, or_false, not_false_eq_true] <;> omega) | fail)) only [↓rsObjA_0, rsObjA_1, Option.isNone_some, Option.isNone_none, tick_eq, tickV_eq, ne_eq, Int.reduceAdd, Int.reduceSub, Int.reduceMul, Int.reduceEq, Int.reduceLT, Int.reduceLE, Int.reduceToNat, Nat.reduceMul, Nat.reduceAdd, Nat.reduceSub, List.nil_append, List.cons_append, List.getElem?_toArray, List.getElem?_cons_zero, List.getElem?_cons_succ, List.setIfInBounds_toArray, List.set_cons_zero, List.set_cons_succ, Option.map_some, List.not_mem_nil, ←decide_not, eq_self]
  generalize hPe : (p % BitVec.ofNat 8 8).toNat = P at *
  have hxl : x.length ≤ n := by omega
  have hyl : y.length ≤ k := by omega
  obtain ⟨r1, ok1, sz1, pn1, bn1⟩ := pack_v (P := P) (n := n) (by omega) (by omega)
  obtain ⟨r2, ok2, sz2, pn2, bn2⟩ := pack_v (P := 0) (n := k) (by omega) (by omega)
  refine mem_New_call (Yld.mono (New_spec 200 w1 (by decide)) ?_)
  rintro u w2 ⟨F2, g, am, c, rfl, M⟩
  simp (disch := (first | omega | decide | (simp only [World.size_alloc, World.size_setCell, World.size_drew, size_sets, List.mem_cons, List.not_mem_nil, or_false, not_false_eq_true] <;> omega) | fail)) only [↓rsObjA_0, rsObjA_1, Option.isNone_some, Option.isNone_none, tick_eq, tickV_eq, ne_eq, Int.reduceAdd, Int.reduceSub, Int.reduceMul, Int.reduceEq, Int.reduceLT, Int.reduceLE, Int.reduceToNat, Nat.reduceMul, Nat.reduceAdd, Nat.reduceSub, List.nil_append, List.cons_append, List.getElem?_toArray, List.getElem?_cons_zero, List.getElem?_cons_succ, List.setIfInBounds_toArray, List.set_cons_zero, List.set_cons_succ, Option.map_some, List.not_mem_nil, ←decide_not, eq_self]
  refine space_New_call (Yld.mono (SNew_ok (b := 0) (e := 200) M (by decide) (by rw [List.length_replicate]; decide)) ?_)
  rintro u w3 ⟨F3, s, rfl, z1, z2, S3⟩
  simp (disch := (first | omega | decide | (simp only [World.size_alloc, World.size_setCell, World.size_drew, size_sets, List.mem_cons, List.not_mem_nil, or_false, not_false_eq_true] <;> omega) | fail)) only [↓rsObjA_0, rsObjA_1, Option.isNone_some, Option.isNone_none, tick_eq, tickV_eq, ne_eq, Int.reduceAdd, Int.reduceSub, Int.reduceMul, Int.reduceEq, Int.reduceLT, Int.reduceLE, Int.reduceToNat, Nat.reduceMul, Nat.reduceAdd, Nat.reduceSub, List.nil_append, List.cons_append, List.getElem?_toArray, List.getElem?_cons_zero, List.getElem?_cons_succ, List.setIfInBounds_toArray, List.set_cons_zero, List.set_cons_succ, Option.map_some, List.not_mem_nil, ←decide_not, hPe]
  have hz1 := F1.size
  have hz2 := F2.size
  have ub : ∀ q ∈ blkOf am, w1.heap.size ≤ q := M.up
  have ub0 : ∀ q ∈ s :: blkOf am, w.heap.size ≤ q := fun q hq => by
    rcases List.mem_cons.1 hq with rfl | hq
    · omega
    · have := ub q hq
      omega
  have X3 : Ext [] w w3 := F1.trans (F2.trans F3)
  have hfit : 0 + (1 + P + (n + 7) / 8) ≤ 200 := by omega
  have hA := SAlloc_ok S3 r1 sz1.symm hfit
  refine space_Space_Alloc_call (Yld.mono hA ?_)
  rintro u w4 ⟨rfl, F4, S4⟩
  have X4 := X3.new F4 ub0
  rw [Nat.zero_add] at S4
  simp (disch := (first | omega | decide | (simp only [World.size_alloc, World.size_setCell, World.size_drew, size_sets, List.mem_cons, List.not_mem_nil, or_false, not_false_eq_true] <;> omega) | fail)) only [↓rsObjA_0, rsObjA_1, Option.isNone_some, Option.isNone_none, tick_eq, tickV_eq, ne_eq, Int.reduceAdd, Int.reduceSub, Int.reduceMul, Int.reduceEq, Int.reduceLT, Int.reduceLE, Int.reduceToNat, Nat.reduceMul, Nat.reduceAdd, Nat.reduceSub, List.nil_append, List.cons_append, List.getElem?_toArray, List.getElem?_cons_zero, List.getElem?_cons_succ, List.setIfInBounds_toArray, List.set_cons_zero, List.set_cons_succ, Option.map_some, List.not_mem_nil, ←decide_not, hPe]
  have sz2' : 1 + (k + 7) / 8 = szW (packW ((0 : Nat) : Int) k false 0) := by rw [sz2]
  have hfit2 : 1 + P + (n + 7) / 8 + (1 + (k + 7) / 8) ≤ 200 := by omega
  have hA2 := SAlloc_ok S4 r2 sz2' hfit2
  refine space_Space_Alloc_call (Yld.mono hA2 ?_)
  rintro u w5 ⟨rfl, F5, S5⟩
  have X5 := X4.new F5 ub0
  have S5' : SpIs w5 w1.heap.size s g am c (wA P n k) 0 (1 + P + (n + 7) / 8 + (1 + (k + 7) / 8)) 200 := S5
  clear S5
  simp (disch := (first | omega | decide | (simp only [World.size_alloc, World.size_setCell, World.size_drew, size_sets, List.mem_cons, List.not_mem_nil, or_false, not_false_eq_true] <;> omega) | fail)) only [↓rsObjA_0, rsObjA_1, Option.isNone_some, Option.isNone_none, tick_eq, tickV_eq, ne_eq, Int.reduceAdd, Int.reduceSub, Int.reduceMul, Int.reduceEq, Int.reduceLT, Int.reduceLE, Int.reduceToNat, Nat.reduceMul, Nat.reduceAdd, Nat.reduceSub, List.nil_append, List.cons_append, List.getElem?_toArray, List.getElem?_cons_zero, List.getElem?_cons_succ, List.setIfInBounds_toArray, List.set_cons_zero, List.set_cons_succ, Option.map_some, List.not_mem_nil, ←decide_not, hPe]
  have hwA : wat (wA P n k) (1 + P + (n + 7) / 8) = packW ((0 : Nat) : Int) k false 0 := by rw [wA_at hP hn, if_pos rfl]
  have hwA0 : wat (wA P n k) 0 = packW P n false 0 := by rw [wA_at hP hn, if_neg (by omega), if_pos rfl]
  have OA : ObjAt (wA P n k) 0 (1 + P + (n + 7) / 8 + (1 + (k + 7) / 8)) (1 + P + (n + 7) / 8) := ⟨by omega, by rw [hwA]; exact ok2, by rw [hwA, sz2]; omega⟩
  have hap : ∀ (l : List (BitVec 8)) (ab : Option Addr), RowAt w ab (bys l) → l ≠ [] → ∀ b' o', ab = some ⟨b', o', none⟩ → b' ∉ blkOf am := fun l ab hr hne b' o' hb' hm => by
    obtain ⟨b9, o9, h9, z9, _⟩ := hr.get (by simpa using hne)
    rw [h9] at hb'
    simp only [Option.some.injEq, Addr.mk.injEq, and_true] at hb'
    have := ub _ hm
    omega
  have ubm : ∀ q ∈ blkOf am, w.heap.size ≤ q := fun q hq => ub0 q (List.mem_cons_of_mem _ hq)
  have hw1 := OWrite_ok (from' := 0) (l := y) (cb := cy) S5' OA (by rw [hwA, bn2]; omega) (Ry.ext0 X5) (hap y ay Ry)
  rw [hwA, pn2] at hw1
  refine obj_Write_call (Yld.mono hw1 ?_)
  rintro u w6 ⟨rfl, F6, S6⟩
  have X6 := X5.new F6 ubm
  have S6' : SpIs w6 w1.heap.size s g am c (wB P n k y) 0 (1 + P + (n + 7) / 8 + (1 + (k + 7) / 8)) 200 := S6
  clear S6
  have hwB0 : wat (wB P n k y) 0 = packW P n false 0 := by rw [wB_at hP hn hk hyl (by omega), hwA0]
  have OB : ObjAt (wB P n k y) 0 (1 + P + (n + 7) / 8 + (1 + (k + 7) / 8)) 0 := ⟨Nat.le_refl _, by rw [hwB0]; exact ok1, by rw [hwB0, sz1]; omega⟩
  have e1 : (n : Int) - x.length = ((n - x.length : Nat) : Int) := by omega
  simp (disch := (first | omega | decide | (simp only [World.size_alloc, World.size_setCell, World.size_drew, size_sets, List.mem_cons, List.not_mem_nil, or_false, not_false_eq_true] <;> omega) | fail)) only [↓rsObjA_0, rsObjA_1, Option.isNone_some, Option.isNone_none, tick_eq, tickV_eq, ne_eq, Int.reduceAdd, Int.reduceSub, Int.reduceMul, Int.reduceEq, Int.reduceLT, Int.reduceLE, Int.reduceToNat, Nat.reduceMul, Nat.reduceAdd, Nat.reduceSub, List.nil_append, List.cons_append, List.getElem?_toArray, List.getElem?_cons_zero, List.getElem?_cons_succ, List.setIfInBounds_toArray, List.set_cons_zero, List.set_cons_succ, Option.map_some, List.not_mem_nil, ←decide_not, hPe]
  rw [e1]
  have hw2 := OWrite_ok (from' := n - x.length) (l := x) (cb := cx) S6' OB (by rw [hwB0, bn1]; omega) (Rx.ext0 X6) (hap x ax Rx)
  rw [hwB0, pn1, Nat.zero_add] at hw2
  refine obj_Write_call (Yld.mono hw2 ?_)
  rintro u w7 ⟨rfl, F7, S7⟩
  have X7 := X6.new F7 ubm
  have S7' : SpIs w7 w1.heap.size s g am c (wC P n k x y) 0 (1 + P + (n + 7) / 8 + (1 + (k + 7) / 8)) 200 := S7
  clear S7
  have hwC0 : wat (wC P n k x y) 0 = packW P n false 0 := by rw [wC_at hP hn hk hxl hyl (.inl (by omega)), hwA0]
  have hwC1 : wat (wC P n k x y) (1 + P + (n + 7) / 8) = packW ((0 : Nat) : Int) k false 0 := by rw [wC_at hP hn hk hxl hyl (.inr rfl), hwA]
  have OC0 : ObjAt (wC P n k x y) 0 (1 + P + (n + 7) / 8 + (1 + (k + 7) / 8)) 0 := ⟨Nat.le_refl _, by rw [hwC0]; exact ok1, by rw [hwC0, sz1]; omega⟩
  have OC1 : ObjAt (wC P n k x y) 0 (1 + P + (n + 7) / 8 + (1 + (k + 7) / 8)) (1 + P + (n + 7) / 8) := ⟨by omega, by rw [hwC1]; exact ok2, by rw [hwC1, sz2]; omega⟩
  simp (disch := (first | omega | decide | (simp only [World.size_alloc, World.size_setCell, World.size_drew, size_sets, List.mem_cons, List.not_mem_nil, or_false, not_false_eq_true] <;> omega) | fail)) only [↓rsObjA_0, rsObjA_1, Option.isNone_some, Option.isNone_none, tick_eq, tickV_eq, ne_eq, Int.reduceAdd, Int.reduceSub, Int.reduceMul, Int.reduceEq, Int.reduceLT, Int.reduceLE, Int.reduceToNat, Nat.reduceMul, Nat.reduceAdd, Nat.reduceSub, List.nil_append, List.cons_append, List.getElem?_toArray, List.getElem?_cons_zero, List.getElem?_cons_succ, List.setIfInBounds_toArray, List.set_cons_zero, List.set_cons_succ, Option.map_some, List.not_mem_nil, ←decide_not, hPe]
  rw [e1]
  have hr1 := ORead_ok (from' := n - x.length) (n := x.length) S7' OC0 (by rw [hwC0, bn1]; omega)
  rw [hwC0, pn1, Nat.zero_add, wC_x hP hn hk hxl hyl] at hr1
  refine obj_Read_call (Yld.mono hr1 ?_)
  rintro u w8 ⟨F8, a8, c8', rfl, hc8, R8, U8⟩
  have S8 := S7'.ext0 F8
  simp (disch := (first | omega | decide | (simp only [World.size_alloc, World.size_setCell, World.size_drew, size_sets, List.mem_cons, List.not_mem_nil, or_false, not_false_eq_true] <;> omega) | fail)) only [↓rsObjA_0, rsObjA_1, Option.isNone_some, Option.isNone_none, tick_eq, tickV_eq, ne_eq, Int.reduceAdd, Int.reduceSub, Int.reduceMul, Int.reduceEq, Int.reduceLT, Int.reduceLE, Int.reduceToNat, Nat.reduceMul, Nat.reduceAdd, Nat.reduceSub, List.nil_append, List.cons_append, List.getElem?_toArray, List.getElem?_cons_zero, List.getElem?_cons_succ, List.setIfInBounds_toArray, List.set_cons_zero, List.set_cons_succ, Option.map_some, List.not_mem_nil, ←decide_not, hPe]
  have hr2 := ORead_ok (from' := 0) (n := y.length) S8 OC1 (by rw [hwC1, bn2]; omega)
  have e0 : (1 + P + (n + 7) / 8 + 1 + 0) * 8 + 0 = (1 + P + (n + 7) / 8 + 1) * 8 := by omega
  rw [hwC1, pn2, e0, wC_y hP hn hk hxl hyl] at hr2
  refine obj_Read_call (Yld.mono hr2 ?_)
  rintro u w9 ⟨F9, a9, c9', rfl, hc9, R9, U9⟩
  have S9 := S8.ext0 F9
  have X9 : Ext [] w w9 := X7.trans (F8.trans F9)
  have s1 := strB (c := c8') rfl (R8.ext0 F9)
  have s2 := strB (c := c9') rfl R9
  have s3 := strB (c := cx) rfl (Rx.ext0 X9)
  have s4 := strB (c := cy) rfl (Ry.ext0 X9)
  have d1 : decide (strOf x = strOf x) = true := by simp
  have d2 : decide (strOf y = strOf y) = true := by simp
  simp (disch := (first | omega | decide | (simp only [World.size_alloc, World.size_setCell, World.size_drew, size_sets, List.mem_cons, List.not_mem_nil, or_false, not_false_eq_true] <;> omega) | fail)) only [↓rsObjA_0, rsObjA_1, Option.isNone_some, Option.isNone_none, tick_eq, tickV_eq, ne_eq, Int.reduceAdd, Int.reduceSub, Int.reduceMul, Int.reduceEq, Int.reduceLT, Int.reduceLE, Int.reduceToNat, Nat.reduceMul, Nat.reduceAdd, Nat.reduceSub, List.nil_append, List.cons_append, List.getElem?_toArray, List.getElem?_cons_zero, List.getElem?_cons_succ, List.setIfInBounds_toArray, List.set_cons_zero, List.set_cons_succ, Option.map_some, List.not_mem_nil, ←decide_not, hPe, s1, s2, s3, s4, d1, d2]
  have hObj : Objs (wC P n k x y) (1 + P + (n + 7) / 8 + (1 + (k + 7) / 8)) 0 [0, 1 + P + (n + 7) / 8] := by
    refine .cons OC0.ok OC0.hi ?_
    rw [hwC0, sz1, Nat.zero_add]
    refine .cons OC1.ok OC1.hi ?_
    rw [hwC1, sz2, Nat.add_zero]
    exact .nil
  refine obj_Well_call (Gives.to (Well_ok S9 hObj (fun o ho => by
    simp only [List.mem_cons, List.not_mem_nil, or_false] at ho
    rcases ho with rfl | rfl
    · refine ⟨fun i hi => .inl ?_, fun j h1 h2 => wC_pad hP hn hk hxl hyl (.inl ?_)⟩
      · rw [hwC0, pn1] at hi
        rw [wC_at hP hn hk hxl hyl (.inl (by omega)), wA_at hP hn, if_neg (by omega), if_neg (by omega)]
        rfl
      · rw [hwC0, pn1, bn1] at h1
        rw [hwC0, sz1] at h2
        omega
    · refine ⟨fun i hi => ?_, fun j h1 h2 => wC_pad hP hn hk hxl hyl (.inr ?_)⟩
      · rw [hwC1, pn2] at hi
        omega
      · rw [hwC1, pn2, bn2] at h1
        omega)) fun w10 F10 => ?_)
  simp (disch := (first | omega | decide | (simp only [World.size_alloc, World.size_setCell, World.size_drew, size_sets, List.mem_cons, List.not_mem_nil, or_false, not_false_eq_true] <;> omega) | fail)) only [↓rsObjA_0, rsObjA_1, Option.isNone_some, Option.isNone_none, tick_eq, tickV_eq, ne_eq, Int.reduceAdd, Int.reduceSub, Int.reduceMul, Int.reduceEq, Int.reduceLT, Int.reduceLE, Int.reduceToNat, Nat.reduceMul, Nat.reduceAdd, Nat.reduceSub, List.nil_append, List.cons_append, List.getElem?_toArray, List.getElem?_cons_zero, List.getElem?_cons_succ, List.setIfInBounds_toArray, List.set_cons_zero, List.set_cons_succ, Option.map_some, List.not_mem_nil, ←decide_not, hPe, s1, s2, s3, s4, d1, d2]
  exact ⟨by trivial, X9.trans F10⟩
end Go.Proofs.YtknineilpenbnaaDoor
