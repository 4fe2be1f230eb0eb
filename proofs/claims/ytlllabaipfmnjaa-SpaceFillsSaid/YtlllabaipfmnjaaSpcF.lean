/- Objects of one size fill a space, walked (sq). -/
import Derived.Test.YtlllabaipfmnjaaSpcK
set_option linter.unusedVariables false
set_option linter.unusedSimpArgs false
set_option maxHeartbeats 4000000
namespace Go.Proofs.Ytlllabaipfmnjaa
open Go.Sh Go.RowKit Go.ChangeShapes Go.WideShapes Go.ChangeAt

/-- so many objects of one size stand in a space -/
def Filled (w0 : World) (base s g : Nat) (a : Option Addr) (c e z : Nat) (gh : Nat) (P B : Int) (i : Nat) (w : World) : Prop :=
  Ext [] w0 w ∧ Blk w gh 80 [i64 P, i64 B, .bool false, i64 0] ∧ ∃ ws l, ws.length = 300 ∧ SpIs w base s g a c ws 5 (5 + i * z) e ∧ Objs ws (5 + i * z) 5 l ∧ l.length = i
abbrev rsSpcF_0 := (And.intro @xBox_r (And.intro @loadK_some (And.intro @loadsK_s (And.intro @loadsK_n (And.intro @loadsR_s (And.intro @loadsR_n (And.intro @storesK_s (And.intro @storesK_n (And.intro @xPick_t (And.intro @xPick_f (And.intro @xGuard_tt (And.intro @xGuard_ff (And.intro @xGuard_tf (And.intro @xGuard_ft (And.intro @xGuard_u 
  (And.intro @xNil_r (And.intro @xIf_t (And.intro @xBin_add' (And.intro @xBin_sub' (And.intro @xBin_mul' (And.intro @xBin_quo' (And.intro @xBin_rem' (And.intro @xIf_f (And.intro @xIf_tt (And.intro @xEx0 (And.intro @xEx1 (And.intro @xEx2 (And.intro @xEx3 (And.intro @xBin_eqs (And.intro @xBin_nes (And.intro @xUn_not (And.intro @xu8_add (And.intro @xu8_mul 
  (And.intro @xu8_rem (And.intro @xu8_quo (And.intro @xu8_com (And.intro @xu8_eql (And.intro @xu8_neq (And.intro @xu8_lss (And.intro @xu16_add (And.intro @xu16_mul (And.intro @xu16_rem (And.intro @xu16_quo (And.intro @xu16_com (And.intro @xu16_eql (And.intro @xu16_neq (And.intro @xu16_lss (And.intro @xu32_add (And.intro @xu32_mul (And.intro @xu32_rem 
  (And.intro @xu32_quo (And.intro @xu32_com (And.intro @xu32_eql (And.intro @xu32_neq (And.intro @xu32_lss (And.intro @xu64_add (And.intro @xu64_mul (And.intro @xu64_rem (And.intro @xu64_quo (And.intro @xu64_com (And.intro @xu64_eql (And.intro @xu64_neq (And.intro @xu64_lss (And.intro @xi64_lss (And.intro @xi64_eql (And.intro @xi64_neq (And.intro @xi64_neg 
  (And.intro @xMakeFunc_r (And.intro @xSq_r (And.intro @xPur_s (And.intro @xRd_s (And.intro @xRe_s (And.intro @xDet_s (And.intro @xDet_ld (And.intro @xDet_ld2 (And.intro @xDet_ld3 (And.intro @xDet_ld4 (And.intro @xGuard_tt (And.intro @ld_3 (And.intro @ld_80 (And.intro @fa_80_0 (And.intro @fa_80_1 (And.intro @al_80 (And.intro @st_80 (And.intro @bd_80_0 (And.intro @bd_80_0_1 
  (And.intro @bd_80_1 (And.intro @bd_80_2_3 (And.intro @bd_80 (And.intro @cv_5_3 @ln_89))))))))))))))))))))))))))))))))))))))))))))))))))))))))))))))))))))))))))))))))))))))))))
abbrev rsSpcF_1 := (And.intro @setCells_c (And.intro @setCells_n (And.intro @World.setCell_alloc_at (And.intro @World.setCell_alloc_past (And.intro @World.cell?_alloc_at (And.intro @World.cell?_alloc_past (And.intro @World.frozen?_alloc_at (And.intro @World.frozen?_alloc_past 
  (And.intro @World.size_alloc (And.intro @dlt_t (And.intro @dlt_f (And.intro @dle_t (And.intro @dle_f (And.intro @deq_t (And.intro @deq_f (And.intro @dne_t (And.intro @dne_f (And.intro @not_true_eq_false (And.intro @Bool.false_and (And.intro @Bool.true_and (And.intro @Bool.and_true (And.intro @Bool.and_false (And.intro @wrap_in (And.intro @Int.toNat_natCast 
  (And.intro @Nat.mul_one (And.intro @cells_int (And.intro @cells_bool (And.intro @cells_string (And.intro @cells_slice (And.intro @cells_pointer (And.intro @cells_agg (And.intro @one_int (And.intro @one_bool (And.intro @one_string (And.intro @one_slice (And.intro @one_pointer (And.intro @beq_tt (And.intro @beq_ff (And.intro @beq_tf 
  (And.intro @beq_ft (And.intro @cell_sets_b (And.intro @frozen_sets (And.intro @size_sets (And.intro @World.size_drew (And.intro @Nat.zero_add (And.intro @Nat.add_zero (And.intro @cell_drew (And.intro @frozen_drew (And.intro @cell_set_eq (And.intro @cell_set_o (And.intro @cell_set_b (And.intro @World.frozen?_setCell 
  (And.intro @decide_true (And.intro @decide_false (And.intro @not_false_eq_true (And.intro @Bool.not_true @Bool.not_false))))))))))))))))))))))))))))))))))))))))))))))))))))))))
theorem SpaceFills_spec (p0 b0 n0 : Int) (hp : 0 ≤ p0 ∧ p0 ≤ 255) (hb : 0 ≤ b0 ∧ b0 ≤ 255) (hn : 0 ≤ n0 ∧ n0 ≤ 255) (w : World) : Gives Try.prog n_loamlaw15_SpaceFills #[.int .u8 p0, .int .u8 b0, .int .u8 n0] w (.bool true) := by
  rw [u8_of hp.1 hp.2, u8_of hb.1 hb.2, u8_of hn.1 hn.2]
  generalize BitVec.ofInt 8 p0 = x
  generalize BitVec.ofInt 8 b0 = y
  generalize BitVec.ofInt 8 n0 = v
  have hx : (x % BitVec.ofNat 8 65).toNat ≤ 64 := by rw [BitVec.toNat_umod, show (BitVec.ofNat 8 65).toNat = 65 by decide]; omega
  have hy : y.toNat < 256 := y.isLt
  have hv : v.toNat < 256 := v.isLt
  refine loamlaw15_SpaceFills_of ?_
  unfold loamlaw15_SpaceFills
  refine loamlaw15_known_call (Gives.to (known15_spec w) fun w1 F1 => ?_)
  simp (disch := (first | omega | decide | (simp only [World.size_alloc, World.size_setCell, World.size_drew, size_sets, List.mem_cons, List.not_mem_nil, or_false, not_false_eq_true] <;> omega) | fail)) only [↓rsSpcF_0, rsSpcF_1, Option.isNone_some, Option.isNone_none, tick_eq, tickV_eq, ne_eq, Int.reduceAdd, Int.reduceSub, Int.reduceMul, Int.reduceEq, Int.reduceLT, Int.reduceLE, Int.reduceToNat, Nat.reduceMul, Nat.reduceAdd, Nat.reduceSub, List.nil_append, List.cons_append, List.getElem?_toArray, List.getElem?_cons_zero, List.getElem?_cons_succ, List.setIfInBounds_toArray, List.set_cons_zero, List.set_cons_succ, Option.map_some, List.not_mem_nil, ←decide_not, eq_self]
  generalize (x % BitVec.ofNat 8 65).toNat = P at *
  generalize y.toNat = B at *
  generalize hN : v.toNat = N at *
  have hz0 : ∃ z : Nat, z = 1 + P + (B + 7) / 8 := ⟨_, rfl⟩
  obtain ⟨z, hz⟩ := hz0
  have hr : rightP P B false 0 := right_f.2 (by omega)
  have hsz : z = szW (packW P B false 0) := by rw [(okW_pack hr).2, hz]; omega
  have ez : (1 : Int) + P + ((B : Int) + 7) / 8 = ((z : Nat) : Int) := by omega
  have e6 : (5 : Int) + N = ((5 + N : Nat) : Int) := by omega
  rw [ez]
  have hz1 : 1 ≤ z := by omega
  clear hz ez
  have H0 : Blk (w1.alloc (.cells #[i64 (P : Int), i64 (B : Int), .bool false, i64 0] 80)) w1.heap.size 80 [i64 (P : Int), i64 (B : Int), .bool false, i64 0] := Blk.at rfl
  have X0 : Ext [] w (w1.alloc (.cells #[i64 (P : Int), i64 (B : Int), .bool false, i64 0] 80)) := F1.trans (Ext.alloc _ _ _)
  generalize w1.alloc (.cells #[i64 (P : Int), i64 (B : Int), .bool false, i64 0] 80) = y0 at *
  have zh := H0.lt
  generalize w1.heap.size = gh at *
  refine mem_New_call (Yld.mono (New_spec 300 y0 (by decide)) ?_)
  rintro u w2 ⟨F2, g, a, c, rfl, M⟩
  simp (disch := (first | omega | decide | (simp only [World.size_alloc, World.size_setCell, World.size_drew, size_sets, List.mem_cons, List.not_mem_nil, or_false, not_false_eq_true] <;> omega) | fail)) only [↓rsSpcF_0, rsSpcF_1, Option.isNone_some, Option.isNone_none, tick_eq, tickV_eq, ne_eq, Int.reduceAdd, Int.reduceSub, Int.reduceMul, Int.reduceEq, Int.reduceLT, Int.reduceLE, Int.reduceToNat, Nat.reduceMul, Nat.reduceAdd, Nat.reduceSub, List.nil_append, List.cons_append, List.getElem?_toArray, List.getElem?_cons_zero, List.getElem?_cons_succ, List.setIfInBounds_toArray, List.set_cons_zero, List.set_cons_succ, Option.map_some, List.not_mem_nil, ←decide_not, hN]
  rw [e6]
  refine space_New_call (Yld.mono (SNew_ok (b := 5) (e := 5 + N) M (by omega) (by rw [List.length_replicate]; omega)) ?_)
  rintro u w3 ⟨F3, s, rfl, zs, zs', S3⟩
  simp (disch := (first | omega | decide | (simp only [World.size_alloc, World.size_setCell, World.size_drew, size_sets, List.mem_cons, List.not_mem_nil, or_false, not_false_eq_true] <;> omega) | fail)) only [↓rsSpcF_0, rsSpcF_1, Option.isNone_some, Option.isNone_none, tick_eq, tickV_eq, ne_eq, Int.reduceAdd, Int.reduceSub, Int.reduceMul, Int.reduceEq, Int.reduceLT, Int.reduceLE, Int.reduceToNat, Nat.reduceMul, Nat.reduceAdd, Nat.reduceSub, List.nil_append, List.cons_append, List.getElem?_toArray, List.getElem?_cons_zero, List.getElem?_cons_succ, List.setIfInBounds_toArray, List.set_cons_zero, List.set_cons_succ, Option.map_some, List.not_mem_nil, ←decide_not, hN]
  have x0 := X0.size
  have x2 := F2.size
  obtain ⟨q, hq⟩ : ∃ q : Nat, q = N / z := ⟨_, rfl⟩
  obtain ⟨r, hrm⟩ : ∃ r : Nat, r = N % z := ⟨_, rfl⟩
  have eq : (N : Int) / (z : Int) = (q : Int) := by rw [hq]; exact (Int.natCast_ediv N z).symm
  have er : (N : Int) % (z : Int) = (r : Int) := by rw [hrm]; exact (Int.natCast_emod N z).symm
  have hdm : q * z + r = N := by rw [hq, hrm, Nat.mul_comm]; exact Nat.div_add_mod N z
  have hrz : r < z := by rw [hrm]; exact Nat.mod_lt _ hz1
  clear hq hrm
  have hqN : q ≤ N := by have := Nat.le_mul_of_pos_right q hz1; omega
  have I0 : Filled w y0.heap.size s g a c (5 + N) z gh P B 0 w3 := by
    refine ⟨X0.trans (F2.trans F3), (H0.ext F2 (by simp)).ext F3 (by simp), List.replicate 300 c0, [], List.length_replicate, ?_, ?_, rfl⟩
    · rw [Nat.zero_mul]; exact S3
    · rw [Nat.zero_mul]; exact .nil
  have us : y0.heap.size ≤ s := by omega
  have q9 : N < 256 := hv
  clear S3 F2 F3 H0 X0 zs zs' x2
  have ub := M.up
  clear M
  refine xLoop_n 2 (fun j => [i64 (j : Int)]) (fun _ w' => Filled w y0.heap.size s g a c (5 + N) z gh P B 0 w') rfl I0 ?_ ?_
  rotate_left
  · intro u v1 hu hI nxt
    simp only [List.map_cons, List.map_nil, List.cons.injEq, and_true] at hu
    rw [hu]
    obtain ⟨X, H, ws, l, hwl, S, ho, hll⟩ := hI
    rw [Nat.zero_mul] at S
    unfold loamlaw15_SpaceFills_l1
    simp (disch := (first | omega | decide | (simp only [World.size_alloc, World.size_setCell, World.size_drew, size_sets, List.mem_cons, List.not_mem_nil, or_false, not_false_eq_true] <;> omega) | fail)) only [↓rsSpcF_0, rsSpcF_1, Option.isNone_some, Option.isNone_none, tick_eq, tickV_eq, ne_eq, Int.reduceAdd, Int.reduceSub, Int.reduceMul, Int.reduceEq, Int.reduceLT, Int.reduceLE, Int.reduceToNat, Nat.reduceMul, Nat.reduceAdd, Nat.reduceSub, List.nil_append, List.cons_append, List.getElem?_toArray, List.getElem?_cons_zero, List.getElem?_cons_succ, List.setIfInBounds_toArray, List.set_cons_zero, List.set_cons_succ, Option.map_some, List.not_mem_nil, ←decide_not, hN]
    refine space_Space_Used_call (Gives.to (Used_spec S) fun w4 F4 => ?_)
    simp (disch := (first | omega | decide | (simp only [World.size_alloc, World.size_setCell, World.size_drew, size_sets, List.mem_cons, List.not_mem_nil, or_false, not_false_eq_true] <;> omega) | fail)) only [↓rsSpcF_0, rsSpcF_1, Option.isNone_some, Option.isNone_none, tick_eq, tickV_eq, ne_eq, Int.reduceAdd, Int.reduceSub, Int.reduceMul, Int.reduceEq, Int.reduceLT, Int.reduceLE, Int.reduceToNat, Nat.reduceMul, Nat.reduceAdd, Nat.reduceSub, List.nil_append, List.cons_append, List.getElem?_toArray, List.getElem?_cons_zero, List.getElem?_cons_succ, List.setIfInBounds_toArray, List.set_cons_zero, List.set_cons_succ, Option.map_some, List.not_mem_nil, ←decide_not, hN]
    exact ⟨by trivial, X.trans F4⟩
  intro j hj u v1 hu hI nxt hnx
  simp only [List.map_cons, List.map_nil, List.cons.injEq, and_true] at hu
  rw [hu]
  have ej : ((j : Int) + 1) = ((j + 1 : Nat) : Int) := by omega
  unfold loamlaw15_SpaceFills_l1
  simp (disch := (first | omega | decide | (simp only [World.size_alloc, World.size_setCell, World.size_drew, size_sets, List.mem_cons, List.not_mem_nil, or_false, not_false_eq_true] <;> omega) | fail)) only [↓rsSpcF_0, rsSpcF_1, Option.isNone_some, Option.isNone_none, tick_eq, tickV_eq, ne_eq, Int.reduceAdd, Int.reduceSub, Int.reduceMul, Int.reduceEq, Int.reduceLT, Int.reduceLE, Int.reduceToNat, Nat.reduceMul, Nat.reduceAdd, Nat.reduceSub, List.nil_append, List.cons_append, List.getElem?_toArray, List.getElem?_cons_zero, List.getElem?_cons_succ, List.setIfInBounds_toArray, List.set_cons_zero, List.set_cons_succ, Option.map_some, List.not_mem_nil, ←decide_not, hN]
  refine xLoop_n q (fun i => [i64 (i : Int)]) (fun i w' => Filled w y0.heap.size s g a c (5 + N) z gh P B i w') rfl hI ?_ ?_
  · intro i hi u v2 hu hI nxt2 hnx2
    simp only [List.map_cons, List.map_nil, List.cons.injEq, and_true] at hu
    rw [hu]
    obtain ⟨X, H, ws, l, hwl, S, ho, hll⟩ := hI
    have ei : ((i : Int) + 1) = ((i + 1 : Nat) : Int) := by omega
    have hm : (i + 1) * z ≤ q * z := Nat.mul_le_mul_right z hi
    have hs : (i + 1) * z = i * z + z := Nat.succ_mul i z
    have em : (i : Int) * (z : Int) = ((i * z : Nat) : Int) := (Int.natCast_mul i z).symm
    have kh := fun i => H.cell (i := i)
    unfold loamlaw15_SpaceFills_l2
    simp (disch := (first | omega | decide | (simp only [World.size_alloc, World.size_setCell, World.size_drew, size_sets, List.mem_cons, List.not_mem_nil, or_false, not_false_eq_true] <;> omega) | fail)) only [↓rsSpcF_0, rsSpcF_1, Option.isNone_some, Option.isNone_none, tick_eq, tickV_eq, ne_eq, Int.reduceAdd, Int.reduceSub, Int.reduceMul, Int.reduceEq, Int.reduceLT, Int.reduceLE, Int.reduceToNat, Nat.reduceMul, Nat.reduceAdd, Nat.reduceSub, List.nil_append, List.cons_append, List.getElem?_toArray, List.getElem?_cons_zero, List.getElem?_cons_succ, List.setIfInBounds_toArray, List.set_cons_zero, List.set_cons_succ, Option.map_some, List.not_mem_nil, ←decide_not, hN, eq, kh]
    refine space_Space_Alloc_call (Yld.mono (SAlloc_ok S hr hsz (by omega)) ?_)
    rintro u w4 ⟨rfl, F4, S4⟩
    have o4 := ho.alloc (by omega) hr hsz
    have en : 5 + i * z + z = 5 + (i + 1) * z := by omega
    rw [en] at S4 o4
    have hgh : gh ∉ s :: blkOf a := fun h => by
      rcases List.mem_cons.1 h with h | h
      · omega
      · have := ub _ h
        omega
    have X4 := X.new F4 (fun x hx => by
      rcases List.mem_cons.1 hx with rfl | hx
      · omega
      · have := ub _ hx
        omega)
    have e5 : ((5 + i * z : Nat) : Int) = 5 + ((i * z : Nat) : Int) := by omega
    rw [e5]
    generalize i * z = mm at *
    simp (disch := (first | omega | decide | (simp only [World.size_alloc, World.size_setCell, World.size_drew, size_sets, List.mem_cons, List.not_mem_nil, or_false, not_false_eq_true] <;> omega) | fail)) only [↓rsSpcF_0, rsSpcF_1, Option.isNone_some, Option.isNone_none, tick_eq, tickV_eq, ne_eq, Int.reduceAdd, Int.reduceSub, Int.reduceMul, Int.reduceEq, Int.reduceLT, Int.reduceLE, Int.reduceToNat, Nat.reduceMul, Nat.reduceAdd, Nat.reduceSub, List.nil_append, List.cons_append, List.getElem?_toArray, List.getElem?_cons_zero, List.getElem?_cons_succ, List.setIfInBounds_toArray, List.set_cons_zero, List.set_cons_succ, Option.map_some, List.not_mem_nil, ←decide_not, hN, eq, kh, em]
    rw [ei]
    exact hnx2 _ ⟨X4, H.ext F4 hgh, _, _, by rw [alW_length]; exact hwl, S4, o4, by rw [List.length_append, hll]; rfl⟩
  · intro u v2 hu hI nxt2
    simp only [List.map_cons, List.map_nil, List.cons.injEq, and_true] at hu
    rw [hu]
    obtain ⟨X, H, ws, l, hwl, S, ho, hll⟩ := hI
    have kh := fun i => H.cell (i := i)
    unfold loamlaw15_SpaceFills_l2
    simp (disch := (first | omega | decide | (simp only [World.size_alloc, World.size_setCell, World.size_drew, size_sets, List.mem_cons, List.not_mem_nil, or_false, not_false_eq_true] <;> omega) | fail)) only [↓rsSpcF_0, rsSpcF_1, Option.isNone_some, Option.isNone_none, tick_eq, tickV_eq, ne_eq, Int.reduceAdd, Int.reduceSub, Int.reduceMul, Int.reduceEq, Int.reduceLT, Int.reduceLE, Int.reduceToNat, Nat.reduceMul, Nat.reduceAdd, Nat.reduceSub, List.nil_append, List.cons_append, List.getElem?_toArray, List.getElem?_cons_zero, List.getElem?_cons_succ, List.setIfInBounds_toArray, List.set_cons_zero, List.set_cons_succ, Option.map_some, List.not_mem_nil, ←decide_not, hN, eq, kh]
    refine space_Space_Alloc_call (Gives.to (SAlloc_full S hr (by omega)) fun w4 F4 => ?_)
    have S4 := S.ext0 F4
    simp (disch := (first | omega | decide | (simp only [World.size_alloc, World.size_setCell, World.size_drew, size_sets, List.mem_cons, List.not_mem_nil, or_false, not_false_eq_true] <;> omega) | fail)) only [↓rsSpcF_0, rsSpcF_1, Option.isNone_some, Option.isNone_none, tick_eq, tickV_eq, ne_eq, Int.reduceAdd, Int.reduceSub, Int.reduceMul, Int.reduceEq, Int.reduceLT, Int.reduceLE, Int.reduceToNat, Nat.reduceMul, Nat.reduceAdd, Nat.reduceSub, List.nil_append, List.cons_append, List.getElem?_toArray, List.getElem?_cons_zero, List.getElem?_cons_succ, List.setIfInBounds_toArray, List.set_cons_zero, List.set_cons_succ, Option.map_some, List.not_mem_nil, ←decide_not, hN, eq, kh, er]
    refine space_Space_Free_call (Gives.to (Free_spec (S4.ext0 (Ext.drew [] w4))) fun w5 F5d => ?_)
    have F5 := (Ext.drew [] w4).trans F5d
    have ef : ((5 + N : Nat) : Int) - ((5 + q * z : Nat) : Int) = (r : Int) := by omega
    rw [ef]
    simp (disch := (first | omega | decide | (simp only [World.size_alloc, World.size_setCell, World.size_drew, size_sets, List.mem_cons, List.not_mem_nil, or_false, not_false_eq_true] <;> omega) | fail)) only [↓rsSpcF_0, rsSpcF_1, Option.isNone_some, Option.isNone_none, tick_eq, tickV_eq, ne_eq, Int.reduceAdd, Int.reduceSub, Int.reduceMul, Int.reduceEq, Int.reduceLT, Int.reduceLE, Int.reduceToNat, Nat.reduceMul, Nat.reduceAdd, Nat.reduceSub, List.nil_append, List.cons_append, List.getElem?_toArray, List.getElem?_cons_zero, List.getElem?_cons_succ, List.setIfInBounds_toArray, List.set_cons_zero, List.set_cons_succ, Option.map_some, List.not_mem_nil, ←decide_not, hN, eq, kh, er]
    have hob := (objs_some S.bt).2 ho
    refine space_Space_Objects_call (Yld.mono (SObjects_spec (S4.ext0 F5)) ?_)
    intro u w6 hu6
    rw [hob] at hu6
    obtain ⟨vo, rfl, F6, ao, co, rfl, hco, Ro⟩ := hu6
    rw [hll]
    simp (disch := (first | omega | decide | (simp only [World.size_alloc, World.size_setCell, World.size_drew, size_sets, List.mem_cons, List.not_mem_nil, or_false, not_false_eq_true] <;> omega) | fail)) only [↓rsSpcF_0, rsSpcF_1, Option.isNone_some, Option.isNone_none, tick_eq, tickV_eq, ne_eq, Int.reduceAdd, Int.reduceSub, Int.reduceMul, Int.reduceEq, Int.reduceLT, Int.reduceLE, Int.reduceToNat, Nat.reduceMul, Nat.reduceAdd, Nat.reduceSub, List.nil_append, List.cons_append, List.getElem?_toArray, List.getElem?_cons_zero, List.getElem?_cons_succ, List.setIfInBounds_toArray, List.set_cons_zero, List.set_cons_succ, Option.map_some, List.not_mem_nil, ←decide_not, hN, eq, kh, er]
    refine space_Space_Reset_call (Yld.mono (SReset_spec ((S4.ext0 F5).ext0 F6)) ?_)
    rintro u w7 ⟨rfl, F7, S7⟩
    have hb0 : ∀ x ∈ s :: bO ws a, y0.heap.size ≤ x := by
      intro x hx
      rcases List.mem_cons.1 hx with rfl | hx
      · exact us
      · by_cases hw : ws = []
        · rw [bO, if_pos hw] at hx
          cases hx
        · rw [bO, if_neg hw] at hx
          exact ub x hx
    have X6 : Ext [] v2 w6 := F4.trans (F5.trans F6)
    have H6 := H.ext X6 (by simp)
    have H7 := H6.ext F7 (fun h => by have := hb0 _ h; omega)
    have X7 := (X.trans X6).new F7 (fun x hx => by have := hb0 _ hx; omega)
    simp (disch := (first | omega | decide | (simp only [World.size_alloc, World.size_setCell, World.size_drew, size_sets, List.mem_cons, List.not_mem_nil, or_false, not_false_eq_true] <;> omega) | fail)) only [↓rsSpcF_0, rsSpcF_1, Option.isNone_some, Option.isNone_none, tick_eq, tickV_eq, ne_eq, Int.reduceAdd, Int.reduceSub, Int.reduceMul, Int.reduceEq, Int.reduceLT, Int.reduceLE, Int.reduceToNat, Nat.reduceMul, Nat.reduceAdd, Nat.reduceSub, List.nil_append, List.cons_append, List.getElem?_toArray, List.getElem?_cons_zero, List.getElem?_cons_succ, List.setIfInBounds_toArray, List.set_cons_zero, List.set_cons_succ, Option.map_some, List.not_mem_nil, ←decide_not, hN, eq, kh, er]
    rw [ej]
    refine hnx _ ⟨X7, H7, zr ws 5 (5 + N - 5), [], by rw [zr_length]; exact hwl, ?_, ?_, rfl⟩
    · rw [Nat.zero_mul]; exact S7
    · rw [Nat.zero_mul]; exact .nil
end Go.Proofs.Ytlllabaipfmnjaa
