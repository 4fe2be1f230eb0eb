/- Whether a space's objects are well: any space (sq). The document's word on whether objects are well (sq). The statement on whether objects are well, walked (sq). The statement on any calls on objects, walked (sq). The statement on any calls on objects: each call, and all of them (sq). -/
import Derived.Test.YtknineilpenbnaaDoorObj2
import Derived.Test.YtknineilpenbnaaDoorSpc3
import Derived.Test.YtknineilpenbnaaDoorMem5
import Derived.Test.YtknineilpenbnaaDoorSpcK
import Derived.Test.YtknineilpenbnaaDoorObjL
import Derived.Test.YtknineilpenbnaaDoorOneA
set_option linter.unusedVariables false
set_option linter.unusedSimpArgs false
set_option maxHeartbeats 4000000
namespace Go.Proofs.YtknineilpenbnaaDoor
open Go.Sh Go.RowKit

abbrev rsObjW_0 := (And.intro @xBox_r (And.intro @loadK_some (And.intro @loadsK_s (And.intro @loadsK_n (And.intro @loadsR_s (And.intro @loadsR_n (And.intro @storesK_s (And.intro @storesK_n (And.intro @xPick_t (And.intro @xPick_f (And.intro @xGuard_tt (And.intro @xGuard_ff (And.intro @xGuard_tf (And.intro @xGuard_ft (And.intro @xGuard_u 
  (And.intro @xNil_r (And.intro @xIf_t (And.intro @xBin_add' (And.intro @xBin_sub' (And.intro @xBin_mul' (And.intro @xBin_quo' (And.intro @xBin_rem' (And.intro @xIf_f (And.intro @xIf_tt (And.intro @xEx0 (And.intro @xEx1 (And.intro @xEx2 (And.intro @xEx3 (And.intro @xBin_eqs (And.intro @xBin_nes (And.intro @xUn_not (And.intro @xu8_add (And.intro @xu8_neq 
  (And.intro @xu8_lss (And.intro @xu16_add (And.intro @xu16_neq (And.intro @xu16_lss (And.intro @xu32_add (And.intro @xu32_neq (And.intro @xu32_lss (And.intro @xu64_add (And.intro @xu64_neq (And.intro @xu64_lss (And.intro @xi64_lss (And.intro @xi64_neq (And.intro @xi64_neg (And.intro @xMakeFunc_r (And.intro @xSq_r (And.intro @xPur_s (And.intro @xRd_s 
  (And.intro @xRe_s (And.intro @xDet_s (And.intro @xDet_ld (And.intro @xDet_ld2 (And.intro @xDet_ld3 (And.intro @xDet_ld4 (And.intro @xGuard_tt (And.intro @ld_5 (And.intro @ia_22 @ln_22)))))))))))))))))))))))))))))))))))))))))))))))))))))))))))
abbrev rsObjW_1 := (And.intro @setCells_c (And.intro @setCells_n (And.intro @World.setCell_alloc_at (And.intro @World.setCell_alloc_past (And.intro @World.cell?_alloc_at (And.intro @World.cell?_alloc_past (And.intro @World.frozen?_alloc_at (And.intro @World.frozen?_alloc_past 
  (And.intro @World.size_alloc (And.intro @dlt_t (And.intro @dlt_f (And.intro @dle_t (And.intro @dle_f (And.intro @deq_t (And.intro @deq_f (And.intro @dne_t (And.intro @dne_f (And.intro @not_true_eq_false (And.intro @Bool.false_and (And.intro @Bool.true_and (And.intro @Bool.and_true (And.intro @Bool.and_false (And.intro @wrap_in (And.intro @Int.toNat_natCast 
  (And.intro @Nat.mul_one (And.intro @cells_int (And.intro @cells_bool (And.intro @cells_string (And.intro @cells_slice (And.intro @cells_pointer (And.intro @cells_agg (And.intro @one_int (And.intro @one_bool (And.intro @one_string (And.intro @one_slice (And.intro @one_pointer (And.intro @beq_tt (And.intro @beq_ff (And.intro @beq_tf 
  (And.intro @beq_ft (And.intro @cell_sets_b (And.intro @frozen_sets (And.intro @size_sets (And.intro @World.size_drew (And.intro @Nat.zero_add (And.intro @Nat.add_zero (And.intro @cell_drew (And.intro @frozen_drew (And.intro @cell_set_eq (And.intro @cell_set_o (And.intro @cell_set_b (And.intro @World.frozen?_setCell 
  (And.intro @decide_true (And.intro @decide_false (And.intro @not_false_eq_true (And.intro @Bool.not_true @Bool.not_false))))))))))))))))))))))))))))))))))))))))))))))))))))))))
theorem idxFunc_spec {w : World} {l : List (BitVec 8)} {a : Option Addr} {c : Nat} (h : RowAt w a (bys l)) (hl : l.length ≤ 1000000) : Yld Tryd.prog n_slices_IndexFunc_byte_byte #[.slice a l.length c, fnv 37] w fun u w' => (∃ k : Int, u = i64 k ∧ (0 ≤ k → ∃ x ∈ l, x ≠ BitVec.ofNat 8 0) ∧ (k < 0 → ∀ x ∈ l, x = BitVec.ofNat 8 0)) ∧ Ext [] w w' := by
  refine slices_IndexFunc_byte_byte_of ?_
  unfold slices_IndexFunc_byte_byte
  simp (disch := (first | omega | decide | (simp only [World.size_alloc, World.size_setCell, World.size_drew, size_sets, List.mem_cons, List.not_mem_nil, or_false, not_false_eq_true] <;> omega) | fail)) only [↓rsObjW_0, rsObjW_1, Option.isNone_some, Option.isNone_none, tick_eq, tickV_eq, ne_eq, Int.reduceAdd, Int.reduceSub, Int.reduceMul, Int.reduceEq, Int.reduceLT, Int.reduceLE, Int.reduceToNat, Nat.reduceMul, Nat.reduceAdd, Nat.reduceSub, List.nil_append, List.cons_append, List.getElem?_toArray, List.getElem?_cons_zero, List.getElem?_cons_succ, List.setIfInBounds_toArray, List.set_cons_zero, List.set_cons_succ, Option.map_some, List.not_mem_nil, ←decide_not, eq_self]
  refine xLoop_n l.length (fun j => [i64 (j : Int)]) (fun j w' => Ext [] w w' ∧ ∀ i (hi : i < l.length), i < j → l[i] = BitVec.ofNat 8 0) rfl ⟨Ext.refl _ _, by intro i _ hi; omega⟩ ?_ ?_
  · intro j hj u v1 hu ⟨F, hq⟩ nxt hnx
    simp only [List.map_cons, List.map_nil, List.cons.injEq, and_true] at hu
    rw [hu]
    obtain ⟨b1, o1, rfl, z1, k1⟩ := (h.ext0 F).at (i := j) (by simpa using hj)
    simp only [List.getElem_map] at k1
    have hm := List.getElem_mem hj
    by_cases hz : l[j] = BitVec.ofNat 8 0
    · rw [hz] at k1
      unfold slices_IndexFunc_byte_byte_l1
      simp (disch := (first | omega | decide | (simp only [World.size_alloc, World.size_setCell, World.size_drew, size_sets, List.mem_cons, List.not_mem_nil, or_false, not_false_eq_true] <;> omega) | fail)) only [↓rsObjW_0, rsObjW_1, Option.isNone_some, Option.isNone_none, tick_eq, tickV_eq, ne_eq, Int.reduceAdd, Int.reduceSub, Int.reduceMul, Int.reduceEq, Int.reduceLT, Int.reduceLE, Int.reduceToNat, Nat.reduceMul, Nat.reduceAdd, Nat.reduceSub, List.nil_append, List.cons_append, List.getElem?_toArray, List.getElem?_cons_zero, List.getElem?_cons_succ, List.setIfInBounds_toArray, List.set_cons_zero, List.set_cons_succ, Option.map_some, List.not_mem_nil, ←decide_not, k1]
      refine obj_Well_1_call (obj_Well_1_of ?_)
      unfold obj_Well_1
      simp (disch := (first | omega | decide | (simp only [World.size_alloc, World.size_setCell, World.size_drew, size_sets, List.mem_cons, List.not_mem_nil, or_false, not_false_eq_true] <;> omega) | fail)) only [↓rsObjW_0, rsObjW_1, Option.isNone_some, Option.isNone_none, tick_eq, tickV_eq, ne_eq, Int.reduceAdd, Int.reduceSub, Int.reduceMul, Int.reduceEq, Int.reduceLT, Int.reduceLE, Int.reduceToNat, Nat.reduceMul, Nat.reduceAdd, Nat.reduceSub, List.nil_append, List.cons_append, List.getElem?_toArray, List.getElem?_cons_zero, List.getElem?_cons_succ, List.setIfInBounds_toArray, List.set_cons_zero, List.set_cons_succ, Option.map_some, List.not_mem_nil, ←decide_not, k1]
      refine hnx _ ⟨F, fun i hi hij => ?_⟩
      by_cases e : i = j
      · subst e; exact hz
      · exact hq i hi (by omega)
    · unfold slices_IndexFunc_byte_byte_l1
      generalize l[j] = x at *
      simp (disch := (first | omega | decide | (simp only [World.size_alloc, World.size_setCell, World.size_drew, size_sets, List.mem_cons, List.not_mem_nil, or_false, not_false_eq_true] <;> omega) | fail)) only [↓rsObjW_0, rsObjW_1, Option.isNone_some, Option.isNone_none, tick_eq, tickV_eq, ne_eq, Int.reduceAdd, Int.reduceSub, Int.reduceMul, Int.reduceEq, Int.reduceLT, Int.reduceLE, Int.reduceToNat, Nat.reduceMul, Nat.reduceAdd, Nat.reduceSub, List.nil_append, List.cons_append, List.getElem?_toArray, List.getElem?_cons_zero, List.getElem?_cons_succ, List.setIfInBounds_toArray, List.set_cons_zero, List.set_cons_succ, Option.map_some, List.not_mem_nil, ←decide_not, k1]
      refine obj_Well_1_call (obj_Well_1_of ?_)
      unfold obj_Well_1
      simp (disch := (first | omega | decide | (simp only [World.size_alloc, World.size_setCell, World.size_drew, size_sets, List.mem_cons, List.not_mem_nil, or_false, not_false_eq_true] <;> omega) | fail)) only [↓rsObjW_0, rsObjW_1, Option.isNone_some, Option.isNone_none, tick_eq, tickV_eq, ne_eq, Int.reduceAdd, Int.reduceSub, Int.reduceMul, Int.reduceEq, Int.reduceLT, Int.reduceLE, Int.reduceToNat, Nat.reduceMul, Nat.reduceAdd, Nat.reduceSub, List.nil_append, List.cons_append, List.getElem?_toArray, List.getElem?_cons_zero, List.getElem?_cons_succ, List.setIfInBounds_toArray, List.set_cons_zero, List.set_cons_succ, Option.map_some, List.not_mem_nil, ←decide_not, k1, decide_eq_true hz]
      exact ⟨⟨j, rfl, fun _ => ⟨x, hm, hz⟩, fun h => by omega⟩, F⟩
  · intro u v1 hu ⟨F, hq⟩ nxt
    simp only [List.map_cons, List.map_nil, List.cons.injEq, and_true] at hu
    rw [hu]
    unfold slices_IndexFunc_byte_byte_l1
    simp (disch := (first | omega | decide | (simp only [World.size_alloc, World.size_setCell, World.size_drew, size_sets, List.mem_cons, List.not_mem_nil, or_false, not_false_eq_true] <;> omega) | fail)) only [↓rsObjW_0, rsObjW_1, Option.isNone_some, Option.isNone_none, tick_eq, tickV_eq, ne_eq, Int.reduceAdd, Int.reduceSub, Int.reduceMul, Int.reduceEq, Int.reduceLT, Int.reduceLE, Int.reduceToNat, Nat.reduceMul, Nat.reduceAdd, Nat.reduceSub, List.nil_append, List.cons_append, List.getElem?_toArray, List.getElem?_cons_zero, List.getElem?_cons_succ, List.setIfInBounds_toArray, List.set_cons_zero, List.set_cons_succ, Option.map_some, List.not_mem_nil, ←decide_not, eq_self]
    refine ⟨⟨-1, rfl, fun h => by omega, fun _ x hx => ?_⟩, F⟩
    obtain ⟨i, hi, rfl⟩ := List.getElem_of_mem hx
    exact hq i hi hi
abbrev rsObjW_2 := (And.intro @xBox_r (And.intro @loadK_some (And.intro @loadsK_s (And.intro @loadsK_n (And.intro @loadsR_s (And.intro @loadsR_n (And.intro @storesK_s (And.intro @storesK_n (And.intro @xPick_t (And.intro @xPick_f (And.intro @xGuard_tt (And.intro @xGuard_ff (And.intro @xGuard_tf (And.intro @xGuard_ft (And.intro @xGuard_u 
  (And.intro @xNil_r (And.intro @xIf_t (And.intro @xBin_add' (And.intro @xBin_sub' (And.intro @xBin_mul' (And.intro @xBin_quo' (And.intro @xBin_rem' (And.intro @xIf_f (And.intro @xIf_tt (And.intro @xEx0 (And.intro @xEx1 (And.intro @xEx2 (And.intro @xEx3 (And.intro @xBin_eqs (And.intro @xBin_nes (And.intro @xUn_not (And.intro @xu8_geq (And.intro @xu16_geq 
  (And.intro @xu32_geq (And.intro @xu64_geq (And.intro @xi64_geq (And.intro @xMakeFunc_r (And.intro @xSq_r (And.intro @xPur_s (And.intro @xRd_s (And.intro @xRe_s (And.intro @xDet_s (And.intro @xDet_ld (And.intro @xDet_ld2 (And.intro @xDet_ld3 (And.intro @xDet_ld4 @xGuard_tt))))))))))))))))))))))))))))))))))))))))))))))
theorem hasFunc_spec {w : World} {l : List (BitVec 8)} {a : Option Addr} {c : Nat} (h : RowAt w a (bys l)) (hl : l.length ≤ 1000000) : Yld Tryd.prog n_slices_ContainsFunc_byte_byte #[.slice a l.length c, fnv 37] w fun u w' => (∃ k : Bool, u = .bool k ∧ (k = true → ∃ x ∈ l, x ≠ BitVec.ofNat 8 0) ∧ (k = false → ∀ x ∈ l, x = BitVec.ofNat 8 0)) ∧ Ext [] w w' := by
  refine slices_ContainsFunc_byte_byte_of ?_
  unfold slices_ContainsFunc_byte_byte
  refine slices_IndexFunc_byte_byte_call (Yld.mono (idxFunc_spec h hl) ?_)
  rintro u w1 ⟨⟨k, rfl, h1, h2⟩, F1⟩
  by_cases hk : 0 ≤ k
  · simp (disch := (first | omega | decide | (simp only [World.size_alloc, World.size_setCell, World.size_drew, size_sets, List.mem_cons, List.not_mem_nil, or_false, not_false_eq_true] <;> omega) | fail)) only [↓rsObjW_2, rsObjW_1, Option.isNone_some, Option.isNone_none, tick_eq, tickV_eq, ne_eq, Int.reduceAdd, Int.reduceSub, Int.reduceMul, Int.reduceEq, Int.reduceLT, Int.reduceLE, Int.reduceToNat, Nat.reduceMul, Nat.reduceAdd, Nat.reduceSub, List.nil_append, List.cons_append, List.getElem?_toArray, List.getElem?_cons_zero, List.getElem?_cons_succ, List.setIfInBounds_toArray, List.set_cons_zero, List.set_cons_succ, Option.map_some, List.not_mem_nil, ←decide_not, eq_self]
    exact ⟨⟨true, by trivial, fun _ => h1 hk, fun h => by cases h⟩, F1⟩
  · simp (disch := (first | omega | decide | (simp only [World.size_alloc, World.size_setCell, World.size_drew, size_sets, List.mem_cons, List.not_mem_nil, or_false, not_false_eq_true] <;> omega) | fail)) only [↓rsObjW_2, rsObjW_1, Option.isNone_some, Option.isNone_none, tick_eq, tickV_eq, ne_eq, Int.reduceAdd, Int.reduceSub, Int.reduceMul, Int.reduceEq, Int.reduceLT, Int.reduceLE, Int.reduceToNat, Nat.reduceMul, Nat.reduceAdd, Nat.reduceSub, List.nil_append, List.cons_append, List.getElem?_toArray, List.getElem?_cons_zero, List.getElem?_cons_succ, List.setIfInBounds_toArray, List.set_cons_zero, List.set_cons_succ, Option.map_some, List.not_mem_nil, ←decide_not, eq_self]
    exact ⟨⟨false, by trivial, (fun h => by cases h), fun _ => h2 (by omega)⟩, F1⟩
theorem Objs.count {ws : List (BitVec 64)} {t o : Nat} {l : List Nat} (h : Objs ws t o l) : o + l.length ≤ t := by
  induction h with
  | nil => simp
  | @cons o q h1 h2 h3 ih => have := szW_pos (x := wat ws o); simp only [List.length_cons]; omega
def WellP (ws : List (BitVec 64)) (b t : Nat) : Prop := ∃ l, objs ws b t = some l ∧ ∀ o ∈ l, PtrW ws l o ∧ PadW ws o
def WellIs (ws : List (BitVec 64)) (b t : Nat) (v : Int) : Prop := (WellP ws b t ∧ v = 0) ∨ (¬ WellP ws b t ∧ v = 2)
theorem WellIs.eq {ws : List (BitVec 64)} {b t : Nat} {v v' : Int} (h : WellIs ws b t v) (h' : WellIs ws b t v') : v = v' := by
  rcases h with ⟨h1, h2⟩ | ⟨h1, h2⟩ <;> rcases h' with ⟨h3, h4⟩ | ⟨h3, h4⟩
  · rw [h2, h4]
  · exact absurd h1 h3
  · exact absurd h3 h1
  · rw [h2, h4]
theorem WellIs.bad {ws : List (BitVec 64)} {b t o : Nat} {l : List Nat} (h : objs ws b t = some l) (ho : o ∈ l) (hb : ¬ (PtrW ws l o ∧ PadW ws o)) : WellIs ws b t 2 := by
  refine .inr ⟨?_, rfl⟩
  rintro ⟨l', h1, h2⟩
  rw [h] at h1
  cases h1
  exact hb (h2 o ho)
def PtrOk (l : List Nat) (x : Nat) : Prop := x = 0 ∨ (x ≤ 8192 ∧ 1 ≤ x ∧ x - 1 ∈ l)
instance (l : List Nat) (x : Nat) : Decidable (PtrOk l x) := by unfold PtrOk; infer_instance
abbrev rsObjW_3 := (And.intro @xBox_r (And.intro @loadK_some (And.intro @loadsK_s (And.intro @loadsK_n (And.intro @loadsR_s (And.intro @loadsR_n (And.intro @storesK_s (And.intro @storesK_n (And.intro @xPick_t (And.intro @xPick_f (And.intro @xGuard_tt (And.intro @xGuard_ff (And.intro @xGuard_tf (And.intro @xGuard_ft (And.intro @xGuard_u 
  (And.intro @xNil_r (And.intro @xIf_t (And.intro @xBin_add' (And.intro @xBin_sub' (And.intro @xBin_mul' (And.intro @xBin_quo' (And.intro @xBin_rem' (And.intro @xIf_f (And.intro @xIf_tt (And.intro @xEx0 (And.intro @xEx1 (And.intro @xEx2 (And.intro @xEx3 (And.intro @xBin_eqs (And.intro @xBin_nes (And.intro @xUn_not (And.intro @xu8_add (And.intro @xu8_sub 
  (And.intro @xu8_mul (And.intro @xu8_com (And.intro @xu8_neq (And.intro @xu8_lss (And.intro @xu16_add (And.intro @xu16_sub (And.intro @xu16_mul (And.intro @xu16_com (And.intro @xu16_neq (And.intro @xu16_lss (And.intro @xu32_add (And.intro @xu32_sub (And.intro @xu32_mul (And.intro @xu32_com (And.intro @xu32_neq (And.intro @xu32_lss (And.intro @xu64_add 
  (And.intro @xu64_sub (And.intro @xu64_mul (And.intro @xu64_com (And.intro @xu64_neq (And.intro @xu64_lss (And.intro @xi64_lss (And.intro @xi64_neq (And.intro @xi64_neg (And.intro @xMakeFunc_r (And.intro @xSq_r (And.intro @xPur_s (And.intro @xRd_s (And.intro @xRe_s (And.intro @xDet_s (And.intro @xDet_ld (And.intro @xDet_ld2 (And.intro @xDet_ld3 
  (And.intro @xDet_ld4 (And.intro @xGuard_tt (And.intro @ld_3 (And.intro @ld_24 (And.intro @ld_34 (And.intro @fa_34_0 (And.intro @fa_34_1 (And.intro @fa_65_0 (And.intro @al_34 (And.intro @st_34 (And.intro @ia_40 @ln_40))))))))))))))))))))))))))))))))))))))))))))))))))))))))))))))))))))))))))))))
theorem Well_spec {w : World} {base s g : Nat} {a : Option Addr} {c : Nat} {ws : List (BitVec 64)} {b t e : Nat} (S : SpIs w base s g a c ws b t e) : Yld Tryd.prog n_obj_Well #[ptr s] w fun u w' => (∃ v, u = i64 v ∧ WellIs ws b t v) ∧ Ext [] w w' := by
  have q1 := S.te
  have q2 := S.el
  have q3 := S.mem.len
  refine obj_Well_of ?_
  unfold obj_Well
  refine space_Space_Objects_call (Yld.mono (SObjects_spec S) ?_)
  intro u w1 hu
  cases hob : objs ws b t with
  | none =>
    rw [hob] at hu
    obtain ⟨rfl, F1⟩ := hu
    simp (disch := (first | omega | decide | (simp only [World.size_alloc, World.size_setCell, World.size_drew, size_sets, List.mem_cons, List.not_mem_nil, or_false, not_false_eq_true] <;> omega) | fail)) only [↓rsObjW_3, rsObjW_1, Option.isNone_some, Option.isNone_none, tick_eq, tickV_eq, ne_eq, Int.reduceAdd, Int.reduceSub, Int.reduceMul, Int.reduceEq, Int.reduceLT, Int.reduceLE, Int.reduceToNat, Nat.reduceMul, Nat.reduceAdd, Nat.reduceSub, List.nil_append, List.cons_append, List.getElem?_toArray, List.getElem?_cons_zero, List.getElem?_cons_succ, List.setIfInBounds_toArray, List.set_cons_zero, List.set_cons_succ, Option.map_some, List.not_mem_nil, ←decide_not, eq_self]
    exact ⟨⟨2, by trivial, .inr ⟨(fun ⟨l, h, _⟩ => by rw [hob] at h; cases h), rfl⟩⟩, F1⟩
  | some l =>
  rw [hob] at hu
  have ho := (objs_some S.bt).1 hob
  obtain ⟨hsort, hall⟩ := ho.sorted
  have hll : l.length ≤ 100000 := by have := ho.count; omega
  obtain ⟨v, rfl, F1, al, cl, rfl, hcl, Rl⟩ := hu
  simp (disch := (first | omega | decide | (simp only [World.size_alloc, World.size_setCell, World.size_drew, size_sets, List.mem_cons, List.not_mem_nil, or_false, not_false_eq_true] <;> omega) | fail)) only [↓rsObjW_3, rsObjW_1, Option.isNone_some, Option.isNone_none, tick_eq, tickV_eq, ne_eq, Int.reduceAdd, Int.reduceSub, Int.reduceMul, Int.reduceEq, Int.reduceLT, Int.reduceLE, Int.reduceToNat, Nat.reduceMul, Nat.reduceAdd, Nat.reduceSub, List.nil_append, List.cons_append, List.getElem?_toArray, List.getElem?_cons_zero, List.getElem?_cons_succ, List.setIfInBounds_toArray, List.set_cons_zero, List.set_cons_succ, Option.map_some, List.not_mem_nil, ←decide_not, eq_self]
  refine xLoop_n l.length (fun j => [i64 (j : Int)]) (fun j w' => (Ext [] w w' ∧ Ext [] w1 w') ∧ ∀ i (hi : i < l.length), i < j → PtrW ws l l[i] ∧ PadW ws l[i]) rfl ⟨⟨F1, Ext.refl _ _⟩, by intro i _ hi; omega⟩ ?_ ?_
  rotate_left
  · intro u v1 hu ⟨⟨F, G⟩, hq⟩ nxt
    simp only [List.map_cons, List.map_nil, List.cons.injEq, and_true] at hu
    rw [hu]
    unfold obj_Well_l1
    simp (disch := (first | omega | decide | (simp only [World.size_alloc, World.size_setCell, World.size_drew, size_sets, List.mem_cons, List.not_mem_nil, or_false, not_false_eq_true] <;> omega) | fail)) only [↓rsObjW_3, rsObjW_1, Option.isNone_some, Option.isNone_none, tick_eq, tickV_eq, ne_eq, Int.reduceAdd, Int.reduceSub, Int.reduceMul, Int.reduceEq, Int.reduceLT, Int.reduceLE, Int.reduceToNat, Nat.reduceMul, Nat.reduceAdd, Nat.reduceSub, List.nil_append, List.cons_append, List.getElem?_toArray, List.getElem?_cons_zero, List.getElem?_cons_succ, List.setIfInBounds_toArray, List.set_cons_zero, List.set_cons_succ, Option.map_some, List.not_mem_nil, ←decide_not, eq_self]
    refine ⟨⟨0, by trivial, .inl ⟨⟨l, hob, fun o ho => ?_⟩, rfl⟩⟩, F⟩
    obtain ⟨i, hi, rfl⟩ := List.getElem_of_mem ho
    exact hq i hi hi
  intro j hj u v1 hu ⟨⟨F, G⟩, hq⟩ nxt hnx
  simp only [List.map_cons, List.map_nil, List.cons.injEq, and_true] at hu
  rw [hu]
  have hne : l ≠ [] := fun h => by subst h; simp at hj
  have hmem := List.getElem_mem hj
  obtain ⟨hlo, hok, hhi⟩ := hall _ hmem
  obtain ⟨v1', v2', v3', v4', v5', v6', v7', v8'⟩ := okW_v hok
  obtain ⟨b1, o1, rfl, z1, k1⟩ := (Rl.ext0 G).at (i := j) (by simpa using hj)
  simp only [List.getElem_map] at k1
  have hqs : PtrW ws l l[j] → PadW ws l[j] → ∀ i (hi : i < l.length), i < j + 1 → PtrW ws l l[i] ∧ PadW ws l[i] := fun h1 h2 i hi hij => by
    by_cases e : i = j
    · subst e; exact ⟨h1, h2⟩
    · exact hq i hi (by omega)
  unfold obj_Well_l1
  simp (disch := (first | omega | decide | (simp only [World.size_alloc, World.size_setCell, World.size_drew, size_sets, List.mem_cons, List.not_mem_nil, or_false, not_false_eq_true] <;> omega) | fail)) only [↓rsObjW_3, rsObjW_1, Option.isNone_some, Option.isNone_none, tick_eq, tickV_eq, ne_eq, Int.reduceAdd, Int.reduceSub, Int.reduceMul, Int.reduceEq, Int.reduceLT, Int.reduceLE, Int.reduceToNat, Nat.reduceMul, Nat.reduceAdd, Nat.reduceSub, List.nil_append, List.cons_append, List.getElem?_toArray, List.getElem?_cons_zero, List.getElem?_cons_succ, List.setIfInBounds_toArray, List.set_cons_zero, List.set_cons_succ, Option.map_some, List.not_mem_nil, ←decide_not, k1]
  generalize hol : l[j] = o at *
  have hO : ObjAt ws b t o := ⟨hlo, hok, hhi⟩
  have S1 := S.ext0 F
  have hh := SHead_in (o := o) S1 hlo hO.lt
  rw [v1', v2', v3', v4', v5'] at hh
  refine space_Space_Head_call (Gives.to hh fun w2 F2 => ?_)
  simp (disch := (first | omega | decide | (simp only [World.size_alloc, World.size_setCell, World.size_drew, size_sets, List.mem_cons, List.not_mem_nil, or_false, not_false_eq_true] <;> omega) | fail)) only [↓rsObjW_3, rsObjW_1, Option.isNone_some, Option.isNone_none, tick_eq, tickV_eq, ne_eq, Int.reduceAdd, Int.reduceSub, Int.reduceMul, Int.reduceEq, Int.reduceLT, Int.reduceLE, Int.reduceToNat, Nat.reduceMul, Nat.reduceAdd, Nat.reduceSub, List.nil_append, List.cons_append, List.getElem?_toArray, List.getElem?_cons_zero, List.getElem?_cons_succ, List.setIfInBounds_toArray, List.set_cons_zero, List.set_cons_succ, Option.map_some, List.not_mem_nil, ←decide_not, k1]
  have B : Blk (w2.alloc (.cells #[i64 (pN (wat ws o)), i64 (bN (wat ws o)), .bool false, i64 0] 34)) w2.heap.size 34 [i64 (pN (wat ws o)), i64 (bN (wat ws o)), .bool false, i64 0] := Blk.at rfl
  have X2 : Ext [] w2 (w2.alloc (.cells #[i64 (pN (wat ws o)), i64 (bN (wat ws o)), .bool false, i64 0] 34)) := Ext.alloc _ _ _
  generalize w2.alloc (.cells #[i64 (pN (wat ws o)), i64 (bN (wat ws o)), .bool false, i64 0] 34) = y at *
  have Fy := F2.trans X2
  refine xLoop_n (pN (wat ws o)) (fun i => [i64 (i : Int)]) (fun i w' => Ext [] y w' ∧ ∀ i', i' < i → PtrOk l (wat ws (o + 1 + i')).toNat) rfl ⟨Ext.refl _ _, by intro i hi; omega⟩ ?_ ?_
  · intro i hi u v3 hu ⟨F3, hp⟩ nxt2 hnx2
    simp only [List.map_cons, List.map_nil, List.cons.injEq, and_true] at hu
    rw [hu]
    have S3 := S1.ext0 (Fy.trans F3)
    have R3 := Rl.ext0 (G.trans (Fy.trans F3))
    have hps : PtrOk l (wat ws (o + 1 + i)).toNat → ∀ i', i' < i + 1 → PtrOk l (wat ws (o + 1 + i')).toNat := fun h i' hi' => by
      by_cases e : i' = i
      · subst e; exact h
      · exact hp i' (by omega)
    have hbad : ¬ PtrOk l (wat ws (o + 1 + i)).toNat → WellIs ws b t 2 := fun h => WellIs.bad hob hmem (fun h1 => h (h1.1 i hi))
    unfold obj_Well_l2
    simp (disch := (first | omega | decide | (simp only [World.size_alloc, World.size_setCell, World.size_drew, size_sets, List.mem_cons, List.not_mem_nil, or_false, not_false_eq_true] <;> omega) | fail)) only [↓rsObjW_3, rsObjW_1, Option.isNone_some, Option.isNone_none, tick_eq, tickV_eq, ne_eq, Int.reduceAdd, Int.reduceSub, Int.reduceMul, Int.reduceEq, Int.reduceLT, Int.reduceLE, Int.reduceToNat, Nat.reduceMul, Nat.reduceAdd, Nat.reduceSub, List.nil_append, List.cons_append, List.getElem?_toArray, List.getElem?_cons_zero, List.getElem?_cons_succ, List.setIfInBounds_toArray, List.set_cons_zero, List.set_cons_succ, Option.map_some, List.not_mem_nil, ←decide_not, k1]
    have hP := Ptr_ok (i := i) S3 hO hi
    have hX := F.trans (Fy.trans F3)
    generalize (wat ws (o + 1 + i)) = xw at *
    by_cases h0 : xw.toNat = 0
    · have e1 : ptrV b t xw = (-1, 0) := by rw [ptrV, if_pos h0]
      rw [e1] at hP
      refine obj_Ptr_call (Gives.to hP fun w4 F4 => ?_)
      simp (disch := (first | omega | decide | (simp only [World.size_alloc, World.size_setCell, World.size_drew, size_sets, List.mem_cons, List.not_mem_nil, or_false, not_false_eq_true] <;> omega) | fail)) only [↓rsObjW_3, rsObjW_1, Option.isNone_some, Option.isNone_none, tick_eq, tickV_eq, ne_eq, Int.reduceAdd, Int.reduceSub, Int.reduceMul, Int.reduceEq, Int.reduceLT, Int.reduceLE, Int.reduceToNat, Nat.reduceMul, Nat.reduceAdd, Nat.reduceSub, List.nil_append, List.cons_append, List.getElem?_toArray, List.getElem?_cons_zero, List.getElem?_cons_succ, List.setIfInBounds_toArray, List.set_cons_zero, List.set_cons_succ, Option.map_some, List.not_mem_nil, ←decide_not, k1]
      refine slices_BinarySearch_int_int_call (Yld.mono (bs_spec (R3.ext0 F4) hne (by omega) hsort (-1)) ?_)
      rintro u w5 ⟨⟨k, rfl⟩, F5⟩
      simp (disch := (first | omega | decide | (simp only [World.size_alloc, World.size_setCell, World.size_drew, size_sets, List.mem_cons, List.not_mem_nil, or_false, not_false_eq_true] <;> omega) | fail)) only [↓rsObjW_3, rsObjW_1, Option.isNone_some, Option.isNone_none, tick_eq, tickV_eq, ne_eq, Int.reduceAdd, Int.reduceSub, Int.reduceMul, Int.reduceEq, Int.reduceLT, Int.reduceLE, Int.reduceToNat, Nat.reduceMul, Nat.reduceAdd, Nat.reduceSub, List.nil_append, List.cons_append, List.getElem?_toArray, List.getElem?_cons_zero, List.getElem?_cons_succ, List.setIfInBounds_toArray, List.set_cons_zero, List.set_cons_succ, Option.map_some, List.not_mem_nil, ←decide_not, k1]
      exact hnx2 _ ⟨F3.trans (F4.trans F5), hps (.inl h0)⟩
    · by_cases h2 : xw.toNat ≤ 8192 ∧ b ≤ xw.toNat - 1 ∧ xw.toNat - 1 < t
      · have e1 : ptrV b t xw = ((xw.toNat : Int) - 1, 0) := by rw [ptrV, if_neg h0, if_pos h2]
        rw [e1] at hP
        refine obj_Ptr_call (Gives.to hP fun w4 F4 => ?_)
        have hxw := h2.1
        have hx0 : 1 ≤ xw.toNat := by omega
        generalize xw.toNat = x at *
        simp (disch := (first | omega | decide | (simp only [World.size_alloc, World.size_setCell, World.size_drew, size_sets, List.mem_cons, List.not_mem_nil, or_false, not_false_eq_true] <;> omega) | fail)) only [↓rsObjW_3, rsObjW_1, Option.isNone_some, Option.isNone_none, tick_eq, tickV_eq, ne_eq, Int.reduceAdd, Int.reduceSub, Int.reduceMul, Int.reduceEq, Int.reduceLT, Int.reduceLE, Int.reduceToNat, Nat.reduceMul, Nat.reduceAdd, Nat.reduceSub, List.nil_append, List.cons_append, List.getElem?_toArray, List.getElem?_cons_zero, List.getElem?_cons_succ, List.setIfInBounds_toArray, List.set_cons_zero, List.set_cons_succ, Option.map_some, List.not_mem_nil, ←decide_not, k1]
        have hbs := bs_spec (c := cl) (R3.ext0 F4) hne (by omega) hsort ((x : Int) - 1)
        by_cases h3 : x - 1 ∈ l
        · have hin : (l.map fun (i : Nat) => (i : Int)).contains ((x : Int) - 1) = true := by
            rw [List.contains_iff_mem]
            exact List.mem_map.2 ⟨x - 1, h3, by omega⟩
          rw [hin] at hbs
          refine slices_BinarySearch_int_int_call (Yld.mono hbs ?_)
          rintro u w5 ⟨⟨k, rfl⟩, F5⟩
          simp (disch := (first | omega | decide | (simp only [World.size_alloc, World.size_setCell, World.size_drew, size_sets, List.mem_cons, List.not_mem_nil, or_false, not_false_eq_true] <;> omega) | fail)) only [↓rsObjW_3, rsObjW_1, Option.isNone_some, Option.isNone_none, tick_eq, tickV_eq, ne_eq, Int.reduceAdd, Int.reduceSub, Int.reduceMul, Int.reduceEq, Int.reduceLT, Int.reduceLE, Int.reduceToNat, Nat.reduceMul, Nat.reduceAdd, Nat.reduceSub, List.nil_append, List.cons_append, List.getElem?_toArray, List.getElem?_cons_zero, List.getElem?_cons_succ, List.setIfInBounds_toArray, List.set_cons_zero, List.set_cons_succ, Option.map_some, List.not_mem_nil, ←decide_not, k1]
          exact hnx2 _ ⟨F3.trans (F4.trans F5), hps (.inr ⟨hxw, hx0, h3⟩)⟩
        · have hin : (l.map fun (i : Nat) => (i : Int)).contains ((x : Int) - 1) = false := by
            rw [← Bool.not_eq_true, List.contains_iff_mem]
            intro h
            obtain ⟨i', h4, h5⟩ := List.mem_map.1 h
            have : i' = x - 1 := by omega
            exact h3 (this ▸ h4)
          rw [hin] at hbs
          refine slices_BinarySearch_int_int_call (Yld.mono hbs ?_)
          rintro u w5 ⟨⟨k, rfl⟩, F5⟩
          simp (disch := (first | omega | decide | (simp only [World.size_alloc, World.size_setCell, World.size_drew, size_sets, List.mem_cons, List.not_mem_nil, or_false, not_false_eq_true] <;> omega) | fail)) only [↓rsObjW_3, rsObjW_1, Option.isNone_some, Option.isNone_none, tick_eq, tickV_eq, ne_eq, Int.reduceAdd, Int.reduceSub, Int.reduceMul, Int.reduceEq, Int.reduceLT, Int.reduceLE, Int.reduceToNat, Nat.reduceMul, Nat.reduceAdd, Nat.reduceSub, List.nil_append, List.cons_append, List.getElem?_toArray, List.getElem?_cons_zero, List.getElem?_cons_succ, List.setIfInBounds_toArray, List.set_cons_zero, List.set_cons_succ, Option.map_some, List.not_mem_nil, ←decide_not, k1]
          exact ⟨⟨2, by trivial, hbad (fun h => by
            rcases h with h | ⟨_, _, h⟩
            · exact h0 h
            · exact h3 h)⟩, hX.trans (F4.trans F5)⟩
      · have e1 : ptrV b t xw = (0, 2) := by rw [ptrV, if_neg h0, if_neg h2]
        rw [e1] at hP
        refine obj_Ptr_call (Gives.to hP fun w4 F4 => ?_)
        simp (disch := (first | omega | decide | (simp only [World.size_alloc, World.size_setCell, World.size_drew, size_sets, List.mem_cons, List.not_mem_nil, or_false, not_false_eq_true] <;> omega) | fail)) only [↓rsObjW_3, rsObjW_1, Option.isNone_some, Option.isNone_none, tick_eq, tickV_eq, ne_eq, Int.reduceAdd, Int.reduceSub, Int.reduceMul, Int.reduceEq, Int.reduceLT, Int.reduceLE, Int.reduceToNat, Nat.reduceMul, Nat.reduceAdd, Nat.reduceSub, List.nil_append, List.cons_append, List.getElem?_toArray, List.getElem?_cons_zero, List.getElem?_cons_succ, List.setIfInBounds_toArray, List.set_cons_zero, List.set_cons_succ, Option.map_some, List.not_mem_nil, ←decide_not, k1]
        exact ⟨⟨2, by trivial, hbad (fun h => by
          rcases h with h | ⟨h4, h5, h6⟩
          · exact h0 h
          · have := hall _ h6
            have := szW_pos (x := wat ws (xw.toNat - 1))
            exact h2 ⟨h4, by omega, by omega⟩)⟩, hX.trans F4⟩
  · intro u v3 hu ⟨F3, hp⟩ nxt2
    simp only [List.map_cons, List.map_nil, List.cons.injEq, and_true] at hu
    rw [hu]
    have S3 := S1.ext0 (Fy.trans F3)
    have B3 := B.ext F3 (by simp)
    have kb := fun i => B3.cell (i := i)
    have ks := fun i => S3.blk.cell (i := i)
    unfold obj_Well_l2
    simp (disch := (first | omega | decide | (simp only [World.size_alloc, World.size_setCell, World.size_drew, size_sets, List.mem_cons, List.not_mem_nil, or_false, not_false_eq_true] <;> omega) | fail)) only [↓rsObjW_3, rsObjW_1, Option.isNone_some, Option.isNone_none, tick_eq, tickV_eq, ne_eq, Int.reduceAdd, Int.reduceSub, Int.reduceMul, Int.reduceEq, Int.reduceLT, Int.reduceLE, Int.reduceToNat, Nat.reduceMul, Nat.reduceAdd, Nat.reduceSub, List.nil_append, List.cons_append, List.getElem?_toArray, List.getElem?_cons_zero, List.getElem?_cons_succ, List.setIfInBounds_toArray, List.set_cons_zero, List.set_cons_succ, Option.map_some, List.not_mem_nil, ←decide_not, k1, kb, ks]
    have hsz := SizeW_spec hok v3
    rw [v1', v2', v4'] at hsz
    refine head_Size_call (Gives.to hsz fun w4 F4 => ?_)
    have S4 := S3.ext0 F4
    have k4 := fun i => S4.blk.cell (i := i)
    have kb4 := fun i => (B3.ext F4 (by simp)).cell (i := i)
    simp (disch := (first | omega | decide | (simp only [World.size_alloc, World.size_setCell, World.size_drew, size_sets, List.mem_cons, List.not_mem_nil, or_false, not_false_eq_true] <;> omega) | fail)) only [↓rsObjW_3, rsObjW_1, Option.isNone_some, Option.isNone_none, tick_eq, tickV_eq, ne_eq, Int.reduceAdd, Int.reduceSub, Int.reduceMul, Int.reduceEq, Int.reduceLT, Int.reduceLE, Int.reduceToNat, Nat.reduceMul, Nat.reduceAdd, Nat.reduceSub, List.nil_append, List.cons_append, List.getElem?_toArray, List.getElem?_cons_zero, List.getElem?_cons_succ, List.setIfInBounds_toArray, List.set_cons_zero, List.set_cons_succ, Option.map_some, List.not_mem_nil, ←decide_not, k1, kb, ks, k4, kb4]
    have e1 : ((o : Int) + 1 + (pN (wat ws o) : Int)) * 8 + (bN (wat ws o) : Int) = (((o + 1 + pN (wat ws o)) * 8 + bN (wat ws o) : Nat) : Int) := by omega
    have e2 : ((o : Int) + (szW (wat ws o) : Int)) * 8 - (((o + 1 + pN (wat ws o)) * 8 + bN (wat ws o) : Nat) : Int) = (((o + szW (wat ws o)) * 8 - ((o + 1 + pN (wat ws o)) * 8 + bN (wat ws o)) : Nat) : Int) := by omega
    rw [e1, e2]
    refine mem_Mem_Bytes_call (Yld.mono (Bytes_ok ((o + 1 + pN (wat ws o)) * 8 + bN (wat ws o)) ((o + szW (wat ws o)) * 8 - ((o + 1 + pN (wat ws o)) * 8 + bN (wat ws o))) S4.mem (by omega)) ?_)
    rintro u w5 ⟨F5, a5, c5, rfl, hc5, R5, U5⟩
    simp (disch := (first | omega | decide | (simp only [World.size_alloc, World.size_setCell, World.size_drew, size_sets, List.mem_cons, List.not_mem_nil, or_false, not_false_eq_true] <;> omega) | fail)) only [↓rsObjW_3, rsObjW_1, Option.isNone_some, Option.isNone_none, tick_eq, tickV_eq, ne_eq, Int.reduceAdd, Int.reduceSub, Int.reduceMul, Int.reduceEq, Int.reduceLT, Int.reduceLE, Int.reduceToNat, Nat.reduceMul, Nat.reduceAdd, Nat.reduceSub, List.nil_append, List.cons_append, List.getElem?_toArray, List.getElem?_cons_zero, List.getElem?_cons_succ, List.setIfInBounds_toArray, List.set_cons_zero, List.set_cons_succ, Option.map_some, List.not_mem_nil, ←decide_not, k1, kb, ks, k4, kb4]
    refine slices_ContainsFunc_byte_byte_call (Yld.mono (hasFunc_spec R5 (by rw [bytesW_length]; omega)) ?_)
    rintro u w6 ⟨⟨kk, rfl, g1, g2⟩, F6⟩
    have X6 := Fy.trans (F3.trans (F4.trans (F5.trans F6)))
    cases kk with
    | true =>
      simp (disch := (first | omega | decide | (simp only [World.size_alloc, World.size_setCell, World.size_drew, size_sets, List.mem_cons, List.not_mem_nil, or_false, not_false_eq_true] <;> omega) | fail)) only [↓rsObjW_3, rsObjW_1, Option.isNone_some, Option.isNone_none, tick_eq, tickV_eq, ne_eq, Int.reduceAdd, Int.reduceSub, Int.reduceMul, Int.reduceEq, Int.reduceLT, Int.reduceLE, Int.reduceToNat, Nat.reduceMul, Nat.reduceAdd, Nat.reduceSub, List.nil_append, List.cons_append, List.getElem?_toArray, List.getElem?_cons_zero, List.getElem?_cons_succ, List.setIfInBounds_toArray, List.set_cons_zero, List.set_cons_succ, Option.map_some, List.not_mem_nil, ←decide_not, k1, kb, ks, k4, kb4]
      refine ⟨⟨2, by trivial, WellIs.bad hob hmem (fun h => ?_)⟩, F.trans X6⟩
      obtain ⟨x, hx, hx0⟩ := g1 rfl
      unfold bytesW at hx
      obtain ⟨i, hi, rfl⟩ := List.mem_map.1 hx
      have hi' := List.mem_range.1 hi
      exact hx0 (h.2 _ (by omega) (by omega))
    | false =>
      simp (disch := (first | omega | decide | (simp only [World.size_alloc, World.size_setCell, World.size_drew, size_sets, List.mem_cons, List.not_mem_nil, or_false, not_false_eq_true] <;> omega) | fail)) only [↓rsObjW_3, rsObjW_1, Option.isNone_some, Option.isNone_none, tick_eq, tickV_eq, ne_eq, Int.reduceAdd, Int.reduceSub, Int.reduceMul, Int.reduceEq, Int.reduceLT, Int.reduceLE, Int.reduceToNat, Nat.reduceMul, Nat.reduceAdd, Nat.reduceSub, List.nil_append, List.cons_append, List.getElem?_toArray, List.getElem?_cons_zero, List.getElem?_cons_succ, List.setIfInBounds_toArray, List.set_cons_zero, List.set_cons_succ, Option.map_some, List.not_mem_nil, ←decide_not, k1, kb, ks, k4, kb4]
      refine hnx _ ⟨⟨F.trans X6, G.trans X6⟩, hqs (fun i hi => hp i hi) (fun j' h1 h2 => ?_)⟩
      refine g2 rfl _ ?_
      unfold bytesW
      refine List.mem_map.2 ⟨j' - ((o + 1 + pN (wat ws o)) * 8 + bN (wat ws o)), List.mem_range.2 (by omega), ?_⟩
      show byteW ws _ = _
      congr 1
      omega
end Go.Proofs.YtknineilpenbnaaDoor
set_option maxHeartbeats 4000000
namespace Go.Proofs.YtknineilpenbnaaDoor
open Go.Sh Go.RowKit

abbrev rsObjX_0 := (And.intro @xBox_r (And.intro @loadK_some (And.intro @loadsK_s (And.intro @loadsK_n (And.intro @loadsR_s (And.intro @loadsR_n (And.intro @storesK_s (And.intro @storesK_n (And.intro @xPick_t (And.intro @xPick_f (And.intro @xGuard_tt (And.intro @xGuard_ff (And.intro @xGuard_tf (And.intro @xGuard_ft (And.intro @xGuard_u 
  (And.intro @xNil_r (And.intro @xIf_t (And.intro @xBin_add' (And.intro @xBin_sub' (And.intro @xBin_mul' (And.intro @xBin_quo' (And.intro @xBin_rem' (And.intro @xIf_f (And.intro @xIf_tt (And.intro @xEx0 (And.intro @xEx1 (And.intro @xEx2 (And.intro @xEx3 (And.intro @xBin_eqs (And.intro @xBin_nes (And.intro @xUn_not (And.intro @xu8_add (And.intro @xu8_eql 
  (And.intro @xu8_lss (And.intro @xu16_add (And.intro @xu16_eql (And.intro @xu16_lss (And.intro @xu32_add (And.intro @xu32_eql (And.intro @xu32_lss (And.intro @xu64_add (And.intro @xu64_eql (And.intro @xu64_lss (And.intro @xi64_lss (And.intro @xi64_eql (And.intro @xMakeFunc_r (And.intro @xSq_r (And.intro @xPur_s (And.intro @xRd_s (And.intro @xRe_s 
  (And.intro @xDet_s (And.intro @xDet_ld (And.intro @xDet_ld2 (And.intro @xDet_ld3 (And.intro @xDet_ld4 (And.intro @xGuard_tt (And.intro @ld_3 (And.intro @ia_40 @ln_40))))))))))))))))))))))))))))))))))))))))))))))))))))))))))
abbrev rsObjX_1 := (And.intro @setCells_c (And.intro @setCells_n (And.intro @World.setCell_alloc_at (And.intro @World.setCell_alloc_past (And.intro @World.cell?_alloc_at (And.intro @World.cell?_alloc_past (And.intro @World.frozen?_alloc_at (And.intro @World.frozen?_alloc_past 
  (And.intro @World.size_alloc (And.intro @dlt_t (And.intro @dlt_f (And.intro @dle_t (And.intro @dle_f (And.intro @deq_t (And.intro @deq_f (And.intro @dne_t (And.intro @dne_f (And.intro @not_true_eq_false (And.intro @Bool.false_and (And.intro @Bool.true_and (And.intro @Bool.and_true (And.intro @Bool.and_false (And.intro @wrap_in (And.intro @Int.toNat_natCast 
  (And.intro @Nat.mul_one (And.intro @cells_int (And.intro @cells_bool (And.intro @cells_string (And.intro @cells_slice (And.intro @cells_pointer (And.intro @cells_agg (And.intro @one_int (And.intro @one_bool (And.intro @one_string (And.intro @one_slice (And.intro @one_pointer (And.intro @beq_tt (And.intro @beq_ff (And.intro @beq_tf 
  (And.intro @beq_ft (And.intro @cell_sets_b (And.intro @frozen_sets (And.intro @size_sets (And.intro @World.size_drew (And.intro @Nat.zero_add (And.intro @Nat.add_zero (And.intro @cell_drew (And.intro @frozen_drew (And.intro @cell_set_eq (And.intro @cell_set_o (And.intro @cell_set_b (And.intro @World.frozen?_setCell 
  (And.intro @decide_true (And.intro @decide_false (And.intro @not_false_eq_true (And.intro @Bool.not_true @Bool.not_false))))))))))))))))))))))))))))))))))))))))))))))))))))))))
theorem rAmong_spec {w : World} {l : List Nat} {a : Option Addr} {c : Nat} (h : RowAt w a (nums l)) (hl : l.length ≤ 1000000) (x : Nat) : Gives Tryd.prog n_loamref14_among #[.slice a l.length c, i64 (x : Int)] w (.bool (decide (x ∈ l))) := by
  refine loamref14_among_of ?_
  unfold loamref14_among
  simp (disch := (first | omega | decide | (simp only [World.size_alloc, World.size_setCell, World.size_drew, size_sets, List.mem_cons, List.not_mem_nil, or_false, not_false_eq_true] <;> omega) | fail)) only [↓rsObjX_0, rsObjX_1, Option.isNone_some, Option.isNone_none, tick_eq, tickV_eq, ne_eq, Int.reduceAdd, Int.reduceSub, Int.reduceMul, Int.reduceEq, Int.reduceLT, Int.reduceLE, Int.reduceToNat, Nat.reduceMul, Nat.reduceAdd, Nat.reduceSub, List.nil_append, List.cons_append, List.getElem?_toArray, List.getElem?_cons_zero, List.getElem?_cons_succ, List.setIfInBounds_toArray, List.set_cons_zero, List.set_cons_succ, Option.map_some, List.not_mem_nil, ←decide_not, eq_self]
  refine xLoop_n l.length (fun j => [i64 (j : Int)]) (fun j w' => Ext [] w w' ∧ ∀ i (hi : i < l.length), i < j → l[i] ≠ x) rfl ⟨Ext.refl _ _, by intro i _ hi; omega⟩ ?_ ?_
  · intro j hj u v1 hu ⟨F, hq⟩ nxt hnx
    simp only [List.map_cons, List.map_nil, List.cons.injEq, and_true] at hu
    rw [hu]
    obtain ⟨b1, o1, rfl, z1, k1⟩ := (h.ext0 F).at (i := j) (by simpa using hj)
    simp only [List.getElem_map] at k1
    have hm := List.getElem_mem hj
    unfold loamref14_among_l1
    by_cases he : l[j] = x
    · rw [he] at k1 hm
      simp (disch := (first | omega | decide | (simp only [World.size_alloc, World.size_setCell, World.size_drew, size_sets, List.mem_cons, List.not_mem_nil, or_false, not_false_eq_true] <;> omega) | fail)) only [↓rsObjX_0, rsObjX_1, Option.isNone_some, Option.isNone_none, tick_eq, tickV_eq, ne_eq, Int.reduceAdd, Int.reduceSub, Int.reduceMul, Int.reduceEq, Int.reduceLT, Int.reduceLE, Int.reduceToNat, Nat.reduceMul, Nat.reduceAdd, Nat.reduceSub, List.nil_append, List.cons_append, List.getElem?_toArray, List.getElem?_cons_zero, List.getElem?_cons_succ, List.setIfInBounds_toArray, List.set_cons_zero, List.set_cons_succ, Option.map_some, List.not_mem_nil, ←decide_not, k1]
      exact ⟨by rw [decide_eq_true hm], F⟩
    · generalize hy : l[j] = y at *
      simp (disch := (first | omega | decide | (simp only [World.size_alloc, World.size_setCell, World.size_drew, size_sets, List.mem_cons, List.not_mem_nil, or_false, not_false_eq_true] <;> omega) | fail)) only [↓rsObjX_0, rsObjX_1, Option.isNone_some, Option.isNone_none, tick_eq, tickV_eq, ne_eq, Int.reduceAdd, Int.reduceSub, Int.reduceMul, Int.reduceEq, Int.reduceLT, Int.reduceLE, Int.reduceToNat, Nat.reduceMul, Nat.reduceAdd, Nat.reduceSub, List.nil_append, List.cons_append, List.getElem?_toArray, List.getElem?_cons_zero, List.getElem?_cons_succ, List.setIfInBounds_toArray, List.set_cons_zero, List.set_cons_succ, Option.map_some, List.not_mem_nil, ←decide_not, k1]
      refine hnx _ ⟨F, fun i hi hij => ?_⟩
      by_cases e : i = j
      · subst e; rw [hy]; exact he
      · exact hq i hi (by omega)
  · intro u v1 hu ⟨F, hq⟩ nxt
    simp only [List.map_cons, List.map_nil, List.cons.injEq, and_true] at hu
    rw [hu]
    have hm : ¬ x ∈ l := fun hx => by
      obtain ⟨i, hi, he⟩ := List.getElem_of_mem hx
      exact hq i hi hi he
    unfold loamref14_among_l1
    simp (disch := (first | omega | decide | (simp only [World.size_alloc, World.size_setCell, World.size_drew, size_sets, List.mem_cons, List.not_mem_nil, or_false, not_false_eq_true] <;> omega) | fail)) only [↓rsObjX_0, rsObjX_1, Option.isNone_some, Option.isNone_none, tick_eq, tickV_eq, ne_eq, Int.reduceAdd, Int.reduceSub, Int.reduceMul, Int.reduceEq, Int.reduceLT, Int.reduceLE, Int.reduceToNat, Nat.reduceMul, Nat.reduceAdd, Nat.reduceSub, List.nil_append, List.cons_append, List.getElem?_toArray, List.getElem?_cons_zero, List.getElem?_cons_succ, List.setIfInBounds_toArray, List.set_cons_zero, List.set_cons_succ, Option.map_some, List.not_mem_nil, ←decide_not, eq_self]
    exact ⟨by rw [decide_eq_false hm], F⟩
abbrev rsObjX_2 := (And.intro @xBox_r (And.intro @loadK_some (And.intro @loadsK_s (And.intro @loadsK_n (And.intro @loadsR_s (And.intro @loadsR_n (And.intro @storesK_s (And.intro @storesK_n (And.intro @xPick_t (And.intro @xPick_f (And.intro @xGuard_tt (And.intro @xGuard_ff (And.intro @xGuard_tf (And.intro @xGuard_ft (And.intro @xGuard_u 
  (And.intro @xNil_r (And.intro @xIf_t (And.intro @xBin_add' (And.intro @xBin_sub' (And.intro @xBin_mul' (And.intro @xBin_quo' (And.intro @xBin_rem' (And.intro @xIf_f (And.intro @xIf_tt (And.intro @xEx0 (And.intro @xEx1 (And.intro @xEx2 (And.intro @xEx3 (And.intro @xBin_eqs (And.intro @xBin_nes (And.intro @xUn_not (And.intro @xu8_sub (And.intro @xu8_eql 
  (And.intro @xu8_lss (And.intro @xu16_sub (And.intro @xu16_eql (And.intro @xu16_lss (And.intro @xu32_sub (And.intro @xu32_eql (And.intro @xu32_lss (And.intro @xu64_sub (And.intro @xu64_eql (And.intro @xu64_lss (And.intro @xi64_lss (And.intro @xi64_eql (And.intro @xMakeFunc_r (And.intro @xSq_r (And.intro @xPur_s (And.intro @xRd_s (And.intro @xRe_s 
  (And.intro @xDet_s (And.intro @xDet_ld (And.intro @xDet_ld2 (And.intro @xDet_ld3 (And.intro @xDet_ld4 (And.intro @xGuard_tt @cv_69_3))))))))))))))))))))))))))))))))))))))))))))))))))))))))
theorem rPoints_spec {w : World} {l : List Nat} {a : Option Addr} {c : Nat} (h : RowAt w a (nums l)) (hl : l.length ≤ 1000000) (hb : ∀ y ∈ l, y < 8192) (x : BitVec 64) : Gives Tryd.prog n_loamref14_Points #[.slice a l.length c, u64 x] w (.bool (decide (PtrOk l x.toNat))) := by
  have hx := x.isLt
  refine loamref14_Points_of ?_
  unfold loamref14_Points
  by_cases h0 : x.toNat = 0
  · have hx0 : x = BitVec.ofNat 64 0 := BitVec.eq_of_toNat_eq h0
    subst hx0
    simp (disch := (first | omega | decide | (simp only [World.size_alloc, World.size_setCell, World.size_drew, size_sets, List.mem_cons, List.not_mem_nil, or_false, not_false_eq_true] <;> omega) | fail)) only [↓rsObjX_2, rsObjX_1, Option.isNone_some, Option.isNone_none, tick_eq, tickV_eq, ne_eq, Int.reduceAdd, Int.reduceSub, Int.reduceMul, Int.reduceEq, Int.reduceLT, Int.reduceLE, Int.reduceToNat, Nat.reduceMul, Nat.reduceAdd, Nat.reduceSub, List.nil_append, List.cons_append, List.getElem?_toArray, List.getElem?_cons_zero, List.getElem?_cons_succ, List.setIfInBounds_toArray, List.set_cons_zero, List.set_cons_succ, Option.map_some, List.not_mem_nil, ←decide_not, eq_self]
    exact ⟨by rw [decide_eq_true (.inl rfl)], Ext.refl _ _⟩
  have hne : x ≠ BitVec.ofNat 64 0 := fun h => h0 (by rw [h]; rfl)
  have hs : (x - BitVec.ofNat 64 1).toNat = x.toNat - 1 := by
    rw [BitVec.toNat_sub]
    have : (BitVec.ofNat 64 1).toNat = 1 := by decide
    omega
  have h30 : (BitVec.ofNat 64 1073741824).toNat = 1073741824 := by decide
  by_cases h1 : x.toNat - 1 < 1073741824
  · have hlt : decide ((x - BitVec.ofNat 64 1).toNat < (BitVec.ofNat 64 1073741824).toNat) = true := decide_eq_true (by omega)
    have hi : (x - BitVec.ofNat 64 1).toInt = ((x.toNat - 1 : Nat) : Int) := by rw [BitVec.toInt_eq_toNat_of_lt (by omega), hs]
    simp (disch := (first | omega | decide | (simp only [World.size_alloc, World.size_setCell, World.size_drew, size_sets, List.mem_cons, List.not_mem_nil, or_false, not_false_eq_true] <;> omega) | fail)) only [↓rsObjX_2, rsObjX_1, Option.isNone_some, Option.isNone_none, tick_eq, tickV_eq, ne_eq, Int.reduceAdd, Int.reduceSub, Int.reduceMul, Int.reduceEq, Int.reduceLT, Int.reduceLE, Int.reduceToNat, Nat.reduceMul, Nat.reduceAdd, Nat.reduceSub, List.nil_append, List.cons_append, List.getElem?_toArray, List.getElem?_cons_zero, List.getElem?_cons_succ, List.setIfInBounds_toArray, List.set_cons_zero, List.set_cons_succ, Option.map_some, List.not_mem_nil, ←decide_not, decide_eq_false hne, hlt, hi]
    refine loamref14_among_call (Gives.to (rAmong_spec h hl _) fun w1 F1 => ?_)
    simp (disch := (first | omega | decide | (simp only [World.size_alloc, World.size_setCell, World.size_drew, size_sets, List.mem_cons, List.not_mem_nil, or_false, not_false_eq_true] <;> omega) | fail)) only [↓rsObjX_2, rsObjX_1, Option.isNone_some, Option.isNone_none, tick_eq, tickV_eq, ne_eq, Int.reduceAdd, Int.reduceSub, Int.reduceMul, Int.reduceEq, Int.reduceLT, Int.reduceLE, Int.reduceToNat, Nat.reduceMul, Nat.reduceAdd, Nat.reduceSub, List.nil_append, List.cons_append, List.getElem?_toArray, List.getElem?_cons_zero, List.getElem?_cons_succ, List.setIfInBounds_toArray, List.set_cons_zero, List.set_cons_succ, Option.map_some, List.not_mem_nil, ←decide_not, decide_eq_false hne, hlt, hi]
    refine ⟨?_, F1⟩
    congr 1
    rw [decide_eq_decide]
    constructor
    · intro hm
      have := hb _ hm
      exact .inr ⟨by omega, by omega, hm⟩
    · rintro (h | ⟨_, _, h⟩)
      · exact absurd h h0
      · exact h
  · have hlt : decide ((x - BitVec.ofNat 64 1).toNat < (BitVec.ofNat 64 1073741824).toNat) = false := decide_eq_false (by omega)
    have hp : ¬ PtrOk l x.toNat := by
      rintro (h | ⟨h, _, _⟩)
      · exact h0 h
      · omega
    simp (disch := (first | omega | decide | (simp only [World.size_alloc, World.size_setCell, World.size_drew, size_sets, List.mem_cons, List.not_mem_nil, or_false, not_false_eq_true] <;> omega) | fail)) only [↓rsObjX_2, rsObjX_1, Option.isNone_some, Option.isNone_none, tick_eq, tickV_eq, ne_eq, Int.reduceAdd, Int.reduceSub, Int.reduceMul, Int.reduceEq, Int.reduceLT, Int.reduceLE, Int.reduceToNat, Nat.reduceMul, Nat.reduceAdd, Nat.reduceSub, List.nil_append, List.cons_append, List.getElem?_toArray, List.getElem?_cons_zero, List.getElem?_cons_succ, List.setIfInBounds_toArray, List.set_cons_zero, List.set_cons_succ, Option.map_some, List.not_mem_nil, ←decide_not, decide_eq_false hne, hlt]
    exact ⟨by rw [decide_eq_false hp], Ext.refl _ _⟩
section
variable {w : World} {m : Nat} {r : Option Addr} {c : Nat} {ws : List (BitVec 64)} {b t e : Nat}
abbrev rsObjX_3 := (And.intro @xBox_r (And.intro @loadK_some (And.intro @loadsK_s (And.intro @loadsK_n (And.intro @loadsR_s (And.intro @loadsR_n (And.intro @storesK_s (And.intro @storesK_n (And.intro @xPick_t (And.intro @xPick_f (And.intro @xGuard_tt (And.intro @xGuard_ff (And.intro @xGuard_tf (And.intro @xGuard_ft (And.intro @xGuard_u 
  (And.intro @xNil_r (And.intro @xIf_t (And.intro @xBin_add' (And.intro @xBin_sub' (And.intro @xBin_mul' (And.intro @xBin_quo' (And.intro @xBin_rem' (And.intro @xIf_f (And.intro @xIf_tt (And.intro @xEx0 (And.intro @xEx1 (And.intro @xEx2 (And.intro @xEx3 (And.intro @xBin_eqs (And.intro @xBin_nes (And.intro @xUn_not (And.intro @xu8_add (And.intro @xu8_mul 
  (And.intro @xu8_neq (And.intro @xu8_lss (And.intro @xu16_add (And.intro @xu16_mul (And.intro @xu16_neq (And.intro @xu16_lss (And.intro @xu32_add (And.intro @xu32_mul (And.intro @xu32_neq (And.intro @xu32_lss (And.intro @xu64_add (And.intro @xu64_mul (And.intro @xu64_neq (And.intro @xu64_lss (And.intro @xi64_lss (And.intro @xi64_neq (And.intro @xi64_neg 
  (And.intro @xMakeFunc_r (And.intro @xSq_r (And.intro @xPur_s (And.intro @xRd_s (And.intro @xRe_s (And.intro @xDet_s (And.intro @xDet_ld (And.intro @xDet_ld2 (And.intro @xDet_ld3 (And.intro @xDet_ld4 (And.intro @xGuard_tt (And.intro @ld_3 (And.intro @ld_44 (And.intro @ld_92 (And.intro @fa_48_0 (And.intro @fa_92_0 @fa_92_1))))))))))))))))))))))))))))))))))))))))))))))))))))))))))))))))))
theorem rPad_spec {o : Nat} (S : RfIs w m r c ws b t e) (hO : ObjAt ws b t o) : Yld Tryd.prog n_loamref14_Space_Pad #[ptr m, i64 (o : Int), hd (pN (wat ws o)) (bN (wat ws o)) false 0] w fun u w' => (∃ k : Bool, u = .bool k ∧ (k = true ↔ ¬ PadW ws o)) ∧ Ext [] w w' := by
  obtain ⟨v1, v2, v3, v4, v5, v6, v7, v8⟩ := okW_v hO.ok
  have q2 := S.te
  have q3 := S.el
  have q4 := S.len
  have hhi := hO.hi
  have hsz : ∀ w, Gives Tryd.prog n_loamref14_Size #[hd (pN (wat ws o)) (bN (wat ws o)) false 0] w (i64 (szW (wat ws o) : Int)) := fun w => by
    have := rSizeW_spec hO.ok w
    rw [v1, v2, v4] at this
    exact this
  refine loamref14_Space_Pad_of ?_
  unfold loamref14_Space_Pad
  simp (disch := (first | omega | decide | (simp only [World.size_alloc, World.size_setCell, World.size_drew, size_sets, List.mem_cons, List.not_mem_nil, or_false, not_false_eq_true] <;> omega) | fail)) only [↓rsObjX_3, rsObjX_1, Option.isNone_some, Option.isNone_none, tick_eq, tickV_eq, ne_eq, Int.reduceAdd, Int.reduceSub, Int.reduceMul, Int.reduceEq, Int.reduceLT, Int.reduceLE, Int.reduceToNat, Nat.reduceMul, Nat.reduceAdd, Nat.reduceSub, List.nil_append, List.cons_append, List.getElem?_toArray, List.getElem?_cons_zero, List.getElem?_cons_succ, List.setIfInBounds_toArray, List.set_cons_zero, List.set_cons_succ, Option.map_some, List.not_mem_nil, ←decide_not, eq_self]
  have B : Blk (w.alloc (.cells #[i64 (pN (wat ws o)), i64 (bN (wat ws o)), .bool false, i64 0] 92)) w.heap.size 92 [i64 (pN (wat ws o)), i64 (bN (wat ws o)), .bool false, i64 0] := Blk.at rfl
  have X : Ext [] w (w.alloc (.cells #[i64 (pN (wat ws o)), i64 (bN (wat ws o)), .bool false, i64 0] 92)) := Ext.alloc _ _ _
  generalize w.alloc (.cells #[i64 (pN (wat ws o)), i64 (bN (wat ws o)), .bool false, i64 0] 92) = y at *
  have e0 : 8 * ((o : Int) + 1 + (pN (wat ws o) : Int)) + (bN (wat ws o) : Int) = (((o + 1 + pN (wat ws o)) * 8 + bN (wat ws o) + 0 : Nat) : Int) := by omega
  rw [e0]
  refine xLoop_n ((o + szW (wat ws o)) * 8 - ((o + 1 + pN (wat ws o)) * 8 + bN (wat ws o))) (fun j => [i64 (((o + 1 + pN (wat ws o)) * 8 + bN (wat ws o) + j : Nat) : Int)]) (fun j w' => Ext [] y w' ∧ ∀ i, (o + 1 + pN (wat ws o)) * 8 + bN (wat ws o) ≤ i → i < (o + 1 + pN (wat ws o)) * 8 + bN (wat ws o) + j → byteW ws i = BitVec.ofNat 8 0) rfl ⟨Ext.refl _ _, by intro i _ _; omega⟩ ?_ ?_
  · intro j hj u v1 hu ⟨F, hq⟩ nxt hnx
    simp only [List.map_cons, List.map_nil, List.cons.injEq, and_true] at hu
    rw [hu]
    generalize hA : (o + 1 + pN (wat ws o)) * 8 + bN (wat ws o) = A at *
    have kb := fun i => (B.ext F (by simp)).cell (i := i)
    unfold loamref14_Space_Pad_l1
    simp (disch := (first | omega | decide | (simp only [World.size_alloc, World.size_setCell, World.size_drew, size_sets, List.mem_cons, List.not_mem_nil, or_false, not_false_eq_true] <;> omega) | fail)) only [↓rsObjX_3, rsObjX_1, Option.isNone_some, Option.isNone_none, tick_eq, tickV_eq, ne_eq, Int.reduceAdd, Int.reduceSub, Int.reduceMul, Int.reduceEq, Int.reduceLT, Int.reduceLE, Int.reduceToNat, Nat.reduceMul, Nat.reduceAdd, Nat.reduceSub, List.nil_append, List.cons_append, List.getElem?_toArray, List.getElem?_cons_zero, List.getElem?_cons_succ, List.setIfInBounds_toArray, List.set_cons_zero, List.set_cons_succ, Option.map_some, List.not_mem_nil, ←decide_not, kb]
    refine loamref14_Size_call (Gives.to (hsz _) fun w2 F2 => ?_)
    have S2 := S.ext0 (X.trans (F.trans F2))
    have k2 := fun i => S2.blk.cell (i := i)
    simp (disch := (first | omega | decide | (simp only [World.size_alloc, World.size_setCell, World.size_drew, size_sets, List.mem_cons, List.not_mem_nil, or_false, not_false_eq_true] <;> omega) | fail)) only [↓rsObjX_3, rsObjX_1, Option.isNone_some, Option.isNone_none, tick_eq, tickV_eq, ne_eq, Int.reduceAdd, Int.reduceSub, Int.reduceMul, Int.reduceEq, Int.reduceLT, Int.reduceLE, Int.reduceToNat, Nat.reduceMul, Nat.reduceAdd, Nat.reduceSub, List.nil_append, List.cons_append, List.getElem?_toArray, List.getElem?_cons_zero, List.getElem?_cons_succ, List.setIfInBounds_toArray, List.set_cons_zero, List.set_cons_succ, Option.map_some, List.not_mem_nil, ←decide_not, kb, k2]
    refine loamref14_byteAt_call (Gives.to (rByteAt_spec ws r c (A + j) S2.row (by omega) (by omega)) fun w3 F3 => ?_)
    have X3 := F.trans (F2.trans F3)
    by_cases hz : byteW ws (A + j) = BitVec.ofNat 8 0
    · rw [hz]
      simp (disch := (first | omega | decide | (simp only [World.size_alloc, World.size_setCell, World.size_drew, size_sets, List.mem_cons, List.not_mem_nil, or_false, not_false_eq_true] <;> omega) | fail)) only [↓rsObjX_3, rsObjX_1, Option.isNone_some, Option.isNone_none, tick_eq, tickV_eq, ne_eq, Int.reduceAdd, Int.reduceSub, Int.reduceMul, Int.reduceEq, Int.reduceLT, Int.reduceLE, Int.reduceToNat, Nat.reduceMul, Nat.reduceAdd, Nat.reduceSub, List.nil_append, List.cons_append, List.getElem?_toArray, List.getElem?_cons_zero, List.getElem?_cons_succ, List.setIfInBounds_toArray, List.set_cons_zero, List.set_cons_succ, Option.map_some, List.not_mem_nil, ←decide_not, kb, k2]
      have e2 : ((A + j : Nat) : Int) + 1 = ((A + (j + 1) : Nat) : Int) := by omega
      rw [e2]
      refine hnx _ ⟨X3, fun i h1 h2 => ?_⟩
      by_cases e : i = A + j
      · subst e; exact hz
      · exact hq i h1 (by omega)
    · generalize hbw : byteW ws (A + j) = bw at *
      simp (disch := (first | omega | decide | (simp only [World.size_alloc, World.size_setCell, World.size_drew, size_sets, List.mem_cons, List.not_mem_nil, or_false, not_false_eq_true] <;> omega) | fail)) only [↓rsObjX_3, rsObjX_1, Option.isNone_some, Option.isNone_none, tick_eq, tickV_eq, ne_eq, Int.reduceAdd, Int.reduceSub, Int.reduceMul, Int.reduceEq, Int.reduceLT, Int.reduceLE, Int.reduceToNat, Nat.reduceMul, Nat.reduceAdd, Nat.reduceSub, List.nil_append, List.cons_append, List.getElem?_toArray, List.getElem?_cons_zero, List.getElem?_cons_succ, List.setIfInBounds_toArray, List.set_cons_zero, List.set_cons_succ, Option.map_some, List.not_mem_nil, ←decide_not, kb, k2, decide_eq_true hz]
      refine ⟨⟨true, by trivial, ⟨fun _ h => ?_, fun _ => rfl⟩⟩, X.trans X3⟩
      exact hz (hbw ▸ h (A + j) (by omega) (by omega))
  · intro u v1 hu ⟨F, hq⟩ nxt
    simp only [List.map_cons, List.map_nil, List.cons.injEq, and_true] at hu
    rw [hu]
    generalize hA : (o + 1 + pN (wat ws o)) * 8 + bN (wat ws o) = A at *
    have kb := fun i => (B.ext F (by simp)).cell (i := i)
    unfold loamref14_Space_Pad_l1
    simp (disch := (first | omega | decide | (simp only [World.size_alloc, World.size_setCell, World.size_drew, size_sets, List.mem_cons, List.not_mem_nil, or_false, not_false_eq_true] <;> omega) | fail)) only [↓rsObjX_3, rsObjX_1, Option.isNone_some, Option.isNone_none, tick_eq, tickV_eq, ne_eq, Int.reduceAdd, Int.reduceSub, Int.reduceMul, Int.reduceEq, Int.reduceLT, Int.reduceLE, Int.reduceToNat, Nat.reduceMul, Nat.reduceAdd, Nat.reduceSub, List.nil_append, List.cons_append, List.getElem?_toArray, List.getElem?_cons_zero, List.getElem?_cons_succ, List.setIfInBounds_toArray, List.set_cons_zero, List.set_cons_succ, Option.map_some, List.not_mem_nil, ←decide_not, kb]
    refine loamref14_Size_call (Gives.to (hsz _) fun w2 F2 => ?_)
    simp (disch := (first | omega | decide | (simp only [World.size_alloc, World.size_setCell, World.size_drew, size_sets, List.mem_cons, List.not_mem_nil, or_false, not_false_eq_true] <;> omega) | fail)) only [↓rsObjX_3, rsObjX_1, Option.isNone_some, Option.isNone_none, tick_eq, tickV_eq, ne_eq, Int.reduceAdd, Int.reduceSub, Int.reduceMul, Int.reduceEq, Int.reduceLT, Int.reduceLE, Int.reduceToNat, Nat.reduceMul, Nat.reduceAdd, Nat.reduceSub, List.nil_append, List.cons_append, List.getElem?_toArray, List.getElem?_cons_zero, List.getElem?_cons_succ, List.setIfInBounds_toArray, List.set_cons_zero, List.set_cons_succ, Option.map_some, List.not_mem_nil, ←decide_not, kb]
    refine ⟨⟨false, by trivial, ⟨(fun h => by cases h), fun h => absurd (fun i h1 h2 => hq i (by omega) (by omega)) h⟩⟩, X.trans (F.trans F2)⟩
abbrev rsObjX_4 := (And.intro @xBox_r (And.intro @loadK_some (And.intro @loadsK_s (And.intro @loadsK_n (And.intro @loadsR_s (And.intro @loadsR_n (And.intro @storesK_s (And.intro @storesK_n (And.intro @xPick_t (And.intro @xPick_f (And.intro @xGuard_tt (And.intro @xGuard_ff (And.intro @xGuard_tf (And.intro @xGuard_ft (And.intro @xGuard_u 
  (And.intro @xNil_r (And.intro @xIf_t (And.intro @xBin_add' (And.intro @xBin_sub' (And.intro @xBin_mul' (And.intro @xBin_quo' (And.intro @xBin_rem' (And.intro @xIf_f (And.intro @xIf_tt (And.intro @xEx0 (And.intro @xEx1 (And.intro @xEx2 (And.intro @xEx3 (And.intro @xBin_eqs (And.intro @xBin_nes (And.intro @xUn_not (And.intro @xu8_add (And.intro @xu8_com 
  (And.intro @xu8_lss (And.intro @xu16_add (And.intro @xu16_com (And.intro @xu16_lss (And.intro @xu32_add (And.intro @xu32_com (And.intro @xu32_lss (And.intro @xu64_add (And.intro @xu64_com (And.intro @xu64_lss (And.intro @xi64_lss (And.intro @xMakeFunc_r (And.intro @xSq_r (And.intro @xPur_s (And.intro @xRd_s (And.intro @xRe_s (And.intro @xDet_s 
  (And.intro @xDet_ld (And.intro @xDet_ld2 (And.intro @xDet_ld3 (And.intro @xDet_ld4 (And.intro @xGuard_tt (And.intro @ld_3 (And.intro @ld_44 (And.intro @ld_69 (And.intro @ld_92 (And.intro @fa_48_0 (And.intro @fa_92_0 (And.intro @al_92 (And.intro @st_92 (And.intro @ia_40 (And.intro @ia_44 @ln_40)))))))))))))))))))))))))))))))))))))))))))))))))))))))))))))))))
theorem rWell_spec (S : RfIs w m r c ws b t e) : Yld Tryd.prog n_loamref14_Space_Well #[ptr m] w fun u w' => (∃ v, u = i64 v ∧ WellIs ws b t v) ∧ Ext [] w w' := by
  have q1 := S.bt
  have q2 := S.te
  have q3 := S.el
  have q4 := S.len
  refine loamref14_Space_Well_of ?_
  unfold loamref14_Space_Well
  refine loamref14_Space_Objects_call (Yld.mono (rObjects_spec S) ?_)
  intro u w1 hu
  cases hob : objs ws b t with
  | none =>
    rw [hob] at hu
    obtain ⟨rfl, F1⟩ := hu
    simp (disch := (first | omega | decide | (simp only [World.size_alloc, World.size_setCell, World.size_drew, size_sets, List.mem_cons, List.not_mem_nil, or_false, not_false_eq_true] <;> omega) | fail)) only [↓rsObjX_4, rsObjX_1, Option.isNone_some, Option.isNone_none, tick_eq, tickV_eq, ne_eq, Int.reduceAdd, Int.reduceSub, Int.reduceMul, Int.reduceEq, Int.reduceLT, Int.reduceLE, Int.reduceToNat, Nat.reduceMul, Nat.reduceAdd, Nat.reduceSub, List.nil_append, List.cons_append, List.getElem?_toArray, List.getElem?_cons_zero, List.getElem?_cons_succ, List.setIfInBounds_toArray, List.set_cons_zero, List.set_cons_succ, Option.map_some, List.not_mem_nil, ←decide_not, eq_self]
    exact ⟨⟨2, by trivial, .inr ⟨(fun ⟨l, h, _⟩ => by rw [hob] at h; cases h), rfl⟩⟩, F1⟩
  | some l =>
  rw [hob] at hu
  have ho := (objs_some S.bt).1 hob
  obtain ⟨hsort, hall⟩ := ho.sorted
  have hll : l.length ≤ 100000 := by have := ho.count; omega
  have hlb : ∀ y ∈ l, y < 8192 := fun y hy => by
    have := hall _ hy
    have := szW_pos (x := wat ws y)
    omega
  obtain ⟨v, rfl, F1, al, cl, rfl, hcl, Rl⟩ := hu
  simp (disch := (first | omega | decide | (simp only [World.size_alloc, World.size_setCell, World.size_drew, size_sets, List.mem_cons, List.not_mem_nil, or_false, not_false_eq_true] <;> omega) | fail)) only [↓rsObjX_4, rsObjX_1, Option.isNone_some, Option.isNone_none, tick_eq, tickV_eq, ne_eq, Int.reduceAdd, Int.reduceSub, Int.reduceMul, Int.reduceEq, Int.reduceLT, Int.reduceLE, Int.reduceToNat, Nat.reduceMul, Nat.reduceAdd, Nat.reduceSub, List.nil_append, List.cons_append, List.getElem?_toArray, List.getElem?_cons_zero, List.getElem?_cons_succ, List.setIfInBounds_toArray, List.set_cons_zero, List.set_cons_succ, Option.map_some, List.not_mem_nil, ←decide_not, eq_self]
  refine xLoop_n l.length (fun j => [i64 (j : Int)]) (fun j w' => (Ext [] w w' ∧ Ext [] w1 w') ∧ ∀ i (hi : i < l.length), i < j → PtrW ws l l[i] ∧ PadW ws l[i]) rfl ⟨⟨F1, Ext.refl _ _⟩, by intro i _ hi; omega⟩ ?_ ?_
  rotate_left
  · intro u v1 hu ⟨⟨F, G⟩, hq⟩ nxt
    simp only [List.map_cons, List.map_nil, List.cons.injEq, and_true] at hu
    rw [hu]
    unfold loamref14_Space_Well_l1
    simp (disch := (first | omega | decide | (simp only [World.size_alloc, World.size_setCell, World.size_drew, size_sets, List.mem_cons, List.not_mem_nil, or_false, not_false_eq_true] <;> omega) | fail)) only [↓rsObjX_4, rsObjX_1, Option.isNone_some, Option.isNone_none, tick_eq, tickV_eq, ne_eq, Int.reduceAdd, Int.reduceSub, Int.reduceMul, Int.reduceEq, Int.reduceLT, Int.reduceLE, Int.reduceToNat, Nat.reduceMul, Nat.reduceAdd, Nat.reduceSub, List.nil_append, List.cons_append, List.getElem?_toArray, List.getElem?_cons_zero, List.getElem?_cons_succ, List.setIfInBounds_toArray, List.set_cons_zero, List.set_cons_succ, Option.map_some, List.not_mem_nil, ←decide_not, eq_self]
    refine ⟨⟨0, by trivial, .inl ⟨⟨l, hob, fun o ho => ?_⟩, rfl⟩⟩, F⟩
    obtain ⟨i, hi, rfl⟩ := List.getElem_of_mem ho
    exact hq i hi hi
  intro j hj u v1 hu ⟨⟨F, G⟩, hq⟩ nxt hnx
  simp only [List.map_cons, List.map_nil, List.cons.injEq, and_true] at hu
  rw [hu]
  have hne : l ≠ [] := fun h => by subst h; simp at hj
  have hmem := List.getElem_mem hj
  obtain ⟨hlo, hok, hhi⟩ := hall _ hmem
  obtain ⟨v1', v2', v3', v4', v5', v6', v7', v8'⟩ := okW_v hok
  obtain ⟨bL, oL, rfl, zL, kL⟩ := (Rl.get (by simpa using hne))
  have kl : ∀ {w' : World}, Ext [] w1 w' → w'.cell? ⟨bL, oL + j, none⟩ = some (i64 (l[j] : Int)) := fun {w'} F' => by
    obtain ⟨b5, o5, h5, z5, k5⟩ := (Rl.ext0 F').at (i := j) (by simpa using hj)
    cases h5
    simpa only [List.getElem_map] using k5
  have hqs : PtrW ws l l[j] → PadW ws l[j] → ∀ i (hi : i < l.length), i < j + 1 → PtrW ws l l[i] ∧ PadW ws l[i] := fun h1 h2 i hi hij => by
    by_cases e : i = j
    · subst e; exact ⟨h1, h2⟩
    · exact hq i hi (by omega)
  generalize hol : l[j] = o at *
  have hO : ObjAt ws b t o := ⟨hlo, hok, hhi⟩
  have S1 := S.ext0 F
  have hrow : ∀ {w' : World} {i : Nat}, RfIs w' m r c ws b t e → i < ws.length → ∃ b1 o1, r = some ⟨b1, o1, none⟩ ∧ w'.cell? ⟨b1, o1 + i, none⟩ = some (u64 (wat ws i)) := fun {w' i} S' hi => by
    obtain ⟨b5, o5, h5, z5, k5⟩ := S'.row.at (i := i) (by simpa using hi)
    refine ⟨b5, o5, h5, ?_⟩
    simp only [List.getElem_map] at k5
    rw [k5]
    unfold wat
    rw [List.getD_eq_getElem?_getD, List.getElem?_eq_getElem hi]
    rfl
  have hot := hO.lt
  have hhd : ∀ w, Gives Tryd.prog n_loamref14_Unpack #[u64 (wat ws o)] w (.tuple #[hd (pN (wat ws o)) (bN (wat ws o)) false 0, i64 0]) := fun w => by
    have := rUnpack_spec (wat ws o) w
    rw [v1', v2', v3', v4', v5'] at this
    exact this
  have main : ∀ (y : World) (h : Nat), Ext [] v1 y → Blk y h 92 [i64 (pN (wat ws o)), i64 (bN (wat ws o)), .bool false, i64 0] →
      loamref14_Space_Well_j1 (fun u w' => (∃ v, u = i64 v ∧ WellIs ws b t v) ∧ Ext [] w w') nxt (ptr m) (.slice (some ⟨bL, oL, none⟩) l.length cl) (i64 (j : Int)) (.pointer (some ⟨h, 0, none⟩)) y := by
    intro y h Fy B
    have Sy := S1.ext0 Fy
    unfold loamref14_Space_Well_j1
    simp (disch := (first | omega | decide | (simp only [World.size_alloc, World.size_setCell, World.size_drew, size_sets, List.mem_cons, List.not_mem_nil, or_false, not_false_eq_true] <;> omega) | fail)) only [↓rsObjX_4, rsObjX_1, Option.isNone_some, Option.isNone_none, tick_eq, tickV_eq, ne_eq, Int.reduceAdd, Int.reduceSub, Int.reduceMul, Int.reduceEq, Int.reduceLT, Int.reduceLE, Int.reduceToNat, Nat.reduceMul, Nat.reduceAdd, Nat.reduceSub, List.nil_append, List.cons_append, List.getElem?_toArray, List.getElem?_cons_zero, List.getElem?_cons_succ, List.setIfInBounds_toArray, List.set_cons_zero, List.set_cons_succ, Option.map_some, List.not_mem_nil, ←decide_not, eq_self]
    refine xLoop_n (pN (wat ws o)) (fun i => [i64 (i : Int)]) (fun i w' => Ext [] y w' ∧ ∀ i', i' < i → PtrOk l (wat ws (o + 1 + i')).toNat) rfl ⟨Ext.refl _ _, by intro i hi; omega⟩ ?_ ?_
    · intro i hi u v3 hu ⟨F3, hp⟩ nxt2 hnx2
      simp only [List.map_cons, List.map_nil, List.cons.injEq, and_true] at hu
      rw [hu]
      have S3 := Sy.ext0 F3
      have G3 := G.trans (Fy.trans F3)
      have k3 := fun i => (B.ext F3 (by simp)).cell (i := i)
      have c3 := kl (G3.trans (Ext.drew [] v3))
      have S3d := S3.ext0 (Ext.drew [] v3)
      have ks3 := fun i => S3d.blk.cell (i := i)
      obtain ⟨b1, o1, hr1, kr1⟩ := hrow (i := o + 1 + i) S3d (by omega)
      have t1 : ((o : Int) + 1 + (i : Int)).toNat = o + 1 + i := by omega
      unfold loamref14_Space_Well_l3
      simp (disch := (first | omega | decide | (simp only [World.size_alloc, World.size_setCell, World.size_drew, size_sets, List.mem_cons, List.not_mem_nil, or_false, not_false_eq_true] <;> omega) | fail)) only [↓rsObjX_4, rsObjX_1, Option.isNone_some, Option.isNone_none, tick_eq, tickV_eq, ne_eq, Int.reduceAdd, Int.reduceSub, Int.reduceMul, Int.reduceEq, Int.reduceLT, Int.reduceLE, Int.reduceToNat, Nat.reduceMul, Nat.reduceAdd, Nat.reduceSub, List.nil_append, List.cons_append, List.getElem?_toArray, List.getElem?_cons_zero, List.getElem?_cons_succ, List.setIfInBounds_toArray, List.set_cons_zero, List.set_cons_succ, Option.map_some, List.not_mem_nil, ←decide_not, k3, c3, ks3, hr1, t1, kr1]
      refine loamref14_Points_call (Gives.to (rPoints_spec (Rl.ext0 (G3.trans (Ext.drew [] v3))) (by omega) hlb _) fun w4 F4d => ?_)
      have F4 := (Ext.drew [] _).trans F4d
      by_cases hpt : PtrOk l (wat ws (o + 1 + i)).toNat
      · rw [decide_eq_true hpt]
        simp (disch := (first | omega | decide | (simp only [World.size_alloc, World.size_setCell, World.size_drew, size_sets, List.mem_cons, List.not_mem_nil, or_false, not_false_eq_true] <;> omega) | fail)) only [↓rsObjX_4, rsObjX_1, Option.isNone_some, Option.isNone_none, tick_eq, tickV_eq, ne_eq, Int.reduceAdd, Int.reduceSub, Int.reduceMul, Int.reduceEq, Int.reduceLT, Int.reduceLE, Int.reduceToNat, Nat.reduceMul, Nat.reduceAdd, Nat.reduceSub, List.nil_append, List.cons_append, List.getElem?_toArray, List.getElem?_cons_zero, List.getElem?_cons_succ, List.setIfInBounds_toArray, List.set_cons_zero, List.set_cons_succ, Option.map_some, List.not_mem_nil, ←decide_not, k3, c3, ks3, hr1, t1, kr1]
        refine hnx2 _ ⟨F3.trans F4, fun i' hi' => ?_⟩
        by_cases e : i' = i
        · subst e; exact hpt
        · exact hp i' (by omega)
      · rw [decide_eq_false hpt]
        simp (disch := (first | omega | decide | (simp only [World.size_alloc, World.size_setCell, World.size_drew, size_sets, List.mem_cons, List.not_mem_nil, or_false, not_false_eq_true] <;> omega) | fail)) only [↓rsObjX_4, rsObjX_1, Option.isNone_some, Option.isNone_none, tick_eq, tickV_eq, ne_eq, Int.reduceAdd, Int.reduceSub, Int.reduceMul, Int.reduceEq, Int.reduceLT, Int.reduceLE, Int.reduceToNat, Nat.reduceMul, Nat.reduceAdd, Nat.reduceSub, List.nil_append, List.cons_append, List.getElem?_toArray, List.getElem?_cons_zero, List.getElem?_cons_succ, List.setIfInBounds_toArray, List.set_cons_zero, List.set_cons_succ, Option.map_some, List.not_mem_nil, ←decide_not, k3, c3, ks3, hr1, t1, kr1]
        exact ⟨⟨2, by trivial, WellIs.bad hob (hol ▸ hmem) (fun h1 => hpt (h1.1 i hi))⟩, F.trans (Fy.trans (F3.trans F4))⟩
    · intro u v3 hu ⟨F3, hp⟩ nxt2
      simp only [List.map_cons, List.map_nil, List.cons.injEq, and_true] at hu
      rw [hu]
      have S3 := Sy.ext0 F3
      have G3 := G.trans (Fy.trans F3)
      have k3 := fun i => (B.ext F3 (by simp)).cell (i := i)
      have c3 := kl (G3.trans (Ext.drew [] v3))
      have k3d := fun i => (B.ext (F3.trans (Ext.drew [] v3)) (by simp)).cell (i := i)
      unfold loamref14_Space_Well_l3
      simp (disch := (first | omega | decide | (simp only [World.size_alloc, World.size_setCell, World.size_drew, size_sets, List.mem_cons, List.not_mem_nil, or_false, not_false_eq_true] <;> omega) | fail)) only [↓rsObjX_4, rsObjX_1, Option.isNone_some, Option.isNone_none, tick_eq, tickV_eq, ne_eq, Int.reduceAdd, Int.reduceSub, Int.reduceMul, Int.reduceEq, Int.reduceLT, Int.reduceLE, Int.reduceToNat, Nat.reduceMul, Nat.reduceAdd, Nat.reduceSub, List.nil_append, List.cons_append, List.getElem?_toArray, List.getElem?_cons_zero, List.getElem?_cons_succ, List.setIfInBounds_toArray, List.set_cons_zero, List.set_cons_succ, Option.map_some, List.not_mem_nil, ←decide_not, k3, c3, k3d]
      refine loamref14_Space_Pad_call (Yld.mono (rPad_spec (S3.ext0 (Ext.drew [] v3)) hO) ?_)
      rintro u w4 ⟨⟨kk, rfl, hk⟩, F4d⟩
      have F4 := (Ext.drew [] _).trans F4d
      have X4 := Fy.trans (F3.trans F4)
      cases kk with
      | true =>
        simp (disch := (first | omega | decide | (simp only [World.size_alloc, World.size_setCell, World.size_drew, size_sets, List.mem_cons, List.not_mem_nil, or_false, not_false_eq_true] <;> omega) | fail)) only [↓rsObjX_4, rsObjX_1, Option.isNone_some, Option.isNone_none, tick_eq, tickV_eq, ne_eq, Int.reduceAdd, Int.reduceSub, Int.reduceMul, Int.reduceEq, Int.reduceLT, Int.reduceLE, Int.reduceToNat, Nat.reduceMul, Nat.reduceAdd, Nat.reduceSub, List.nil_append, List.cons_append, List.getElem?_toArray, List.getElem?_cons_zero, List.getElem?_cons_succ, List.setIfInBounds_toArray, List.set_cons_zero, List.set_cons_succ, Option.map_some, List.not_mem_nil, ←decide_not, k3, c3, k3d]
        exact ⟨⟨2, by trivial, WellIs.bad hob (hol ▸ hmem) (fun h1 => (hk.1 rfl) h1.2)⟩, F.trans X4⟩
      | false =>
        have hpad : PadW ws o := Classical.byContradiction fun h => by cases hk.2 h
        simp (disch := (first | omega | decide | (simp only [World.size_alloc, World.size_setCell, World.size_drew, size_sets, List.mem_cons, List.not_mem_nil, or_false, not_false_eq_true] <;> omega) | fail)) only [↓rsObjX_4, rsObjX_1, Option.isNone_some, Option.isNone_none, tick_eq, tickV_eq, ne_eq, Int.reduceAdd, Int.reduceSub, Int.reduceMul, Int.reduceEq, Int.reduceLT, Int.reduceLE, Int.reduceToNat, Nat.reduceMul, Nat.reduceAdd, Nat.reduceSub, List.nil_append, List.cons_append, List.getElem?_toArray, List.getElem?_cons_zero, List.getElem?_cons_succ, List.setIfInBounds_toArray, List.set_cons_zero, List.set_cons_succ, Option.map_some, List.not_mem_nil, ←decide_not, k3, c3, k3d]
        exact hnx _ ⟨⟨F.trans X4, G.trans X4⟩, hqs (fun i hi => hp i hi) hpad⟩
  have S1d := S1.ext0 (Ext.drew [] v1)
  have c1 := kl (G.trans (Ext.drew [] v1))
  have ks1 := fun i => S1d.blk.cell (i := i)
  obtain ⟨b1, o1, hr1, kr1⟩ := hrow (i := o) S1d (by omega)
  unfold loamref14_Space_Well_l1
  simp (disch := (first | omega | decide | (simp only [World.size_alloc, World.size_setCell, World.size_drew, size_sets, List.mem_cons, List.not_mem_nil, or_false, not_false_eq_true] <;> omega) | fail)) only [↓rsObjX_4, rsObjX_1, Option.isNone_some, Option.isNone_none, tick_eq, tickV_eq, ne_eq, Int.reduceAdd, Int.reduceSub, Int.reduceMul, Int.reduceEq, Int.reduceLT, Int.reduceLE, Int.reduceToNat, Nat.reduceMul, Nat.reduceAdd, Nat.reduceSub, List.nil_append, List.cons_append, List.getElem?_toArray, List.getElem?_cons_zero, List.getElem?_cons_succ, List.setIfInBounds_toArray, List.set_cons_zero, List.set_cons_succ, Option.map_some, List.not_mem_nil, ←decide_not, c1, ks1, hr1, kr1]
  refine xAlt_i ?_ ?_
  · refine loamref14_Unpack_call (Gives.to (hhd _) fun w2 F2d => ?_)
    have F2 := (Ext.drew [] _).trans F2d
    simp (disch := (first | omega | decide | (simp only [World.size_alloc, World.size_setCell, World.size_drew, size_sets, List.mem_cons, List.not_mem_nil, or_false, not_false_eq_true] <;> omega) | fail)) only [↓rsObjX_4, rsObjX_1, Option.isNone_some, Option.isNone_none, tick_eq, tickV_eq, ne_eq, Int.reduceAdd, Int.reduceSub, Int.reduceMul, Int.reduceEq, Int.reduceLT, Int.reduceLE, Int.reduceToNat, Nat.reduceMul, Nat.reduceAdd, Nat.reduceSub, List.nil_append, List.cons_append, List.getElem?_toArray, List.getElem?_cons_zero, List.getElem?_cons_succ, List.setIfInBounds_toArray, List.set_cons_zero, List.set_cons_succ, Option.map_some, List.not_mem_nil, ←decide_not, c1, ks1, hr1, kr1]
    exact main _ _ (F2.trans (Ext.alloc _ _ _)) (Blk.at rfl)
  · have B : Blk (v1.drew.alloc (.cells #[i64 0, i64 0, .bool false, i64 0] 92)) v1.drew.heap.size 92 [i64 0, i64 0, .bool false, i64 0] := Blk.at rfl
    have X : Ext [] v1 (v1.drew.alloc (.cells #[i64 0, i64 0, .bool false, i64 0] 92)) := (Ext.drew [] _).trans (Ext.alloc _ _ _)
    have zd : v1.heap.size ≤ v1.drew.heap.size := (Ext.drew [] v1).size
    have Sy := S1.ext0 X
    have cy := kl (G.trans X)
    have ky := fun i => Sy.blk.cell (i := i)
    obtain ⟨b2, o2, hr2, kr2⟩ := hrow (i := o) Sy (by omega)
    rw [hr1] at hr2
    cases hr2
    generalize v1.drew.heap.size = h at *
    generalize v1.drew.alloc (.cells #[i64 0, i64 0, .bool false, i64 0] 92) = y at *
    simp (disch := (first | omega | decide | (simp only [World.size_alloc, World.size_setCell, World.size_drew, size_sets, List.mem_cons, List.not_mem_nil, or_false, not_false_eq_true] <;> omega) | fail)) only [↓rsObjX_4, rsObjX_1, Option.isNone_some, Option.isNone_none, tick_eq, tickV_eq, ne_eq, Int.reduceAdd, Int.reduceSub, Int.reduceMul, Int.reduceEq, Int.reduceLT, Int.reduceLE, Int.reduceToNat, Nat.reduceMul, Nat.reduceAdd, Nat.reduceSub, List.nil_append, List.cons_append, List.getElem?_toArray, List.getElem?_cons_zero, List.getElem?_cons_succ, List.setIfInBounds_toArray, List.set_cons_zero, List.set_cons_succ, Option.map_some, List.not_mem_nil, ←decide_not, c1, ks1, hr1, kr1, cy, ky, kr2]
    refine loamref14_Unpack_call (Gives.to (hhd _) fun w2 F2 => ?_)
    have B2 := B.ext F2 (by simp)
    have kb := fun i => B2.cell (i := i)
    have fb := fun i => B2.frozen (i := i)
    simp (disch := (first | omega | decide | (simp only [World.size_alloc, World.size_setCell, World.size_drew, size_sets, List.mem_cons, List.not_mem_nil, or_false, not_false_eq_true] <;> omega) | fail)) only [↓rsObjX_4, rsObjX_1, Option.isNone_some, Option.isNone_none, tick_eq, tickV_eq, ne_eq, Int.reduceAdd, Int.reduceSub, Int.reduceMul, Int.reduceEq, Int.reduceLT, Int.reduceLE, Int.reduceToNat, Nat.reduceMul, Nat.reduceAdd, Nat.reduceSub, List.nil_append, List.cons_append, List.getElem?_toArray, List.getElem?_cons_zero, List.getElem?_cons_succ, List.setIfInBounds_toArray, List.set_cons_zero, List.set_cons_succ, Option.map_some, List.not_mem_nil, ←decide_not, c1, ks1, hr1, kr1, cy, ky, kr2, kb, fb]
    exact main _ _ (((((X.trans F2).set' (.inr zd)).set' (.inr zd)).set' (.inr zd)).set' (.inr zd)) ((((B2.set (i := 0) (v := i64 (pN (wat ws o)))).set (i := 1) (v := i64 (bN (wat ws o)))).set (i := 2) (v := .bool false)).set (i := 3) (v := i64 0))
end
end Go.Proofs.YtknineilpenbnaaDoor
set_option maxHeartbeats 4000000
namespace Go.Proofs.YtknineilpenbnaaDoor
open Go.Sh Go.RowKit Go.ChangeShapes Go.WideShapes Go.ChangeAt

abbrev rsObjE_0 := (And.intro @xBox_r (And.intro @loadK_some (And.intro @loadsK_s (And.intro @loadsK_n (And.intro @loadsR_s (And.intro @loadsR_n (And.intro @storesK_s (And.intro @storesK_n (And.intro @xPick_t (And.intro @xPick_f (And.intro @xGuard_tt (And.intro @xGuard_ff (And.intro @xGuard_tf (And.intro @xGuard_ft (And.intro @xGuard_u 
  (And.intro @xNil_r (And.intro @xIf_t (And.intro @xBin_add' (And.intro @xBin_sub' (And.intro @xBin_mul' (And.intro @xBin_quo' (And.intro @xBin_rem' (And.intro @xIf_f (And.intro @xIf_tt (And.intro @xEx0 (And.intro @xEx1 (And.intro @xEx2 (And.intro @xEx3 (And.intro @xBin_eqs (And.intro @xBin_nes (And.intro @xUn_not (And.intro @xu8_neq (And.intro @xu16_neq 
  (And.intro @xu32_neq (And.intro @xu64_neq (And.intro @xi64_neq (And.intro @xi64_neg (And.intro @xMakeFunc_r (And.intro @xSq_r (And.intro @xPur_s (And.intro @xRd_s (And.intro @xRe_s (And.intro @xDet_s (And.intro @xDet_ld (And.intro @xDet_ld2 (And.intro @xDet_ld3 (And.intro @xDet_ld4 @xGuard_tt)))))))))))))))))))))))))))))))))))))))))))))))
abbrev rsObjE_1 := (And.intro @setCells_c (And.intro @setCells_n (And.intro @World.setCell_alloc_at (And.intro @World.setCell_alloc_past (And.intro @World.cell?_alloc_at (And.intro @World.cell?_alloc_past (And.intro @World.frozen?_alloc_at (And.intro @World.frozen?_alloc_past 
  (And.intro @World.size_alloc (And.intro @dlt_t (And.intro @dlt_f (And.intro @dle_t (And.intro @dle_f (And.intro @deq_t (And.intro @deq_f (And.intro @dne_t (And.intro @dne_f (And.intro @not_true_eq_false (And.intro @Bool.false_and (And.intro @Bool.true_and (And.intro @Bool.and_true (And.intro @Bool.and_false (And.intro @wrap_in (And.intro @Int.toNat_natCast 
  (And.intro @Nat.mul_one (And.intro @cells_int (And.intro @cells_bool (And.intro @cells_string (And.intro @cells_slice (And.intro @cells_pointer (And.intro @cells_agg (And.intro @one_int (And.intro @one_bool (And.intro @one_string (And.intro @one_slice (And.intro @one_pointer (And.intro @beq_tt (And.intro @beq_ff (And.intro @beq_tf 
  (And.intro @beq_ft (And.intro @cell_sets_b (And.intro @frozen_sets (And.intro @size_sets (And.intro @World.size_drew (And.intro @Nat.zero_add (And.intro @Nat.add_zero (And.intro @cell_drew (And.intro @frozen_drew (And.intro @cell_set_eq (And.intro @cell_set_o (And.intro @cell_set_b (And.intro @World.frozen?_setCell 
  (And.intro @decide_true (And.intro @decide_false (And.intro @not_false_eq_true (And.intro @Bool.not_true @Bool.not_false))))))))))))))))))))))))))))))))))))))))))))))))))))))))
theorem To_spec (ws : List (BitVec 64)) (a : Option Addr) (c : Nat) (b t : Int) (w : World) (hl : ws.length ≤ 8192) (h : RowAt w a (wrds ws)) (hn : a = none → c = 0) :
    Yld Tryd.prog n_loamlaw16_To #[.slice a ws.length c, i64 b, i64 t, i64 (ws.length : Int)] w fun u w' => Ext [] w w' ∧ (u = .pointer none ∨ ∃ s g a' c' b' t', b = ((b' : Nat) : Int) ∧ t = ((t' : Nat) : Int) ∧ u = ptr s ∧ w.heap.size ≤ s ∧ SpIs w' w.heap.size s g a' c' ws b' t' ws.length) := by
  refine loamlaw16_To_of ?_
  unfold loamlaw16_To
  refine loamlaw15_Mem_call (Yld.mono (Mem15_spec ws a c w hl h hn) ?_)
  rintro u w1 ⟨F1, g, a', c', rfl, M⟩
  simp (disch := (first | omega | decide | (simp only [World.size_alloc, World.size_setCell, World.size_drew, size_sets, List.mem_cons, List.not_mem_nil, or_false, not_false_eq_true] <;> omega) | fail)) only [↓rsObjE_0, rsObjE_1, Option.isNone_some, Option.isNone_none, tick_eq, tickV_eq, ne_eq, Int.reduceAdd, Int.reduceSub, Int.reduceMul, Int.reduceEq, Int.reduceLT, Int.reduceLE, Int.reduceToNat, Nat.reduceMul, Nat.reduceAdd, Nat.reduceSub, List.nil_append, List.cons_append, List.getElem?_toArray, List.getElem?_cons_zero, List.getElem?_cons_succ, List.setIfInBounds_toArray, List.set_cons_zero, List.set_cons_succ, Option.map_some, List.not_mem_nil, ←decide_not, eq_self]
  by_cases hm : mayP b t (ws.length : Int) ws.length
  · have hm' := hm
    obtain ⟨h1, h2, h3, h4⟩ := hm'
    obtain ⟨b', rfl⟩ := Int.eq_ofNat_of_zero_le h1
    obtain ⟨t', rfl⟩ := Int.eq_ofNat_of_zero_le (Int.le_trans h1 h2)
    refine space_Of_call (Yld.mono (SOf_spec (b := b') (t := t') (e := ws.length) M (by omega) (by omega) (by omega)) ?_)
    rintro u w2 ⟨F2, hu⟩
    cases ho : objs ws b' t' with
    | none =>
      rw [ho] at hu
      subst hu
      simp (disch := (first | omega | decide | (simp only [World.size_alloc, World.size_setCell, World.size_drew, size_sets, List.mem_cons, List.not_mem_nil, or_false, not_false_eq_true] <;> omega) | fail)) only [↓rsObjE_0, rsObjE_1, Option.isNone_some, Option.isNone_none, tick_eq, tickV_eq, ne_eq, Int.reduceAdd, Int.reduceSub, Int.reduceMul, Int.reduceEq, Int.reduceLT, Int.reduceLE, Int.reduceToNat, Nat.reduceMul, Nat.reduceAdd, Nat.reduceSub, List.nil_append, List.cons_append, List.getElem?_toArray, List.getElem?_cons_zero, List.getElem?_cons_succ, List.setIfInBounds_toArray, List.set_cons_zero, List.set_cons_succ, Option.map_some, List.not_mem_nil, ←decide_not, eq_self]
      exact ⟨F1.trans F2, .inl (by trivial)⟩
    | some l =>
      rw [ho] at hu
      obtain ⟨s, rfl, zs, S⟩ := hu
      simp (disch := (first | omega | decide | (simp only [World.size_alloc, World.size_setCell, World.size_drew, size_sets, List.mem_cons, List.not_mem_nil, or_false, not_false_eq_true] <;> omega) | fail)) only [↓rsObjE_0, rsObjE_1, Option.isNone_some, Option.isNone_none, tick_eq, tickV_eq, ne_eq, Int.reduceAdd, Int.reduceSub, Int.reduceMul, Int.reduceEq, Int.reduceLT, Int.reduceLE, Int.reduceToNat, Nat.reduceMul, Nat.reduceAdd, Nat.reduceSub, List.nil_append, List.cons_append, List.getElem?_toArray, List.getElem?_cons_zero, List.getElem?_cons_succ, List.setIfInBounds_toArray, List.set_cons_zero, List.set_cons_succ, Option.map_some, List.not_mem_nil, ←decide_not, eq_self]
      have z1 := F1.size
      exact ⟨F1.trans F2, .inr ⟨s, g, a', c', b', t', by trivial, by trivial, by trivial, by omega, S⟩⟩
  · refine space_Of_call (Gives.to (SOf_bad M hm) fun w2 F2 => ?_)
    simp (disch := (first | omega | decide | (simp only [World.size_alloc, World.size_setCell, World.size_drew, size_sets, List.mem_cons, List.not_mem_nil, or_false, not_false_eq_true] <;> omega) | fail)) only [↓rsObjE_0, rsObjE_1, Option.isNone_some, Option.isNone_none, tick_eq, tickV_eq, ne_eq, Int.reduceAdd, Int.reduceSub, Int.reduceMul, Int.reduceEq, Int.reduceLT, Int.reduceLE, Int.reduceToNat, Nat.reduceMul, Nat.reduceAdd, Nat.reduceSub, List.nil_append, List.cons_append, List.getElem?_toArray, List.getElem?_cons_zero, List.getElem?_cons_succ, List.setIfInBounds_toArray, List.set_cons_zero, List.set_cons_succ, Option.map_some, List.not_mem_nil, ←decide_not, eq_self]
    exact ⟨F1.trans F2, .inl (by trivial)⟩
theorem ref_new {w : World} {l : List (BitVec 64)} {a : Option Addr} {c b t : Nat} (hr : RowAt w a (wrds l)) (hc : l.length ≤ c) (hn : a = none → c = 0) (hl : l.length ≤ 8192) (hb : b ≤ t) (ht : t ≤ l.length) :
    RfIs (w.alloc (.cells #[.slice a l.length c, i64 (b : Int), i64 (t : Int), i64 (l.length : Int)] 48)) w.heap.size a c l b t l.length := by
  refine ⟨Blk.at rfl, hr.ext0 (Ext.alloc _ _ _), hc, hn, ?_, by omega, by omega, by omega, by omega⟩
  intro hl2 hm2
  rcases hr.get (by simpa using hl2) with ⟨b5, o5, rfl, hb5, _⟩
  simp only [blkOf, List.mem_singleton] at hm2
  omega
end Go.Proofs.YtknineilpenbnaaDoor
set_option maxHeartbeats 4000000
namespace Go.Proofs.YtknineilpenbnaaDoor
open Go.Sh Go.RowKit Go.ChangeShapes Go.WideShapes Go.ChangeAt

structure OA where
  op : Int
  at' : Int
  i : Int
  n : Int
  b : List (BitVec 8)
abbrev OAct := OA × Option Addr × Nat
abbrev oaC (x : OAct) : List Value := [i64 x.1.op, i64 x.1.at', i64 x.1.i, i64 x.1.n, .slice x.2.1 x.1.b.length x.2.2]
theorem list5 {α : Type} {l : List α} (h : l.length = 5) : ∃ a b c d e, l = [a, b, c, d, e] := by
  match l, h with
  | [a, b, c, d, e], _ => exact ⟨a, b, c, d, e, rfl⟩
theorem oa_cells {W : World} {cs : List Value} (hl : cs.length = 5) (hc : ∀ (i : Nat) (d : Leaf) (c : Value), [Leaf.int .i64, .int .i64, .int .i64, .int .i64, .row .u8][i]? = some d → cs[i]? = some c → leafOk W d c) :
    ∃ x : OAct, cs = oaC x ∧ RowAt W x.2.1 (bys x.1.b) := by
  obtain ⟨c0, c1, c2, c3, c5, rfl⟩ := list5 hl
  obtain ⟨z0, rfl, _⟩ := hc 0 _ _ rfl rfl
  obtain ⟨z1, rfl, _⟩ := hc 1 _ _ rfl rfl
  obtain ⟨z2, rfl, _⟩ := hc 2 _ _ rfl rfl
  obtain ⟨z3, rfl, _⟩ := hc 3 _ _ rfl rfl
  obtain ⟨a, n, c, zs, rfl, q1, q2, q3, q4, q5, q6⟩ := hc 4 _ _ rfl rfl
  have B := bytesArg q1 q2 q3 q4 q5 q6
  refine ⟨(⟨z0, z1, z2, z3, zs.map (BitVec.ofInt 8)⟩, a, c), ?_, B.row⟩
  simp only [oaC]
  rw [← B.len]
structure OActsArg (w : World) (l : List OAct) (a : Option Addr) (n c : Nat) : Prop where
  len : n = l.length
  row : RowAt w a (l.flatMap oaC)
  each : ∀ x ∈ l, RowAt w x.2.1 (bys x.1.b)
set_option maxRecDepth 100000 in
theorem oacts_open {H : Type} {enc : TypeId × Value → H} {W : World} {base : Nat} {v : Value} {d : DataW H} {p : List MemPlace} (hv : Value.okWide Tryd.prog W .any base 51 v) (h : DataW.Trod enc Tryd.prog W 0 (fun _ => true) true 51 v d p) :
    ∃ a n c l, v = .slice a n c ∧ OActsArg W l a n c := by
  obtain ⟨a, n, c, C, rfl, hn, _, hnil, hall, hR⟩ := open_rows (F := 5) (l := [.int .i64, .int .i64, .int .i64, .int .i64, .row .u8]) Tryd.underlying51 (by kernel_rfl) (by decide) (by kernel_rfl) hv h
  have each : ∀ i, ∃ x : OAct, i < n → C i = oaC x ∧ RowAt W x.2.1 (bys x.1.b) := fun i => by
    by_cases hi : i < n
    · obtain ⟨x, h1, h2⟩ := oa_cells (hall i hi).1 (hall i hi).2
      exact ⟨x, fun _ => ⟨h1, h2⟩⟩
    · exact ⟨(⟨0, 0, 0, 0, []⟩, none, 0), fun h => absurd h hi⟩
  have hX : ∃ X : Nat → OAct, ∀ i, i < n → C i = oaC (X i) ∧ RowAt W (X i).2.1 (bys (X i).1.b) := ⟨fun i => Classical.choose (each i), fun i => Classical.choose_spec (each i)⟩
  obtain ⟨X, hX⟩ := hX
  refine ⟨a, n, c, (List.range n).map X, rfl, by simp, ?_, fun x hx => ?_⟩
  · rw [flat_map (f := oaC) (X := X) fun i hi => (hX i hi).1] at hR
    exact hR
  · obtain ⟨i, hi, rfl⟩ := List.mem_map.1 hx
    exact (hX i (List.mem_range.1 hi)).2
theorem oa_len (l : List OAct) : (l.flatMap oaC).length = l.length * 5 := by
  induction l with
  | nil => rfl
  | cons x l ih => rw [List.flatMap_cons, List.length_append, ih, List.length_cons]; simp [oaC]; omega
theorem oa_cell : ∀ (l : List OAct) (k : Nat) (h : k < l.length) (j : Nat), j < 5 → (l.flatMap oaC)[k * 5 + j]? = (oaC l[k])[j]? := by
  intro l
  induction l with
  | nil => intro k h; simp at h
  | cons x l ih =>
    intro k h j hj
    rw [List.flatMap_cons]
    cases k with
    | zero => rw [List.getElem?_append_left (by simp [oaC]; omega)]; simp
    | succ k =>
      rw [List.getElem?_append_right (by simp [oaC]; omega), show (k + 1) * 5 + j - (oaC x).length = k * 5 + j by simp [oaC]; omega]
      simpa using ih k (by simpa using h) j hj
theorem oa_at {w : World} {l : List OAct} {a : Option Addr} {k : Nat} (h : RowAt w a (l.flatMap oaC)) (hk : k < l.length) :
    ∃ b o, a = some ⟨b, o, none⟩ ∧ b < w.heap.size ∧ w.cell? ⟨b, o + k * 5, none⟩ = some (i64 l[k].1.op) ∧ w.cell? ⟨b, o + k * 5 + 1, none⟩ = some (i64 l[k].1.at') ∧ w.cell? ⟨b, o + k * 5 + 2, none⟩ = some (i64 l[k].1.i) ∧ w.cell? ⟨b, o + k * 5 + 3, none⟩ = some (i64 l[k].1.n) ∧ w.cell? ⟨b, o + k * 5 + 4, none⟩ = some (.slice l[k].2.1 l[k].1.b.length l[k].2.2) := by
  obtain ⟨b, o, rfl, hb, hc⟩ := h.get (by intro e; have := congrArg List.length e; rw [oa_len] at this; simp only [List.length_nil] at this; omega)
  refine ⟨b, o, rfl, hb, ?_, ?_, ?_, ?_, ?_⟩
  · have := hc (k * 5 + 0) _ ((oa_cell l k hk 0 (by omega)).trans rfl); simpa using this
  · have := hc (k * 5 + 1) _ ((oa_cell l k hk 1 (by omega)).trans rfl); rw [Nat.add_assoc]; exact this
  · have := hc (k * 5 + 2) _ ((oa_cell l k hk 2 (by omega)).trans rfl); rw [Nat.add_assoc]; exact this
  · have := hc (k * 5 + 3) _ ((oa_cell l k hk 3 (by omega)).trans rfl); rw [Nat.add_assoc]; exact this
  · have := hc (k * 5 + 4) _ ((oa_cell l k hk 4 (by omega)).trans rfl); rw [Nat.add_assoc]; exact this
/-- the program's space and the document's, apart -/
structure Two (w : World) (base s g : Nat) (a : Option Addr) (c m : Nat) (r : Option Addr) (cr : Nat) (ws : List (BitVec 64)) (b t e : Nat) : Prop where
  sp : SpIs w base s g a c ws b t e
  rf : RfIs w m r cr ws b t e
  sm : s ≠ m
  mg : m ≠ g
  ma : ws ≠ [] → m ∉ blkOf a
  ar : ws ≠ [] → ∀ x ∈ blkOf a, x ∉ blkOf r
theorem Two.ext0 {w w' : World} {base s g m : Nat} {a r : Option Addr} {c cr : Nat} {ws : List (BitVec 64)} {b t e : Nat} (h : Two w base s g a c m r cr ws b t e) (hx : Ext [] w w') : Two w' base s g a c m r cr ws b t e :=
  ⟨h.sp.ext0 hx, h.rf.ext0 hx, h.sm, h.mg, h.ma, h.ar⟩
def TwoI (w0 : World) (base s g : Nat) (a : Option Addr) (c m : Nat) (b t e n : Nat) (w : World) : Prop :=
  ∃ r cr ws, ws.length = n ∧ Two w base s g a c m r cr ws b t e ∧ Ext [] w0 w
section
variable {w0 : World} {base s g m : Nat} {a : Option Addr} {c b t e n j : Nat}
abbrev rsObjZ_0 := (And.intro @xBox_r (And.intro @loadK_some (And.intro @loadsK_s (And.intro @loadsK_n (And.intro @loadsR_s (And.intro @loadsR_n (And.intro @storesK_s (And.intro @storesK_n (And.intro @xPick_t (And.intro @xPick_f (And.intro @xGuard_tt (And.intro @xGuard_ff (And.intro @xGuard_tf (And.intro @xGuard_ft (And.intro @xGuard_u 
  (And.intro @xNil_r (And.intro @xIf_t (And.intro @xBin_add' (And.intro @xBin_sub' (And.intro @xBin_mul' (And.intro @xBin_quo' (And.intro @xBin_rem' (And.intro @xIf_f (And.intro @xIf_tt (And.intro @xEx0 (And.intro @xEx1 (And.intro @xEx2 (And.intro @xEx3 (And.intro @xBin_eqs (And.intro @xBin_nes (And.intro @xUn_not (And.intro @xu8_add (And.intro @xu8_com 
  (And.intro @xu8_neq (And.intro @xu16_add (And.intro @xu16_com (And.intro @xu16_neq (And.intro @xu32_add (And.intro @xu32_com (And.intro @xu32_neq (And.intro @xu64_add (And.intro @xu64_com (And.intro @xu64_neq (And.intro @xi64_neq (And.intro @xi64_neg (And.intro @xMakeFunc_r (And.intro @xSq_r (And.intro @xPur_s (And.intro @xRd_s (And.intro @xRe_s 
  (And.intro @xDet_s (And.intro @xDet_ld (And.intro @xDet_ld2 (And.intro @xDet_ld3 (And.intro @xDet_ld4 (And.intro @xGuard_tt (And.intro @ld_3 @fa_53_1)))))))))))))))))))))))))))))))))))))))))))))))))))))))))
abbrev rsObjZ_1 := (And.intro @setCells_c (And.intro @setCells_n (And.intro @World.setCell_alloc_at (And.intro @World.setCell_alloc_past (And.intro @World.cell?_alloc_at (And.intro @World.cell?_alloc_past (And.intro @World.frozen?_alloc_at (And.intro @World.frozen?_alloc_past 
  (And.intro @World.size_alloc (And.intro @dlt_t (And.intro @dlt_f (And.intro @dle_t (And.intro @dle_f (And.intro @deq_t (And.intro @deq_f (And.intro @dne_t (And.intro @dne_f (And.intro @not_true_eq_false (And.intro @Bool.false_and (And.intro @Bool.true_and (And.intro @Bool.and_true (And.intro @Bool.and_false (And.intro @wrap_in (And.intro @Int.toNat_natCast 
  (And.intro @Nat.mul_one (And.intro @cells_int (And.intro @cells_bool (And.intro @cells_string (And.intro @cells_slice (And.intro @cells_pointer (And.intro @cells_agg (And.intro @one_int (And.intro @one_bool (And.intro @one_string (And.intro @one_slice (And.intro @one_pointer (And.intro @beq_tt (And.intro @beq_ff (And.intro @beq_tf 
  (And.intro @beq_ft (And.intro @cell_sets_b (And.intro @frozen_sets (And.intro @size_sets (And.intro @World.size_drew (And.intro @Nat.zero_add (And.intro @Nat.add_zero (And.intro @cell_drew (And.intro @frozen_drew (And.intro @cell_set_eq (And.intro @cell_set_o (And.intro @cell_set_b (And.intro @World.frozen?_setCell 
  (And.intro @decide_true (And.intro @decide_false (And.intro @not_false_eq_true (And.intro @Bool.not_true @Bool.not_false))))))))))))))))))))))))))))))))))))))))))))))))))))))))
theorem play_tail {v : World} {x : OAct} {h : Nat} {K : K1} {nxt : List Value → World → Prop} (ht : Tab w0) (hI : TwoI w0 base s g a c m b t e n v) (B : Blk v h 53 (oaC x)) (hj : j ≤ 1000)
    (hnx : ∀ w', TwoI w0 base s g a c m b t e n w' → nxt [i64 ((j + 1 : Nat) : Int)] w') : loamlaw16_ObjectPlays_j1 K nxt (ptr s) (ptr m) (i64 (j : Int)) (.pointer (some ⟨h, 0, none⟩)) v := by
  obtain ⟨r, cr, ws, hwl, Bo, X⟩ := hI
  have e2 : ((j : Int) + 1) = ((j + 1 : Nat) : Int) := by omega
  have Bd := Bo.ext0 (Ext.drew [] v)
  unfold loamlaw16_ObjectPlays_j1
  simp (disch := (first | omega | decide | (simp only [World.size_alloc, World.size_setCell, World.size_drew, size_sets, List.mem_cons, List.not_mem_nil, or_false, not_false_eq_true] <;> omega) | fail)) only [↓rsObjZ_0, rsObjZ_1, Option.isNone_some, Option.isNone_none, tick_eq, tickV_eq, ne_eq, Int.reduceAdd, Int.reduceSub, Int.reduceMul, Int.reduceEq, Int.reduceLT, Int.reduceLE, Int.reduceToNat, Nat.reduceMul, Nat.reduceAdd, Nat.reduceSub, List.nil_append, List.cons_append, List.getElem?_toArray, List.getElem?_cons_zero, List.getElem?_cons_succ, List.setIfInBounds_toArray, List.set_cons_zero, List.set_cons_succ, Option.map_some, List.not_mem_nil, ←decide_not, eq_self]
  refine loamlaw15_Same_call (Gives.to (Same_spec Bd.sp Bd.rf) fun w1 F1d => ?_)
  have F1 := (Ext.drew [] v).trans F1d
  have B1 := Bo.ext0 F1
  simp (disch := (first | omega | decide | (simp only [World.size_alloc, World.size_setCell, World.size_drew, size_sets, List.mem_cons, List.not_mem_nil, or_false, not_false_eq_true] <;> omega) | fail)) only [↓rsObjZ_0, rsObjZ_1, Option.isNone_some, Option.isNone_none, tick_eq, tickV_eq, ne_eq, Int.reduceAdd, Int.reduceSub, Int.reduceMul, Int.reduceEq, Int.reduceLT, Int.reduceLE, Int.reduceToNat, Nat.reduceMul, Nat.reduceAdd, Nat.reduceSub, List.nil_append, List.cons_append, List.getElem?_toArray, List.getElem?_cons_zero, List.getElem?_cons_succ, List.setIfInBounds_toArray, List.set_cons_zero, List.set_cons_succ, Option.map_some, List.not_mem_nil, ←decide_not, eq_self]
  refine obj_Well_call (Yld.mono (Well_spec B1.sp) ?_)
  rintro u w2 ⟨⟨p, rfl, hp⟩, F2⟩
  have B2 := B1.ext0 F2
  simp (disch := (first | omega | decide | (simp only [World.size_alloc, World.size_setCell, World.size_drew, size_sets, List.mem_cons, List.not_mem_nil, or_false, not_false_eq_true] <;> omega) | fail)) only [↓rsObjZ_0, rsObjZ_1, Option.isNone_some, Option.isNone_none, tick_eq, tickV_eq, ne_eq, Int.reduceAdd, Int.reduceSub, Int.reduceMul, Int.reduceEq, Int.reduceLT, Int.reduceLE, Int.reduceToNat, Nat.reduceMul, Nat.reduceAdd, Nat.reduceSub, List.nil_append, List.cons_append, List.getElem?_toArray, List.getElem?_cons_zero, List.getElem?_cons_succ, List.setIfInBounds_toArray, List.set_cons_zero, List.set_cons_succ, Option.map_some, List.not_mem_nil, ←decide_not, eq_self]
  refine loamref14_Space_Well_call (Yld.mono (rWell_spec B2.rf) ?_)
  rintro u w3 ⟨⟨p', rfl, hp'⟩, F3⟩
  have hpe := hp.eq hp'
  subst hpe
  have B3 := B2.ext0 F3
  have F13 := F1.trans (F2.trans F3)
  have k3 := fun i => (B.ext F13 (by simp)).cell (i := i)
  simp (disch := (first | omega | decide | (simp only [World.size_alloc, World.size_setCell, World.size_drew, size_sets, List.mem_cons, List.not_mem_nil, or_false, not_false_eq_true] <;> omega) | fail)) only [↓rsObjZ_0, rsObjZ_1, Option.isNone_some, Option.isNone_none, tick_eq, tickV_eq, ne_eq, Int.reduceAdd, Int.reduceSub, Int.reduceMul, Int.reduceEq, Int.reduceLT, Int.reduceLE, Int.reduceToNat, Nat.reduceMul, Nat.reduceAdd, Nat.reduceSub, List.nil_append, List.cons_append, List.getElem?_toArray, List.getElem?_cons_zero, List.getElem?_cons_succ, List.setIfInBounds_toArray, List.set_cons_zero, List.set_cons_succ, Option.map_some, List.not_mem_nil, ←decide_not, k3]
  refine obj_Text_call (Yld.mono (Text_g x.1.at' B3.sp (ht.ext (X.trans F13))) ?_)
  rintro u w4 ⟨⟨l, rfl, hl⟩, F4⟩
  have B4 := B3.ext0 F4
  have k4 := fun i => (B.ext (F13.trans F4) (by simp)).cell (i := i)
  simp (disch := (first | omega | decide | (simp only [World.size_alloc, World.size_setCell, World.size_drew, size_sets, List.mem_cons, List.not_mem_nil, or_false, not_false_eq_true] <;> omega) | fail)) only [↓rsObjZ_0, rsObjZ_1, Option.isNone_some, Option.isNone_none, tick_eq, tickV_eq, ne_eq, Int.reduceAdd, Int.reduceSub, Int.reduceMul, Int.reduceEq, Int.reduceLT, Int.reduceLE, Int.reduceToNat, Nat.reduceMul, Nat.reduceAdd, Nat.reduceSub, List.nil_append, List.cons_append, List.getElem?_toArray, List.getElem?_cons_zero, List.getElem?_cons_succ, List.setIfInBounds_toArray, List.set_cons_zero, List.set_cons_succ, Option.map_some, List.not_mem_nil, ←decide_not, k3, k4]
  refine loamlaw16_text_call (Yld.mono (rText_g x.1.at' B4.rf) ?_)
  rintro u w5 ⟨⟨l', rfl, hl'⟩, F5⟩
  have hle := hl.eq hl'
  subst hle
  have dne : decide (strOf l ≠ strOf l) = false := decide_eq_false (fun h => h rfl)
  simp (disch := (first | omega | decide | (simp only [World.size_alloc, World.size_setCell, World.size_drew, size_sets, List.mem_cons, List.not_mem_nil, or_false, not_false_eq_true] <;> omega) | fail)) only [↓rsObjZ_0, rsObjZ_1, Option.isNone_some, Option.isNone_none, tick_eq, tickV_eq, ne_eq, Int.reduceAdd, Int.reduceSub, Int.reduceMul, Int.reduceEq, Int.reduceLT, Int.reduceLE, Int.reduceToNat, Nat.reduceMul, Nat.reduceAdd, Nat.reduceSub, List.nil_append, List.cons_append, List.getElem?_toArray, List.getElem?_cons_zero, List.getElem?_cons_succ, List.setIfInBounds_toArray, List.set_cons_zero, List.set_cons_succ, Option.map_some, List.not_mem_nil, ←decide_not, k3, k4, dne]
  rw [e2]
  exact hnx _ ⟨r, cr, ws, hwl, B4.ext0 F5, X.trans (F13.trans (F4.trans F5))⟩
end
end Go.Proofs.YtknineilpenbnaaDoor
set_option maxHeartbeats 4000000
namespace Go.Proofs.YtknineilpenbnaaDoor
open Go.Sh Go.RowKit Go.ChangeShapes Go.WideShapes Go.ChangeAt

section
variable {w0 : World} {base s g m : Nat} {a : Option Addr} {c b t e n j : Nat}
theorem setG_length (ws : List (BitVec 64)) (o i to : Int) : (setG ws b t o i to).length = ws.length := by unfold setG; split <;> simp
theorem wrG_length (ws : List (BitVec 64)) (o f : Int) (l : List (BitVec 8)) : (wrG ws b t o f l).length = ws.length := by unfold wrG; split; rw [setBytesW_length]; rfl
/-- the program's step, then the document's -/
theorem Two.step {w w1 w2 : World} {r : Option Addr} {cr : Nat} {ws ws' : List (BitVec 64)} (Bo : Two w base s g a c m r cr ws b t e) (hl : ws'.length = ws.length) (ub : w0.heap.size ≤ base) (um : w0.heap.size ≤ m) (X : Ext [] w0 w)
    (F1 : Ext (bO ws a) w w1) (S1 : SpIs w1 base s g a c ws' b t e) (hR : RfIs w1 m r cr ws b t e → RStep w1 w2 m r ws' b t e) : (RfIs w1 m r cr ws b t e) ∧ TwoI w0 base s g a c m b t e ws.length w2 := by
  have hbo : ∀ x ∈ bO ws a, ws ≠ [] ∧ x ∈ blkOf a := fun x hx => by
    unfold bO at hx
    split at hx
    · cases hx
    · exact ⟨by assumption, hx⟩
  have R1 : RfIs w1 m r cr ws b t e := Bo.rf.ext F1 (fun h => Bo.ma (hbo _ h).1 (hbo _ h).2) (fun hw x hx h => Bo.ar hw x (hbo _ h).2 hx)
  refine ⟨R1, ?_⟩
  obtain ⟨F2, r', cr', R2, U⟩ := hR R1
  have hne : ws' ≠ [] → ws ≠ [] := fun h h' => h (List.eq_nil_of_length_eq_zero (by rw [hl, h']; rfl))
  have S2 := S1.ext F2 (by simpa using Bo.sm) (by simpa using Bo.mg.symm) (fun hw x hx h => by
    simp only [List.mem_singleton] at h
    subst h
    exact Bo.ma (hne hw) hx)
  have za := S1.mem.blt
  have X1 : Ext [] w0 w1 := X.new F1 (fun x hx => Nat.le_trans ub (Bo.sp.mem.up x (hbo x hx).2))
  refine ⟨r', cr', ws', hl, ⟨S2, R2, Bo.sm, Bo.mg, fun hw => Bo.ma (hne hw), fun hw x hx h => ?_⟩, X1.new F2 (fun x hx => by simp only [List.mem_singleton] at hx; omega)⟩
  rcases U x h with h1 | h1
  · exact Bo.ar (hne hw) x hx h1
  · have := za hw x hx
    omega
abbrev rsObjH_0 := (And.intro @xBox_r (And.intro @loadK_some (And.intro @loadsK_s (And.intro @loadsK_n (And.intro @loadsR_s (And.intro @loadsR_n (And.intro @storesK_s (And.intro @storesK_n (And.intro @xPick_t (And.intro @xPick_f (And.intro @xGuard_tt (And.intro @xGuard_ff (And.intro @xGuard_tf (And.intro @xGuard_ft (And.intro @xGuard_u 
  (And.intro @xNil_r (And.intro @xIf_t (And.intro @xBin_add' (And.intro @xBin_sub' (And.intro @xBin_mul' (And.intro @xBin_quo' (And.intro @xBin_rem' (And.intro @xIf_f (And.intro @xIf_tt (And.intro @xEx0 (And.intro @xEx1 (And.intro @xEx2 (And.intro @xEx3 (And.intro @xBin_eqs (And.intro @xBin_nes (And.intro @xUn_not (And.intro @xu8_eql (And.intro @xu8_neq 
  (And.intro @xu8_lss (And.intro @xu8_gtr (And.intro @xu16_eql (And.intro @xu16_neq (And.intro @xu16_lss (And.intro @xu16_gtr (And.intro @xu32_eql (And.intro @xu32_neq (And.intro @xu32_lss (And.intro @xu32_gtr (And.intro @xu64_eql (And.intro @xu64_neq (And.intro @xu64_lss (And.intro @xu64_gtr (And.intro @xi64_lss (And.intro @xi64_gtr (And.intro @xi64_eql 
  (And.intro @xi64_neq (And.intro @xi64_neg (And.intro @xMakeFunc_r (And.intro @xSq_r (And.intro @xPur_s (And.intro @xRd_s (And.intro @xRe_s (And.intro @xDet_s (And.intro @xDet_ld (And.intro @xDet_ld2 (And.intro @xDet_ld3 (And.intro @xDet_ld4 (And.intro @xGuard_tt (And.intro @ld_3 (And.intro @ld_22 (And.intro @ld_53 (And.intro @fa_53_0 (And.intro @fa_53_1 
  (And.intro @fa_53_2 (And.intro @fa_53_3 (And.intro @fa_53_4 (And.intro @al_53 (And.intro @st_53 (And.intro @ia_51 (And.intro @ln_22 @ln_51)))))))))))))))))))))))))))))))))))))))))))))))))))))))))))))))))))))))))))
abbrev rsObjH_1 := (And.intro @setCells_c (And.intro @setCells_n (And.intro @World.setCell_alloc_at (And.intro @World.setCell_alloc_past (And.intro @World.cell?_alloc_at (And.intro @World.cell?_alloc_past (And.intro @World.frozen?_alloc_at (And.intro @World.frozen?_alloc_past 
  (And.intro @World.size_alloc (And.intro @dlt_t (And.intro @dlt_f (And.intro @dle_t (And.intro @dle_f (And.intro @deq_t (And.intro @deq_f (And.intro @dne_t (And.intro @dne_f (And.intro @not_true_eq_false (And.intro @Bool.false_and (And.intro @Bool.true_and (And.intro @Bool.and_true (And.intro @Bool.and_false (And.intro @wrap_in (And.intro @Int.toNat_natCast 
  (And.intro @Nat.mul_one (And.intro @cells_int (And.intro @cells_bool (And.intro @cells_string (And.intro @cells_slice (And.intro @cells_pointer (And.intro @cells_agg (And.intro @one_int (And.intro @one_bool (And.intro @one_string (And.intro @one_slice (And.intro @one_pointer (And.intro @beq_tt (And.intro @beq_ff (And.intro @beq_tf 
  (And.intro @beq_ft (And.intro @cell_sets_b (And.intro @frozen_sets (And.intro @size_sets (And.intro @World.size_drew (And.intro @Nat.zero_add (And.intro @Nat.add_zero (And.intro @cell_drew (And.intro @frozen_drew (And.intro @cell_set_eq (And.intro @cell_set_o (And.intro @cell_set_b (And.intro @World.frozen?_setCell 
  (And.intro @decide_true (And.intro @decide_false (And.intro @not_false_eq_true (And.intro @Bool.not_true @Bool.not_false))))))))))))))))))))))))))))))))))))))))))))))))))))))))
theorem play_step {v1 : World} {l : List OAct} {aA : Option Addr} {nA cA : Nat} (hA : OActsArg w0 l aA nA cA) (hj : j < l.length) (hl : l.length ≤ 60) (ht : Tab w0)
    (ub : w0.heap.size ≤ base) (um : w0.heap.size ≤ m) (hI : TwoI w0 base s g a c m b t e n v1) {nxt : List Value → World → Prop}
    (hnx : ∀ w', TwoI w0 base s g a c m b t e n w' → nxt [i64 ((j + 1 : Nat) : Int)] w') : loamlaw16_ObjectPlays_l1 (fun u w' => u = .bool true ∧ Ext [] w0 w') nxt (.slice aA nA cA) (ptr s) (ptr m) (i64 (j : Int)) v1 := by
  have hI' := hI
  obtain ⟨r, cr, ws, hwl, Bo, X⟩ := hI'
  have hnA := hA.len
  subst hnA
  obtain ⟨ba, oa, he, za, k0, k1, k2, k3, k4⟩ := oa_at (hA.row.ext0 X) hj
  have hrow0 := hA.each _ (List.getElem_mem hj)
  generalize l[j] = x at *
  unfold loamlaw16_ObjectPlays_l1
  simp (disch := (first | omega | decide | (simp only [World.size_alloc, World.size_setCell, World.size_drew, size_sets, List.mem_cons, List.not_mem_nil, or_false, not_false_eq_true] <;> omega) | fail)) only [↓rsObjH_0, rsObjH_1, Option.isNone_some, Option.isNone_none, tick_eq, tickV_eq, ne_eq, Int.reduceAdd, Int.reduceSub, Int.reduceMul, Int.reduceEq, Int.reduceLT, Int.reduceLE, Int.reduceToNat, Nat.reduceMul, Nat.reduceAdd, Nat.reduceSub, List.nil_append, List.cons_append, List.getElem?_toArray, List.getElem?_cons_zero, List.getElem?_cons_succ, List.setIfInBounds_toArray, List.set_cons_zero, List.set_cons_succ, Option.map_some, List.not_mem_nil, ←decide_not, he, k0, k1, k2, k3, k4]
  have Bk : Blk (v1.alloc (.cells #[i64 x.1.op, i64 x.1.at', i64 x.1.i, i64 x.1.n, .slice x.2.1 x.1.b.length x.2.2] 53)) v1.heap.size 53 (oaC x) := Blk.at rfl
  have X1 : Ext [] v1 (v1.alloc (.cells #[i64 x.1.op, i64 x.1.at', i64 x.1.i, i64 x.1.n, .slice x.2.1 x.1.b.length x.2.2] 53)) := Ext.alloc _ _ _
  have hfr : ∀ z ∈ bO ws a, v1.heap.size ≠ z := fun z hz => by
    unfold bO at hz
    split at hz
    · cases hz
    · rename_i hw
      have := Bo.sp.mem.blt hw z hz
      omega
  have Boy := Bo.ext0 X1
  have Xy := X.trans X1
  by_cases hbig : 300 < x.1.b.length
  · simp (disch := (first | omega | decide | (simp only [World.size_alloc, World.size_setCell, World.size_drew, size_sets, List.mem_cons, List.not_mem_nil, or_false, not_false_eq_true] <;> omega) | fail)) only [↓rsObjH_0, rsObjH_1, Option.isNone_some, Option.isNone_none, tick_eq, tickV_eq, ne_eq, Int.reduceAdd, Int.reduceSub, Int.reduceMul, Int.reduceEq, Int.reduceLT, Int.reduceLE, Int.reduceToNat, Nat.reduceMul, Nat.reduceAdd, Nat.reduceSub, List.nil_append, List.cons_append, List.getElem?_toArray, List.getElem?_cons_zero, List.getElem?_cons_succ, List.setIfInBounds_toArray, List.set_cons_zero, List.set_cons_succ, Option.map_some, List.not_mem_nil, ←decide_not, he, k0, k1, k2, k3, k4]
    exact ⟨by trivial, Xy⟩
  have hTI : TwoI w0 base s g a c m b t e n (v1.alloc (.cells #[i64 x.1.op, i64 x.1.at', i64 x.1.i, i64 x.1.n, .slice x.2.1 x.1.b.length x.2.2] 53)) := ⟨r, cr, ws, hwl, Boy, Xy⟩
  subst hwl
  have hj2 : j ≤ 1000 := by omega
  have hrow := hrow0.ext0 Xy
  have zm := Bo.rf.blk.lt
  generalize v1.heap.size = h at *
  generalize v1.alloc (.cells #[i64 x.1.op, i64 x.1.at', i64 x.1.i, i64 x.1.n, .slice x.2.1 x.1.b.length x.2.2] 53) = y at *
  have ky := fun i => Bk.cell (i := i)
  have fin : ∀ w', TwoI w0 base s g a c m b t e ws.length w' → Blk w' h 53 (oaC x) → loamlaw16_ObjectPlays_j1 (fun u w' => u = .bool true ∧ Ext [] w0 w') nxt (ptr s) (ptr m) (i64 (j : Int)) (.pointer (some ⟨h, 0, none⟩)) w' := fun w' h1 h2 => play_tail ht h1 h2 hj2 hnx
  by_cases o1 : x.1.op = 1
  · simp (disch := (first | omega | decide | (simp only [World.size_alloc, World.size_setCell, World.size_drew, size_sets, List.mem_cons, List.not_mem_nil, or_false, not_false_eq_true] <;> omega) | fail)) only [↓rsObjH_0, rsObjH_1, Option.isNone_some, Option.isNone_none, tick_eq, tickV_eq, ne_eq, Int.reduceAdd, Int.reduceSub, Int.reduceMul, Int.reduceEq, Int.reduceLT, Int.reduceLE, Int.reduceToNat, Nat.reduceMul, Nat.reduceAdd, Nat.reduceSub, List.nil_append, List.cons_append, List.getElem?_toArray, List.getElem?_cons_zero, List.getElem?_cons_succ, List.setIfInBounds_toArray, List.set_cons_zero, List.set_cons_succ, Option.map_some, List.not_mem_nil, ←decide_not, he, k0, k1, k2, k3, k4, ky, o1]
    have hP := Ptr_g x.1.at' x.1.i Boy.sp
    refine obj_Ptr_call (Gives.to hP fun w2 F2 => ?_)
    have Bo2 := Boy.ext0 F2
    have hQ := rPtr_g x.1.at' x.1.i Bo2.rf
    have k2 := fun i => (Bk.ext F2 (by simp)).cell (i := i)
    generalize hpr : ptrG ws b t x.1.at' x.1.i = pr at *
    obtain ⟨p, er⟩ := pr
    simp (disch := (first | omega | decide | (simp only [World.size_alloc, World.size_setCell, World.size_drew, size_sets, List.mem_cons, List.not_mem_nil, or_false, not_false_eq_true] <;> omega) | fail)) only [↓rsObjH_0, rsObjH_1, Option.isNone_some, Option.isNone_none, tick_eq, tickV_eq, ne_eq, Int.reduceAdd, Int.reduceSub, Int.reduceMul, Int.reduceEq, Int.reduceLT, Int.reduceLE, Int.reduceToNat, Nat.reduceMul, Nat.reduceAdd, Nat.reduceSub, List.nil_append, List.cons_append, List.getElem?_toArray, List.getElem?_cons_zero, List.getElem?_cons_succ, List.setIfInBounds_toArray, List.set_cons_zero, List.set_cons_succ, Option.map_some, List.not_mem_nil, ←decide_not, he, k0, k1, k2, k3, k4, ky, o1]
    refine loamref14_Space_Ptr_call (Gives.to hQ fun w3 F3 => ?_)
    by_cases her : er = 0
    · simp (disch := (first | omega | decide | (simp only [World.size_alloc, World.size_setCell, World.size_drew, size_sets, List.mem_cons, List.not_mem_nil, or_false, not_false_eq_true] <;> omega) | fail)) only [↓rsObjH_0, rsObjH_1, Option.isNone_some, Option.isNone_none, tick_eq, tickV_eq, ne_eq, Int.reduceAdd, Int.reduceSub, Int.reduceMul, Int.reduceEq, Int.reduceLT, Int.reduceLE, Int.reduceToNat, Nat.reduceMul, Nat.reduceAdd, Nat.reduceSub, List.nil_append, List.cons_append, List.getElem?_toArray, List.getElem?_cons_zero, List.getElem?_cons_succ, List.setIfInBounds_toArray, List.set_cons_zero, List.set_cons_succ, Option.map_some, List.not_mem_nil, ←decide_not, he, k0, k1, k2, k3, k4, ky, o1]
      exact fin _ ⟨r, cr, ws, rfl, Bo2.ext0 F3, Xy.trans (F2.trans F3)⟩ (Bk.ext (F2.trans F3) (by simp))
    · simp (disch := (first | omega | decide | (simp only [World.size_alloc, World.size_setCell, World.size_drew, size_sets, List.mem_cons, List.not_mem_nil, or_false, not_false_eq_true] <;> omega) | fail)) only [↓rsObjH_0, rsObjH_1, Option.isNone_some, Option.isNone_none, tick_eq, tickV_eq, ne_eq, Int.reduceAdd, Int.reduceSub, Int.reduceMul, Int.reduceEq, Int.reduceLT, Int.reduceLE, Int.reduceToNat, Nat.reduceMul, Nat.reduceAdd, Nat.reduceSub, List.nil_append, List.cons_append, List.getElem?_toArray, List.getElem?_cons_zero, List.getElem?_cons_succ, List.setIfInBounds_toArray, List.set_cons_zero, List.set_cons_succ, Option.map_some, List.not_mem_nil, ←decide_not, he, k0, k1, k2, k3, k4, ky, o1]
      exact fin _ ⟨r, cr, ws, rfl, Bo2.ext0 F3, Xy.trans (F2.trans F3)⟩ (Bk.ext (F2.trans F3) (by simp))
  by_cases o2 : x.1.op = 2
  · have Bd := Boy.ext0 (Ext.drew [] y)
    have Xd := Xy.trans (Ext.drew [] y)
    have kd := fun i => (Bk.ext (Ext.drew [] y) (by simp)).cell (i := i)
    simp (disch := (first | omega | decide | (simp only [World.size_alloc, World.size_setCell, World.size_drew, size_sets, List.mem_cons, List.not_mem_nil, or_false, not_false_eq_true] <;> omega) | fail)) only [↓rsObjH_0, rsObjH_1, Option.isNone_some, Option.isNone_none, tick_eq, tickV_eq, ne_eq, Int.reduceAdd, Int.reduceSub, Int.reduceMul, Int.reduceEq, Int.reduceLT, Int.reduceLE, Int.reduceToNat, Nat.reduceMul, Nat.reduceAdd, Nat.reduceSub, List.nil_append, List.cons_append, List.getElem?_toArray, List.getElem?_cons_zero, List.getElem?_cons_succ, List.setIfInBounds_toArray, List.set_cons_zero, List.set_cons_succ, Option.map_some, List.not_mem_nil, ←decide_not, he, k0, k1, k2, k3, k4, ky, o2, kd]
    refine obj_SetPtr_call (Yld.mono (SetPtr_g x.1.at' x.1.i x.1.n Bd.sp) ?_)
    rintro u w2 ⟨rfl, F2, S2⟩
    have Bk2 := (Bk.ext (Ext.drew [] y) (by simp)).ext F2 (fun hz => hfr _ hz rfl)
    have k2 := fun i => Bk2.cell (i := i)
    have hst := fun w3 => Bd.step (w2 := w3) (setG_length (b := b) (t := t) ws x.1.at' x.1.i x.1.n) ub um Xd F2 S2
    have R2 := (Bd.rf.ext F2 (fun hz => Bd.ma (fun e => by rw [e] at hz; simp [bO] at hz) (by unfold bO at hz; split at hz; cases hz; exact hz)) (fun hw z hz hz2 => Bd.ar hw z (by unfold bO at hz2; split at hz2; cases hz2; exact hz2) hz))
    simp (disch := (first | omega | decide | (simp only [World.size_alloc, World.size_setCell, World.size_drew, size_sets, List.mem_cons, List.not_mem_nil, or_false, not_false_eq_true] <;> omega) | fail)) only [↓rsObjH_0, rsObjH_1, Option.isNone_some, Option.isNone_none, tick_eq, tickV_eq, ne_eq, Int.reduceAdd, Int.reduceSub, Int.reduceMul, Int.reduceEq, Int.reduceLT, Int.reduceLE, Int.reduceToNat, Nat.reduceMul, Nat.reduceAdd, Nat.reduceSub, List.nil_append, List.cons_append, List.getElem?_toArray, List.getElem?_cons_zero, List.getElem?_cons_succ, List.setIfInBounds_toArray, List.set_cons_zero, List.set_cons_succ, Option.map_some, List.not_mem_nil, ←decide_not, he, k0, k1, k2, k3, k4, ky, o2, kd]
    refine loamref14_Space_SetPtr_call (Yld.mono (rSetPtr_g x.1.at' x.1.i x.1.n R2) ?_)
    rintro u w3 ⟨rfl, hS⟩
    have hT := (hst w3 (fun _ => hS)).2
    have Bk3 := Bk2.ext hS.1 (by simp; omega)
    generalize setE ws b t x.1.at' x.1.i x.1.n = er at *
    simp (disch := (first | omega | decide | (simp only [World.size_alloc, World.size_setCell, World.size_drew, size_sets, List.mem_cons, List.not_mem_nil, or_false, not_false_eq_true] <;> omega) | fail)) only [↓rsObjH_0, rsObjH_1, Option.isNone_some, Option.isNone_none, tick_eq, tickV_eq, ne_eq, Int.reduceAdd, Int.reduceSub, Int.reduceMul, Int.reduceEq, Int.reduceLT, Int.reduceLE, Int.reduceToNat, Nat.reduceMul, Nat.reduceAdd, Nat.reduceSub, List.nil_append, List.cons_append, List.getElem?_toArray, List.getElem?_cons_zero, List.getElem?_cons_succ, List.setIfInBounds_toArray, List.set_cons_zero, List.set_cons_succ, Option.map_some, List.not_mem_nil, ←decide_not, he, k0, k1, k2, k3, k4, ky, o2, kd]
    exact fin _ hT Bk3
  by_cases o3 : x.1.op = 3
  · simp (disch := (first | omega | decide | (simp only [World.size_alloc, World.size_setCell, World.size_drew, size_sets, List.mem_cons, List.not_mem_nil, or_false, not_false_eq_true] <;> omega) | fail)) only [↓rsObjH_0, rsObjH_1, Option.isNone_some, Option.isNone_none, tick_eq, tickV_eq, ne_eq, Int.reduceAdd, Int.reduceSub, Int.reduceMul, Int.reduceEq, Int.reduceLT, Int.reduceLE, Int.reduceToNat, Nat.reduceMul, Nat.reduceAdd, Nat.reduceSub, List.nil_append, List.cons_append, List.getElem?_toArray, List.getElem?_cons_zero, List.getElem?_cons_succ, List.setIfInBounds_toArray, List.set_cons_zero, List.set_cons_succ, Option.map_some, List.not_mem_nil, ←decide_not, he, k0, k1, k2, k3, k4, ky, o3]
    refine obj_Read_call (Yld.mono (Read_g x.1.at' x.1.i x.1.n Boy.sp) ?_)
    rintro u w2 ⟨F2, a2, c2, rfl, R2, U2⟩
    have Bo2 := Boy.ext0 F2
    have k2 := fun i => (Bk.ext F2 (by simp)).cell (i := i)
    have hQ := rRead_g x.1.at' x.1.i x.1.n Bo2.rf
    generalize rdE ws b t x.1.at' x.1.i x.1.n = er at *
    generalize rdG ws b t x.1.at' x.1.i x.1.n = Z at *
    simp (disch := (first | omega | decide | (simp only [World.size_alloc, World.size_setCell, World.size_drew, size_sets, List.mem_cons, List.not_mem_nil, or_false, not_false_eq_true] <;> omega) | fail)) only [↓rsObjH_0, rsObjH_1, Option.isNone_some, Option.isNone_none, tick_eq, tickV_eq, ne_eq, Int.reduceAdd, Int.reduceSub, Int.reduceMul, Int.reduceEq, Int.reduceLT, Int.reduceLE, Int.reduceToNat, Nat.reduceMul, Nat.reduceAdd, Nat.reduceSub, List.nil_append, List.cons_append, List.getElem?_toArray, List.getElem?_cons_zero, List.getElem?_cons_succ, List.setIfInBounds_toArray, List.set_cons_zero, List.set_cons_succ, Option.map_some, List.not_mem_nil, ←decide_not, he, k0, k1, k2, k3, k4, ky, o3]
    refine loamref14_Space_Read_call (Yld.mono hQ ?_)
    rintro u w3 ⟨F3, a3, c3, rfl, R3⟩
    have s3 := strB (c := c2) rfl (R2.ext0 F3)
    have s4 := strB (c := c3) rfl R3
    have dne : decide (strOf Z ≠ strOf Z) = false := decide_eq_false (fun h => h rfl)
    simp (disch := (first | omega | decide | (simp only [World.size_alloc, World.size_setCell, World.size_drew, size_sets, List.mem_cons, List.not_mem_nil, or_false, not_false_eq_true] <;> omega) | fail)) only [↓rsObjH_0, rsObjH_1, Option.isNone_some, Option.isNone_none, tick_eq, tickV_eq, ne_eq, Int.reduceAdd, Int.reduceSub, Int.reduceMul, Int.reduceEq, Int.reduceLT, Int.reduceLE, Int.reduceToNat, Nat.reduceMul, Nat.reduceAdd, Nat.reduceSub, List.nil_append, List.cons_append, List.getElem?_toArray, List.getElem?_cons_zero, List.getElem?_cons_succ, List.setIfInBounds_toArray, List.set_cons_zero, List.set_cons_succ, Option.map_some, List.not_mem_nil, ←decide_not, he, k0, k1, k2, k3, k4, ky, o3, s3, s4, dne]
    exact fin _ ⟨r, cr, ws, rfl, Bo2.ext0 F3, Xy.trans (F2.trans F3)⟩ (Bk.ext (F2.trans F3) (by simp))
  by_cases o4 : x.1.op = 4
  · have Bd := Boy.ext0 (Ext.drew [] y)
    have Xd := Xy.trans (Ext.drew [] y)
    have kd := fun i => (Bk.ext (Ext.drew [] y) (by simp)).cell (i := i)
    simp (disch := (first | omega | decide | (simp only [World.size_alloc, World.size_setCell, World.size_drew, size_sets, List.mem_cons, List.not_mem_nil, or_false, not_false_eq_true] <;> omega) | fail)) only [↓rsObjH_0, rsObjH_1, Option.isNone_some, Option.isNone_none, tick_eq, tickV_eq, ne_eq, Int.reduceAdd, Int.reduceSub, Int.reduceMul, Int.reduceEq, Int.reduceLT, Int.reduceLE, Int.reduceToNat, Nat.reduceMul, Nat.reduceAdd, Nat.reduceSub, List.nil_append, List.cons_append, List.getElem?_toArray, List.getElem?_cons_zero, List.getElem?_cons_succ, List.setIfInBounds_toArray, List.set_cons_zero, List.set_cons_succ, Option.map_some, List.not_mem_nil, ←decide_not, he, k0, k1, k2, k3, k4, ky, o4, kd]
    refine obj_Write_call (Yld.mono (Write_g x.1.at' x.1.i x.1.b x.2.1 x.2.2 Bd.sp (hrow.ext0 (Ext.drew [] y)) (fun hne z o hz hm => by
      obtain ⟨b9, o9, h9, z9, _⟩ := hrow0.get (by simpa using hne)
      rw [hz] at h9
      simp only [Option.some.injEq, Addr.mk.injEq, and_true] at h9
      have := Bd.sp.mem.up z hm
      omega)) ?_)
    rintro u w2 ⟨rfl, F2, S2⟩
    have Bk2 := (Bk.ext (Ext.drew [] y) (by simp)).ext F2 (fun hz => hfr _ hz rfl)
    have k2 := fun i => Bk2.cell (i := i)
    have hst := fun w3 => Bd.step (w2 := w3) (wrG_length (b := b) (t := t) ws x.1.at' x.1.i x.1.b) ub um Xd F2 S2
    have R2 := (Bd.rf.ext F2 (fun hz => Bd.ma (fun e => by rw [e] at hz; simp [bO] at hz) (by unfold bO at hz; split at hz; cases hz; exact hz)) (fun hw z hz hz2 => Bd.ar hw z (by unfold bO at hz2; split at hz2; cases hz2; exact hz2) hz))
    have X2 : Ext [] w0 w2 := Xd.new F2 (fun z hz => by
      unfold bO at hz
      split at hz
      · cases hz
      · exact Nat.le_trans ub (Bd.sp.mem.up z hz))
    simp (disch := (first | omega | decide | (simp only [World.size_alloc, World.size_setCell, World.size_drew, size_sets, List.mem_cons, List.not_mem_nil, or_false, not_false_eq_true] <;> omega) | fail)) only [↓rsObjH_0, rsObjH_1, Option.isNone_some, Option.isNone_none, tick_eq, tickV_eq, ne_eq, Int.reduceAdd, Int.reduceSub, Int.reduceMul, Int.reduceEq, Int.reduceLT, Int.reduceLE, Int.reduceToNat, Nat.reduceMul, Nat.reduceAdd, Nat.reduceSub, List.nil_append, List.cons_append, List.getElem?_toArray, List.getElem?_cons_zero, List.getElem?_cons_succ, List.setIfInBounds_toArray, List.set_cons_zero, List.set_cons_succ, Option.map_some, List.not_mem_nil, ←decide_not, he, k0, k1, k2, k3, k4, ky, o4, kd]
    refine loamref14_Space_Write_call (Yld.mono (rWrite_g x.1.at' x.1.i x.1.b x.2.1 x.2.2 R2 (hrow0.ext0 X2) (by omega)) ?_)
    rintro u w3 ⟨rfl, hS⟩
    have hT := (hst w3 (fun _ => hS)).2
    have Bk3 := Bk2.ext hS.1 (by simp; omega)
    generalize rdE ws b t x.1.at' x.1.i x.1.b.length = er at *
    simp (disch := (first | omega | decide | (simp only [World.size_alloc, World.size_setCell, World.size_drew, size_sets, List.mem_cons, List.not_mem_nil, or_false, not_false_eq_true] <;> omega) | fail)) only [↓rsObjH_0, rsObjH_1, Option.isNone_some, Option.isNone_none, tick_eq, tickV_eq, ne_eq, Int.reduceAdd, Int.reduceSub, Int.reduceMul, Int.reduceEq, Int.reduceLT, Int.reduceLE, Int.reduceToNat, Nat.reduceMul, Nat.reduceAdd, Nat.reduceSub, List.nil_append, List.cons_append, List.getElem?_toArray, List.getElem?_cons_zero, List.getElem?_cons_succ, List.setIfInBounds_toArray, List.set_cons_zero, List.set_cons_succ, Option.map_some, List.not_mem_nil, ←decide_not, he, k0, k1, k2, k3, k4, ky, o4, kd]
    exact fin _ hT Bk3
  simp (disch := (first | omega | decide | (simp only [World.size_alloc, World.size_setCell, World.size_drew, size_sets, List.mem_cons, List.not_mem_nil, or_false, not_false_eq_true] <;> omega) | fail)) only [↓rsObjH_0, rsObjH_1, Option.isNone_some, Option.isNone_none, tick_eq, tickV_eq, ne_eq, Int.reduceAdd, Int.reduceSub, Int.reduceMul, Int.reduceEq, Int.reduceLT, Int.reduceLE, Int.reduceToNat, Nat.reduceMul, Nat.reduceAdd, Nat.reduceSub, List.nil_append, List.cons_append, List.getElem?_toArray, List.getElem?_cons_zero, List.getElem?_cons_succ, List.setIfInBounds_toArray, List.set_cons_zero, List.set_cons_succ, Option.map_some, List.not_mem_nil, ←decide_not, he, k0, k1, k2, k3, k4, ky]
  exact fin _ hTI Bk
abbrev rsObjH_2 := (And.intro @xBox_r (And.intro @loadK_some (And.intro @loadsK_s (And.intro @loadsK_n (And.intro @loadsR_s (And.intro @loadsR_n (And.intro @storesK_s (And.intro @storesK_n (And.intro @xPick_t (And.intro @xPick_f (And.intro @xGuard_tt (And.intro @xGuard_ff (And.intro @xGuard_tf (And.intro @xGuard_ft (And.intro @xGuard_u 
  (And.intro @xNil_r (And.intro @xIf_t (And.intro @xBin_add' (And.intro @xBin_sub' (And.intro @xBin_mul' (And.intro @xBin_quo' (And.intro @xBin_rem' (And.intro @xIf_f (And.intro @xIf_tt (And.intro @xEx0 (And.intro @xEx1 (And.intro @xEx2 (And.intro @xEx3 (And.intro @xBin_eqs (And.intro @xBin_nes (And.intro @xUn_not (And.intro @xu8_com (And.intro @xu8_eql 
  (And.intro @xu8_neq (And.intro @xu8_lss (And.intro @xu8_gtr (And.intro @xu16_com (And.intro @xu16_eql (And.intro @xu16_neq (And.intro @xu16_lss (And.intro @xu16_gtr (And.intro @xu32_com (And.intro @xu32_eql (And.intro @xu32_neq (And.intro @xu32_lss (And.intro @xu32_gtr (And.intro @xu64_com (And.intro @xu64_eql (And.intro @xu64_neq (And.intro @xu64_lss 
  (And.intro @xu64_gtr (And.intro @xi64_lss (And.intro @xi64_gtr (And.intro @xi64_eql (And.intro @xi64_neq (And.intro @xi64_neg (And.intro @xMakeFunc_r (And.intro @xSq_r (And.intro @xPur_s (And.intro @xRd_s (And.intro @xRe_s (And.intro @xDet_s (And.intro @xDet_ld (And.intro @xDet_ld2 (And.intro @xDet_ld3 (And.intro @xDet_ld4 (And.intro @xGuard_tt 
  (And.intro @ld_3 (And.intro @ld_22 (And.intro @ld_53 (And.intro @fa_53_0 (And.intro @fa_53_1 (And.intro @fa_53_2 (And.intro @fa_53_3 (And.intro @fa_53_4 (And.intro @al_53 (And.intro @st_53 (And.intro @bd_48_0_1_2_3 (And.intro @ia_51 (And.intro @ln_22 (And.intro @ln_44 (And.intro @ln_51 (And.intro @bs_44_0 @nq_28)))))))))))))))))))))))))))))))))))))))))))))))))))))))))))))))))))))))))))))))))))
theorem ObjectPlays_spec (l : List (BitVec 64)) (a : Option Addr) (n c : Nat) (bi ti : Int) (acts : List OAct) (aA : Option Addr) (nA cA : Nat) (w : World) (ha : WordsArg w l a n c) (hA : OActsArg w acts aA nA cA) (ht : Tab w) :
    Gives Tryd.prog n_loamlaw16_ObjectPlays #[.slice a n c, i64 bi, i64 ti, .slice aA nA cA] w (.bool true) := by
  have hn := ha.len
  subst hn
  have hnA := hA.len
  subst hnA
  refine loamlaw16_ObjectPlays_of ?_
  unfold loamlaw16_ObjectPlays
  refine loamlaw16_known_call (Yld.mono (known16_spec w) ?_)
  rintro u w1 ⟨rfl, F1⟩
  simp (disch := (first | omega | decide | (simp only [World.size_alloc, World.size_setCell, World.size_drew, size_sets, List.mem_cons, List.not_mem_nil, or_false, not_false_eq_true] <;> omega) | fail)) only [↓rsObjH_2, rsObjH_1, Option.isNone_some, Option.isNone_none, tick_eq, tickV_eq, ne_eq, Int.reduceAdd, Int.reduceSub, Int.reduceMul, Int.reduceEq, Int.reduceLT, Int.reduceLE, Int.reduceToNat, Nat.reduceMul, Nat.reduceAdd, Nat.reduceSub, List.nil_append, List.cons_append, List.getElem?_toArray, List.getElem?_cons_zero, List.getElem?_cons_succ, List.setIfInBounds_toArray, List.set_cons_zero, List.set_cons_succ, Option.map_some, List.not_mem_nil, ←decide_not, eq_self]
  by_cases hl : 300 < l.length
  · simp (disch := (first | omega | decide | (simp only [World.size_alloc, World.size_setCell, World.size_drew, size_sets, List.mem_cons, List.not_mem_nil, or_false, not_false_eq_true] <;> omega) | fail)) only [↓rsObjH_2, rsObjH_1, Option.isNone_some, Option.isNone_none, tick_eq, tickV_eq, ne_eq, Int.reduceAdd, Int.reduceSub, Int.reduceMul, Int.reduceEq, Int.reduceLT, Int.reduceLE, Int.reduceToNat, Nat.reduceMul, Nat.reduceAdd, Nat.reduceSub, List.nil_append, List.cons_append, List.getElem?_toArray, List.getElem?_cons_zero, List.getElem?_cons_succ, List.setIfInBounds_toArray, List.set_cons_zero, List.set_cons_succ, Option.map_some, List.not_mem_nil, ←decide_not, eq_self]
    exact ⟨by trivial, F1⟩
  by_cases hl2 : 60 < acts.length
  · simp (disch := (first | omega | decide | (simp only [World.size_alloc, World.size_setCell, World.size_drew, size_sets, List.mem_cons, List.not_mem_nil, or_false, not_false_eq_true] <;> omega) | fail)) only [↓rsObjH_2, rsObjH_1, Option.isNone_some, Option.isNone_none, tick_eq, tickV_eq, ne_eq, Int.reduceAdd, Int.reduceSub, Int.reduceMul, Int.reduceEq, Int.reduceLT, Int.reduceLE, Int.reduceToNat, Nat.reduceMul, Nat.reduceAdd, Nat.reduceSub, List.nil_append, List.cons_append, List.getElem?_toArray, List.getElem?_cons_zero, List.getElem?_cons_succ, List.setIfInBounds_toArray, List.set_cons_zero, List.set_cons_succ, Option.map_some, List.not_mem_nil, ←decide_not, eq_self]
    exact ⟨by trivial, F1⟩
  simp (disch := (first | omega | decide | (simp only [World.size_alloc, World.size_setCell, World.size_drew, size_sets, List.mem_cons, List.not_mem_nil, or_false, not_false_eq_true] <;> omega) | fail)) only [↓rsObjH_2, rsObjH_1, Option.isNone_some, Option.isNone_none, tick_eq, tickV_eq, ne_eq, Int.reduceAdd, Int.reduceSub, Int.reduceMul, Int.reduceEq, Int.reduceLT, Int.reduceLE, Int.reduceToNat, Nat.reduceMul, Nat.reduceAdd, Nat.reduceSub, List.nil_append, List.cons_append, List.getElem?_toArray, List.getElem?_cons_zero, List.getElem?_cons_succ, List.setIfInBounds_toArray, List.set_cons_zero, List.set_cons_succ, Option.map_some, List.not_mem_nil, ←decide_not, eq_self]
  refine loamlaw16_To_call (Yld.mono (To_spec l a c bi ti w1 (by omega) (ha.row.ext0 F1) ha.nil) ?_)
  rintro u w2 ⟨F2, hu⟩
  have X2 : Ext [] w w2 := F1.trans F2
  rcases hu with rfl | ⟨s, g, a2, c2, b, t, rfl, rfl, rfl, zs, S⟩
  · simp (disch := (first | omega | decide | (simp only [World.size_alloc, World.size_setCell, World.size_drew, size_sets, List.mem_cons, List.not_mem_nil, or_false, not_false_eq_true] <;> omega) | fail)) only [↓rsObjH_2, rsObjH_1, Option.isNone_some, Option.isNone_none, tick_eq, tickV_eq, ne_eq, Int.reduceAdd, Int.reduceSub, Int.reduceMul, Int.reduceEq, Int.reduceLT, Int.reduceLE, Int.reduceToNat, Nat.reduceMul, Nat.reduceAdd, Nat.reduceSub, List.nil_append, List.cons_append, List.getElem?_toArray, List.getElem?_cons_zero, List.getElem?_cons_succ, List.setIfInBounds_toArray, List.set_cons_zero, List.set_cons_succ, Option.map_some, List.not_mem_nil, ←decide_not, eq_self]
    refine appUn (ha.row.ext0 X2) ha.nil ha.cap (by omega) fun v4 w4 O4 F4 U4 => ?_
    obtain ⟨r, cr, rfl, hcr, _, hnr, hrr, _⟩ := O4.slice
    simp (disch := (first | omega | decide | (simp only [World.size_alloc, World.size_setCell, World.size_drew, size_sets, List.mem_cons, List.not_mem_nil, or_false, not_false_eq_true] <;> omega) | fail)) only [↓rsObjH_2, rsObjH_1, Option.isNone_some, Option.isNone_none, tick_eq, tickV_eq, ne_eq, Int.reduceAdd, Int.reduceSub, Int.reduceMul, Int.reduceEq, Int.reduceLT, Int.reduceLE, Int.reduceToNat, Nat.reduceMul, Nat.reduceAdd, Nat.reduceSub, List.nil_append, List.cons_append, List.getElem?_toArray, List.getElem?_cons_zero, List.getElem?_cons_succ, List.setIfInBounds_toArray, List.set_cons_zero, List.set_cons_succ, Option.map_some, List.not_mem_nil, ←decide_not, eq_self]
    exact ⟨by trivial, X2.trans (F4.trans (Ext.alloc _ _ _))⟩
  have q1 := S.bt
  have q2 := S.te
  simp (disch := (first | omega | decide | (simp only [World.size_alloc, World.size_setCell, World.size_drew, size_sets, List.mem_cons, List.not_mem_nil, or_false, not_false_eq_true] <;> omega) | fail)) only [↓rsObjH_2, rsObjH_1, Option.isNone_some, Option.isNone_none, tick_eq, tickV_eq, ne_eq, Int.reduceAdd, Int.reduceSub, Int.reduceMul, Int.reduceEq, Int.reduceLT, Int.reduceLE, Int.reduceToNat, Nat.reduceMul, Nat.reduceAdd, Nat.reduceSub, List.nil_append, List.cons_append, List.getElem?_toArray, List.getElem?_cons_zero, List.getElem?_cons_succ, List.setIfInBounds_toArray, List.set_cons_zero, List.set_cons_succ, Option.map_some, List.not_mem_nil, ←decide_not, eq_self]
  refine appUn (ha.row.ext0 X2) ha.nil ha.cap (by omega) fun v4 w4 O4 F4 U4 => ?_
  have X4 : Ext [] w w4 := X2.trans F4
  have S4 := S.ext0 F4
  obtain ⟨r, cr, rfl, hcr, _, hnr, hrr, _⟩ := O4.slice
  have z4 := F4.size
  have zu := O4.lt
  simp (disch := (first | omega | decide | (simp only [World.size_alloc, World.size_setCell, World.size_drew, size_sets, List.mem_cons, List.not_mem_nil, or_false, not_false_eq_true] <;> omega) | fail)) only [↓rsObjH_2, rsObjH_1, Option.isNone_some, Option.isNone_none, tick_eq, tickV_eq, ne_eq, Int.reduceAdd, Int.reduceSub, Int.reduceMul, Int.reduceEq, Int.reduceLT, Int.reduceLE, Int.reduceToNat, Nat.reduceMul, Nat.reduceAdd, Nat.reduceSub, List.nil_append, List.cons_append, List.getElem?_toArray, List.getElem?_cons_zero, List.getElem?_cons_succ, List.setIfInBounds_toArray, List.set_cons_zero, List.set_cons_succ, Option.map_some, List.not_mem_nil, ←decide_not, eq_self]
  have X5 : Ext [] w4 (w4.alloc (.cells #[.slice r l.length cr, i64 (b : Int), i64 (t : Int), i64 (l.length : Int)] 48)) := Ext.alloc _ _ _
  have R5 : RfIs (w4.alloc (.cells #[.slice r l.length cr, i64 (b : Int), i64 (t : Int), i64 (l.length : Int)] 48)) w4.heap.size r cr l b t l.length := ref_new hrr hcr hnr (by omega) q1 q2
  have hI : TwoI w w1.heap.size s g a2 c2 w4.heap.size b t l.length l.length (w4.alloc (.cells #[.slice r l.length cr, i64 (b : Int), i64 (t : Int), i64 (l.length : Int)] 48)) := by
    have zg := S4.mem.lt
    have zsl := S4.blk.lt
    refine ⟨r, cr, l, rfl, ⟨S4.ext0 X5, R5, by omega, by omega, fun hw hx => ?_, fun hw x hx hx2 => ?_⟩, X4.trans X5⟩
    · have := S4.mem.blt hw _ hx
      omega
    · rw [blkOf_eq (n := l.length) (c := cr)] at hx2
      have := U4 _ hx2
      have := S.mem.blt hw _ hx
      omega
  have z1 := F1.size
  have zx := X4.size
  generalize w4.alloc (.cells #[.slice r l.length cr, i64 (b : Int), i64 (t : Int), i64 (l.length : Int)] 48) = w5 at *
  generalize w4.heap.size = m at *
  refine xLoop_n acts.length (fun j => [i64 (j : Int)]) (fun _ w' => TwoI w w1.heap.size s g a2 c2 m b t l.length l.length w') rfl hI ?_ ?_
  · intro j hj u v1 hu hI nxt hnx
    simp only [List.map_cons, List.map_nil, List.cons.injEq, and_true] at hu
    rw [hu]
    exact play_step hA hj (by omega) ht z1 (by omega) hI hnx
  · intro u v1 hu hI nxt
    simp only [List.map_cons, List.map_nil, List.cons.injEq, and_true] at hu
    rw [hu]
    obtain ⟨r, cr, ws, hwl, Bo, X⟩ := hI
    unfold loamlaw16_ObjectPlays_l1
    simp (disch := (first | omega | decide | (simp only [World.size_alloc, World.size_setCell, World.size_drew, size_sets, List.mem_cons, List.not_mem_nil, or_false, not_false_eq_true] <;> omega) | fail)) only [↓rsObjH_2, rsObjH_1, Option.isNone_some, Option.isNone_none, tick_eq, tickV_eq, ne_eq, Int.reduceAdd, Int.reduceSub, Int.reduceMul, Int.reduceEq, Int.reduceLT, Int.reduceLE, Int.reduceToNat, Nat.reduceMul, Nat.reduceAdd, Nat.reduceSub, List.nil_append, List.cons_append, List.getElem?_toArray, List.getElem?_cons_zero, List.getElem?_cons_succ, List.setIfInBounds_toArray, List.set_cons_zero, List.set_cons_succ, Option.map_some, List.not_mem_nil, ←decide_not, eq_self]
    exact ⟨by trivial, X⟩
end
end Go.Proofs.YtknineilpenbnaaDoor
