/- Whether a space's objects are well (sq). -/
import Derived.Test.YtknineilpenbnaaDoorObj
import Derived.Test.YtknineilpenbnaaDoorShelf
set_option linter.unusedVariables false
set_option linter.unusedSimpArgs false
set_option maxHeartbeats 4000000
namespace Go.Proofs.YtknineilpenbnaaDoor
open Go.Sh Go.RowKit

abbrev rsObj2_0 := (And.intro @xBox_r (And.intro @loadK_some (And.intro @loadsK_s (And.intro @loadsK_n (And.intro @loadsR_s (And.intro @loadsR_n (And.intro @storesK_s (And.intro @storesK_n (And.intro @xPick_t (And.intro @xPick_f (And.intro @xGuard_tt (And.intro @xGuard_ff (And.intro @xGuard_tf (And.intro @xGuard_ft (And.intro @xGuard_u 
  (And.intro @xNil_r (And.intro @xIf_t (And.intro @xBin_add' (And.intro @xBin_sub' (And.intro @xBin_mul' (And.intro @xBin_quo' (And.intro @xBin_rem' (And.intro @xIf_f (And.intro @xIf_tt (And.intro @xEx0 (And.intro @xEx1 (And.intro @xEx2 (And.intro @xEx3 (And.intro @xBin_eqs (And.intro @xBin_nes (And.intro @xUn_not (And.intro @xu8_add (And.intro @xu8_neq 
  (And.intro @xu8_lss (And.intro @xu16_add (And.intro @xu16_neq (And.intro @xu16_lss (And.intro @xu32_add (And.intro @xu32_neq (And.intro @xu32_lss (And.intro @xu64_add (And.intro @xu64_neq (And.intro @xu64_lss (And.intro @xi64_lss (And.intro @xi64_neq (And.intro @xi64_neg (And.intro @xMakeFunc_r (And.intro @xSq_r (And.intro @xPur_s (And.intro @xRd_s 
  (And.intro @xRe_s (And.intro @xDet_s (And.intro @xDet_ld (And.intro @xDet_ld2 (And.intro @xDet_ld3 (And.intro @xDet_ld4 (And.intro @xGuard_tt (And.intro @ld_5 (And.intro @ia_22 @ln_22)))))))))))))))))))))))))))))))))))))))))))))))))))))))))))
abbrev rsObj2_1 := (And.intro @setCells_c (And.intro @setCells_n (And.intro @World.setCell_alloc_at (And.intro @World.setCell_alloc_past (And.intro @World.cell?_alloc_at (And.intro @World.cell?_alloc_past (And.intro @World.frozen?_alloc_at (And.intro @World.frozen?_alloc_past 
  (And.intro @World.size_alloc (And.intro @dlt_t (And.intro @dlt_f (And.intro @dle_t (And.intro @dle_f (And.intro @deq_t (And.intro @deq_f (And.intro @dne_t (And.intro @dne_f (And.intro @not_true_eq_false (And.intro @Bool.false_and (And.intro @Bool.true_and (And.intro @Bool.and_true (And.intro @Bool.and_false (And.intro @wrap_in (And.intro @Int.toNat_natCast 
  (And.intro @Nat.mul_one (And.intro @cells_int (And.intro @cells_bool (And.intro @cells_string (And.intro @cells_slice (And.intro @cells_pointer (And.intro @cells_agg (And.intro @one_int (And.intro @one_bool (And.intro @one_string (And.intro @one_slice (And.intro @one_pointer (And.intro @beq_tt (And.intro @beq_ff (And.intro @beq_tf 
  (And.intro @beq_ft (And.intro @cell_sets_b (And.intro @frozen_sets (And.intro @size_sets (And.intro @World.size_drew (And.intro @Nat.zero_add (And.intro @Nat.add_zero (And.intro @cell_drew (And.intro @frozen_drew (And.intro @cell_set_eq (And.intro @cell_set_o (And.intro @cell_set_b (And.intro @World.frozen?_setCell 
  (And.intro @decide_true (And.intro @decide_false (And.intro @not_false_eq_true (And.intro @Bool.not_true @Bool.not_false))))))))))))))))))))))))))))))))))))))))))))))))))))))))
theorem idxFunc_none {w : World} {l : List (BitVec 8)} {a : Option Addr} {c : Nat} (h : RowAt w a (bys l)) (hl : l.length ≤ 1000000) (hz : ∀ x ∈ l, x = BitVec.ofNat 8 0) : Gives Tryd.prog n_slices_IndexFunc_byte_byte #[.slice a l.length c, fnv 37] w (i64 (-1)) := by
  refine slices_IndexFunc_byte_byte_of ?_
  unfold slices_IndexFunc_byte_byte
  simp (disch := (first | omega | decide | (simp only [World.size_alloc, World.size_setCell, World.size_drew, size_sets, List.mem_cons, List.not_mem_nil, or_false, not_false_eq_true] <;> omega) | fail)) only [↓rsObj2_0, rsObj2_1, Option.isNone_some, Option.isNone_none, tick_eq, tickV_eq, ne_eq, Int.reduceAdd, Int.reduceSub, Int.reduceMul, Int.reduceEq, Int.reduceLT, Int.reduceLE, Int.reduceToNat, Nat.reduceMul, Nat.reduceAdd, Nat.reduceSub, List.nil_append, List.cons_append, List.getElem?_toArray, List.getElem?_cons_zero, List.getElem?_cons_succ, List.setIfInBounds_toArray, List.set_cons_zero, List.set_cons_succ, Option.map_some, List.not_mem_nil, ←decide_not, eq_self]
  refine xLoop_n l.length (fun j => [i64 (j : Int)]) (fun _ w' => Ext [] w w') rfl (Ext.refl _ _) ?_ ?_
  · intro j hj u v1 hu F nxt hnx
    simp only [List.map_cons, List.map_nil, List.cons.injEq, and_true] at hu
    rw [hu]
    obtain ⟨b1, o1, rfl, z1, k1⟩ := (h.ext0 F).at (i := j) (by simpa using hj)
    simp only [List.getElem_map] at k1
    rw [hz _ (List.getElem_mem hj)] at k1
    unfold slices_IndexFunc_byte_byte_l1
    simp (disch := (first | omega | decide | (simp only [World.size_alloc, World.size_setCell, World.size_drew, size_sets, List.mem_cons, List.not_mem_nil, or_false, not_false_eq_true] <;> omega) | fail)) only [↓rsObj2_0, rsObj2_1, Option.isNone_some, Option.isNone_none, tick_eq, tickV_eq, ne_eq, Int.reduceAdd, Int.reduceSub, Int.reduceMul, Int.reduceEq, Int.reduceLT, Int.reduceLE, Int.reduceToNat, Nat.reduceMul, Nat.reduceAdd, Nat.reduceSub, List.nil_append, List.cons_append, List.getElem?_toArray, List.getElem?_cons_zero, List.getElem?_cons_succ, List.setIfInBounds_toArray, List.set_cons_zero, List.set_cons_succ, Option.map_some, List.not_mem_nil, ←decide_not, k1]
    refine obj_Well_1_call (obj_Well_1_of ?_)
    unfold obj_Well_1
    simp (disch := (first | omega | decide | (simp only [World.size_alloc, World.size_setCell, World.size_drew, size_sets, List.mem_cons, List.not_mem_nil, or_false, not_false_eq_true] <;> omega) | fail)) only [↓rsObj2_0, rsObj2_1, Option.isNone_some, Option.isNone_none, tick_eq, tickV_eq, ne_eq, Int.reduceAdd, Int.reduceSub, Int.reduceMul, Int.reduceEq, Int.reduceLT, Int.reduceLE, Int.reduceToNat, Nat.reduceMul, Nat.reduceAdd, Nat.reduceSub, List.nil_append, List.cons_append, List.getElem?_toArray, List.getElem?_cons_zero, List.getElem?_cons_succ, List.setIfInBounds_toArray, List.set_cons_zero, List.set_cons_succ, Option.map_some, List.not_mem_nil, ←decide_not, k1]
    exact hnx _ F
  · intro u v1 hu F nxt
    simp only [List.map_cons, List.map_nil, List.cons.injEq, and_true] at hu
    rw [hu]
    unfold slices_IndexFunc_byte_byte_l1
    simp (disch := (first | omega | decide | (simp only [World.size_alloc, World.size_setCell, World.size_drew, size_sets, List.mem_cons, List.not_mem_nil, or_false, not_false_eq_true] <;> omega) | fail)) only [↓rsObj2_0, rsObj2_1, Option.isNone_some, Option.isNone_none, tick_eq, tickV_eq, ne_eq, Int.reduceAdd, Int.reduceSub, Int.reduceMul, Int.reduceEq, Int.reduceLT, Int.reduceLE, Int.reduceToNat, Nat.reduceMul, Nat.reduceAdd, Nat.reduceSub, List.nil_append, List.cons_append, List.getElem?_toArray, List.getElem?_cons_zero, List.getElem?_cons_succ, List.setIfInBounds_toArray, List.set_cons_zero, List.set_cons_succ, Option.map_some, List.not_mem_nil, ←decide_not, eq_self]
    exact ⟨by trivial, F⟩
abbrev rsObj2_2 := (And.intro @xBox_r (And.intro @loadK_some (And.intro @loadsK_s (And.intro @loadsK_n (And.intro @loadsR_s (And.intro @loadsR_n (And.intro @storesK_s (And.intro @storesK_n (And.intro @xPick_t (And.intro @xPick_f (And.intro @xGuard_tt (And.intro @xGuard_ff (And.intro @xGuard_tf (And.intro @xGuard_ft (And.intro @xGuard_u 
  (And.intro @xNil_r (And.intro @xIf_t (And.intro @xBin_add' (And.intro @xBin_sub' (And.intro @xBin_mul' (And.intro @xBin_quo' (And.intro @xBin_rem' (And.intro @xIf_f (And.intro @xIf_tt (And.intro @xEx0 (And.intro @xEx1 (And.intro @xEx2 (And.intro @xEx3 (And.intro @xBin_eqs (And.intro @xBin_nes (And.intro @xUn_not (And.intro @xu8_geq (And.intro @xu16_geq 
  (And.intro @xu32_geq (And.intro @xu64_geq (And.intro @xi64_geq (And.intro @xMakeFunc_r (And.intro @xSq_r (And.intro @xPur_s (And.intro @xRd_s (And.intro @xRe_s (And.intro @xDet_s (And.intro @xDet_ld (And.intro @xDet_ld2 (And.intro @xDet_ld3 (And.intro @xDet_ld4 @xGuard_tt))))))))))))))))))))))))))))))))))))))))))))))
theorem hasFunc_none {w : World} {l : List (BitVec 8)} {a : Option Addr} {c : Nat} (h : RowAt w a (bys l)) (hl : l.length ≤ 1000000) (hz : ∀ x ∈ l, x = BitVec.ofNat 8 0) : Gives Tryd.prog n_slices_ContainsFunc_byte_byte #[.slice a l.length c, fnv 37] w (.bool false) := by
  refine slices_ContainsFunc_byte_byte_of ?_
  unfold slices_ContainsFunc_byte_byte
  refine slices_IndexFunc_byte_byte_call (Gives.to (idxFunc_none h hl hz) fun w1 F1 => ?_)
  simp (disch := (first | omega | decide | (simp only [World.size_alloc, World.size_setCell, World.size_drew, size_sets, List.mem_cons, List.not_mem_nil, or_false, not_false_eq_true] <;> omega) | fail)) only [↓rsObj2_2, rsObj2_1, Option.isNone_some, Option.isNone_none, tick_eq, tickV_eq, ne_eq, Int.reduceAdd, Int.reduceSub, Int.reduceMul, Int.reduceEq, Int.reduceLT, Int.reduceLE, Int.reduceToNat, Nat.reduceMul, Nat.reduceAdd, Nat.reduceSub, List.nil_append, List.cons_append, List.getElem?_toArray, List.getElem?_cons_zero, List.getElem?_cons_succ, List.setIfInBounds_toArray, List.set_cons_zero, List.set_cons_succ, Option.map_some, List.not_mem_nil, ←decide_not, eq_self]
  exact ⟨by trivial, F1⟩
theorem drewN_ext (w : World) (q : Nat) : Ext [] w (w.drewN q) := ⟨rfl, rfl, rfl, Nat.le_refl _, fun _ _ _ => rfl⟩
theorem bs_spec {w : World} {l : List Nat} {a : Option Addr} {c : Nat} (h : RowAt w a (nums l)) (hne : l ≠ []) (hl : l.length ≤ 1000000) (hs : l.Pairwise (· ≤ ·)) (x : Int) : Yld Tryd.prog n_slices_BinarySearch_int_int #[.slice a l.length c, i64 x] w fun u w' => (∃ k, u = .tuple #[i64 k, .bool ((l.map fun (i : Nat) => (i : Int)).contains x)]) ∧ Ext [] w w' := by
  obtain ⟨b, o, rfl, hb, hc⟩ := h.get (by simpa using hne)
  have hL : (l.map fun (i : Nat) => (i : Int)).take l.length = l.map fun (i : Nat) => (i : Int) := by rw [List.take_of_length_le (by simp)]
  have key := Tryd.slices_BinarySearch_int b o l.length c (l.map fun (i : Nat) => (i : Int)) x w (by simp) (by omega) (fun j hj => by
    refine hc j _ ?_
    have hj' : j < l.length := by simpa using hj
    simp [List.getD_eq_getElem?_getD, hj']) (by
    rw [hL, List.pairwise_map]
    exact hs.imp fun h => by omega)
  rw [hL] at key
  refine Calls.mono key ?_
  rintro e w' ⟨rfl, q, rfl⟩
  exact ⟨_, rfl, ⟨_, rfl⟩, drewN_ext w q⟩
theorem Objs.sorted {ws : List (BitVec 64)} {t o : Nat} {l : List Nat} (h : Objs ws t o l) : l.Pairwise (· ≤ ·) ∧ ∀ x ∈ l, o ≤ x ∧ okW (wat ws x) ∧ x + szW (wat ws x) ≤ t := by
  induction h with
  | nil => exact ⟨.nil, by simp⟩
  | @cons o l h1 h2 h3 ih =>
    refine ⟨List.pairwise_cons.2 ⟨fun x hx => ?_, ih.1⟩, fun x hx => ?_⟩
    · have := (ih.2 x hx).1
      omega
    · rcases List.mem_cons.1 hx with rfl | hx
      · exact ⟨Nat.le_refl _, h1, h2⟩
      · have := ih.2 x hx
        exact ⟨by omega, this.2⟩
def PtrW (ws : List (BitVec 64)) (l : List Nat) (o : Nat) : Prop := ∀ i, i < pN (wat ws o) → (wat ws (o + 1 + i)).toNat = 0 ∨ ((wat ws (o + 1 + i)).toNat ≤ 8192 ∧ 1 ≤ (wat ws (o + 1 + i)).toNat ∧ (wat ws (o + 1 + i)).toNat - 1 ∈ l)
def PadW (ws : List (BitVec 64)) (o : Nat) : Prop := ∀ j, (o + 1 + pN (wat ws o)) * 8 + bN (wat ws o) ≤ j → j < (o + szW (wat ws o)) * 8 → byteW ws j = BitVec.ofNat 8 0
abbrev rsObj2_3 := (And.intro @xBox_r (And.intro @loadK_some (And.intro @loadsK_s (And.intro @loadsK_n (And.intro @loadsR_s (And.intro @loadsR_n (And.intro @storesK_s (And.intro @storesK_n (And.intro @xPick_t (And.intro @xPick_f (And.intro @xGuard_tt (And.intro @xGuard_ff (And.intro @xGuard_tf (And.intro @xGuard_ft (And.intro @xGuard_u 
  (And.intro @xNil_r (And.intro @xIf_t (And.intro @xBin_add' (And.intro @xBin_sub' (And.intro @xBin_mul' (And.intro @xBin_quo' (And.intro @xBin_rem' (And.intro @xIf_f (And.intro @xIf_tt (And.intro @xEx0 (And.intro @xEx1 (And.intro @xEx2 (And.intro @xEx3 (And.intro @xBin_eqs (And.intro @xBin_nes (And.intro @xUn_not (And.intro @xu8_add (And.intro @xu8_sub 
  (And.intro @xu8_mul (And.intro @xu8_com (And.intro @xu8_neq (And.intro @xu8_lss (And.intro @xu16_add (And.intro @xu16_sub (And.intro @xu16_mul (And.intro @xu16_com (And.intro @xu16_neq (And.intro @xu16_lss (And.intro @xu32_add (And.intro @xu32_sub (And.intro @xu32_mul (And.intro @xu32_com (And.intro @xu32_neq (And.intro @xu32_lss (And.intro @xu64_add 
  (And.intro @xu64_sub (And.intro @xu64_mul (And.intro @xu64_com (And.intro @xu64_neq (And.intro @xu64_lss (And.intro @xi64_lss (And.intro @xi64_neq (And.intro @xi64_neg (And.intro @xMakeFunc_r (And.intro @xSq_r (And.intro @xPur_s (And.intro @xRd_s (And.intro @xRe_s (And.intro @xDet_s (And.intro @xDet_ld (And.intro @xDet_ld2 (And.intro @xDet_ld3 
  (And.intro @xDet_ld4 (And.intro @xGuard_tt (And.intro @ld_3 (And.intro @ld_24 (And.intro @ld_34 (And.intro @fa_34_0 (And.intro @fa_34_1 (And.intro @fa_65_0 (And.intro @al_34 (And.intro @st_34 (And.intro @ia_40 @ln_40))))))))))))))))))))))))))))))))))))))))))))))))))))))))))))))))))))))))))))))
theorem Well_ok {w : World} {base s g : Nat} {a : Option Addr} {c : Nat} {ws : List (BitVec 64)} {b t e : Nat} {l : List Nat} (S : SpIs w base s g a c ws b t e) (ho : Objs ws t b l) (hw : ∀ o ∈ l, PtrW ws l o ∧ PadW ws o) : Gives Tryd.prog n_obj_Well #[ptr s] w (i64 0) := by
  have q1 := S.te
  have q2 := S.el
  have q3 := S.mem.len
  obtain ⟨hsort, hall⟩ := ho.sorted
  have hll : l.length ≤ 100000 := by
    have hlen : ∀ {o : Nat} {q : List Nat}, Objs ws t o q → o + q.length ≤ t := by
      intro o q h
      induction h with
      | nil => simp
      | @cons o q h1 h2 h3 ih => have := szW_pos (x := wat ws o); simp only [List.length_cons]; omega
    have := hlen ho
    omega
  refine obj_Well_of ?_
  unfold obj_Well
  refine space_Space_Objects_call (Yld.mono (SObjects_spec S) ?_)
  intro u w1 hu
  rw [(objs_some S.bt).2 ho] at hu
  obtain ⟨v, rfl, F1, al, cl, rfl, hcl, Rl⟩ := hu
  simp (disch := (first | omega | decide | (simp only [World.size_alloc, World.size_setCell, World.size_drew, size_sets, List.mem_cons, List.not_mem_nil, or_false, not_false_eq_true] <;> omega) | fail)) only [↓rsObj2_3, rsObj2_1, Option.isNone_some, Option.isNone_none, tick_eq, tickV_eq, ne_eq, Int.reduceAdd, Int.reduceSub, Int.reduceMul, Int.reduceEq, Int.reduceLT, Int.reduceLE, Int.reduceToNat, Nat.reduceMul, Nat.reduceAdd, Nat.reduceSub, List.nil_append, List.cons_append, List.getElem?_toArray, List.getElem?_cons_zero, List.getElem?_cons_succ, List.setIfInBounds_toArray, List.set_cons_zero, List.set_cons_succ, Option.map_some, List.not_mem_nil, ←decide_not, eq_self]
  refine xLoop_n l.length (fun j => [i64 (j : Int)]) (fun _ w' => Ext [] w w' ∧ Ext [] w1 w') rfl ⟨F1, Ext.refl _ _⟩ ?_ ?_
  rotate_left
  · intro u v1 hu ⟨F, G⟩ nxt
    simp only [List.map_cons, List.map_nil, List.cons.injEq, and_true] at hu
    rw [hu]
    unfold obj_Well_l1
    simp (disch := (first | omega | decide | (simp only [World.size_alloc, World.size_setCell, World.size_drew, size_sets, List.mem_cons, List.not_mem_nil, or_false, not_false_eq_true] <;> omega) | fail)) only [↓rsObj2_3, rsObj2_1, Option.isNone_some, Option.isNone_none, tick_eq, tickV_eq, ne_eq, Int.reduceAdd, Int.reduceSub, Int.reduceMul, Int.reduceEq, Int.reduceLT, Int.reduceLE, Int.reduceToNat, Nat.reduceMul, Nat.reduceAdd, Nat.reduceSub, List.nil_append, List.cons_append, List.getElem?_toArray, List.getElem?_cons_zero, List.getElem?_cons_succ, List.setIfInBounds_toArray, List.set_cons_zero, List.set_cons_succ, Option.map_some, List.not_mem_nil, ←decide_not, eq_self]
    exact ⟨by trivial, F⟩
  intro j hj u v1 hu ⟨F, G⟩ nxt hnx
  simp only [List.map_cons, List.map_nil, List.cons.injEq, and_true] at hu
  rw [hu]
  have hne : l ≠ [] := fun h => by subst h; simp at hj
  have hmem := List.getElem_mem hj
  obtain ⟨hlo, hok, hhi⟩ := hall _ hmem
  obtain ⟨hp, hpad⟩ := hw _ hmem
  obtain ⟨v1', v2', v3', v4', v5', v6', v7', v8'⟩ := okW_v hok
  obtain ⟨b1, o1, rfl, z1, k1⟩ := (Rl.ext0 G).at (i := j) (by simpa using hj)
  simp only [List.getElem_map] at k1
  unfold obj_Well_l1
  simp (disch := (first | omega | decide | (simp only [World.size_alloc, World.size_setCell, World.size_drew, size_sets, List.mem_cons, List.not_mem_nil, or_false, not_false_eq_true] <;> omega) | fail)) only [↓rsObj2_3, rsObj2_1, Option.isNone_some, Option.isNone_none, tick_eq, tickV_eq, ne_eq, Int.reduceAdd, Int.reduceSub, Int.reduceMul, Int.reduceEq, Int.reduceLT, Int.reduceLE, Int.reduceToNat, Nat.reduceMul, Nat.reduceAdd, Nat.reduceSub, List.nil_append, List.cons_append, List.getElem?_toArray, List.getElem?_cons_zero, List.getElem?_cons_succ, List.setIfInBounds_toArray, List.set_cons_zero, List.set_cons_succ, Option.map_some, List.not_mem_nil, ←decide_not, k1]
  generalize l[j] = o at *
  have hO : ObjAt ws b t o := ⟨hlo, hok, hhi⟩
  have S1 := S.ext0 F
  have hh := SHead_in (o := o) S1 hlo hO.lt
  rw [v1', v2', v3', v4', v5'] at hh
  refine space_Space_Head_call (Gives.to hh fun w2 F2 => ?_)
  simp (disch := (first | omega | decide | (simp only [World.size_alloc, World.size_setCell, World.size_drew, size_sets, List.mem_cons, List.not_mem_nil, or_false, not_false_eq_true] <;> omega) | fail)) only [↓rsObj2_3, rsObj2_1, Option.isNone_some, Option.isNone_none, tick_eq, tickV_eq, ne_eq, Int.reduceAdd, Int.reduceSub, Int.reduceMul, Int.reduceEq, Int.reduceLT, Int.reduceLE, Int.reduceToNat, Nat.reduceMul, Nat.reduceAdd, Nat.reduceSub, List.nil_append, List.cons_append, List.getElem?_toArray, List.getElem?_cons_zero, List.getElem?_cons_succ, List.setIfInBounds_toArray, List.set_cons_zero, List.set_cons_succ, Option.map_some, List.not_mem_nil, ←decide_not, k1]
  have B : Blk (w2.alloc (.cells #[i64 (pN (wat ws o)), i64 (bN (wat ws o)), .bool false, i64 0] 34)) w2.heap.size 34 [i64 (pN (wat ws o)), i64 (bN (wat ws o)), .bool false, i64 0] := Blk.at rfl
  have X2 : Ext [] w2 (w2.alloc (.cells #[i64 (pN (wat ws o)), i64 (bN (wat ws o)), .bool false, i64 0] 34)) := Ext.alloc _ _ _
  generalize w2.alloc (.cells #[i64 (pN (wat ws o)), i64 (bN (wat ws o)), .bool false, i64 0] 34) = y at *
  have Fy := F2.trans X2
  refine xLoop_n (pN (wat ws o)) (fun i => [i64 (i : Int)]) (fun _ w' => Ext [] y w') rfl (Ext.refl _ _) ?_ ?_
  · intro i hi u v3 hu F3 nxt2 hnx2
    simp only [List.map_cons, List.map_nil, List.cons.injEq, and_true] at hu
    rw [hu]
    have S3 := S1.ext0 (Fy.trans F3)
    have R3 := Rl.ext0 (G.trans (Fy.trans F3))
    unfold obj_Well_l2
    simp (disch := (first | omega | decide | (simp only [World.size_alloc, World.size_setCell, World.size_drew, size_sets, List.mem_cons, List.not_mem_nil, or_false, not_false_eq_true] <;> omega) | fail)) only [↓rsObj2_3, rsObj2_1, Option.isNone_some, Option.isNone_none, tick_eq, tickV_eq, ne_eq, Int.reduceAdd, Int.reduceSub, Int.reduceMul, Int.reduceEq, Int.reduceLT, Int.reduceLE, Int.reduceToNat, Nat.reduceMul, Nat.reduceAdd, Nat.reduceSub, List.nil_append, List.cons_append, List.getElem?_toArray, List.getElem?_cons_zero, List.getElem?_cons_succ, List.setIfInBounds_toArray, List.set_cons_zero, List.set_cons_succ, Option.map_some, List.not_mem_nil, ←decide_not, k1]
    have hP := Ptr_ok (i := i) S3 hO hi
    rcases hp i hi with h0 | ⟨h1, h2, h3⟩
    · have e1 : ptrV b t (wat ws (o + 1 + i)) = (-1, 0) := by rw [ptrV, if_pos h0]
      rw [e1] at hP
      refine obj_Ptr_call (Gives.to hP fun w4 F4 => ?_)
      simp (disch := (first | omega | decide | (simp only [World.size_alloc, World.size_setCell, World.size_drew, size_sets, List.mem_cons, List.not_mem_nil, or_false, not_false_eq_true] <;> omega) | fail)) only [↓rsObj2_3, rsObj2_1, Option.isNone_some, Option.isNone_none, tick_eq, tickV_eq, ne_eq, Int.reduceAdd, Int.reduceSub, Int.reduceMul, Int.reduceEq, Int.reduceLT, Int.reduceLE, Int.reduceToNat, Nat.reduceMul, Nat.reduceAdd, Nat.reduceSub, List.nil_append, List.cons_append, List.getElem?_toArray, List.getElem?_cons_zero, List.getElem?_cons_succ, List.setIfInBounds_toArray, List.set_cons_zero, List.set_cons_succ, Option.map_some, List.not_mem_nil, ←decide_not, k1]
      refine slices_BinarySearch_int_int_call (Yld.mono (bs_spec (R3.ext0 F4) hne (by omega) hsort (-1)) ?_)
      rintro u w5 ⟨⟨k, rfl⟩, F5⟩
      simp (disch := (first | omega | decide | (simp only [World.size_alloc, World.size_setCell, World.size_drew, size_sets, List.mem_cons, List.not_mem_nil, or_false, not_false_eq_true] <;> omega) | fail)) only [↓rsObj2_3, rsObj2_1, Option.isNone_some, Option.isNone_none, tick_eq, tickV_eq, ne_eq, Int.reduceAdd, Int.reduceSub, Int.reduceMul, Int.reduceEq, Int.reduceLT, Int.reduceLE, Int.reduceToNat, Nat.reduceMul, Nat.reduceAdd, Nat.reduceSub, List.nil_append, List.cons_append, List.getElem?_toArray, List.getElem?_cons_zero, List.getElem?_cons_succ, List.setIfInBounds_toArray, List.set_cons_zero, List.set_cons_succ, Option.map_some, List.not_mem_nil, ←decide_not, k1]
      exact hnx2 _ (F3.trans (F4.trans F5))
    · obtain ⟨h4, h5, h6⟩ := hall _ h3
      have h7 := szW_pos (x := wat ws ((wat ws (o + 1 + i)).toNat - 1))
      have e1 : ptrV b t (wat ws (o + 1 + i)) = (((wat ws (o + 1 + i)).toNat : Int) - 1, 0) := by rw [ptrV, if_neg (by omega), if_pos ⟨h1, by omega, by omega⟩]
      rw [e1] at hP
      refine obj_Ptr_call (Gives.to hP fun w4 F4 => ?_)
      generalize (wat ws (o + 1 + i)).toNat = x at *
      simp (disch := (first | omega | decide | (simp only [World.size_alloc, World.size_setCell, World.size_drew, size_sets, List.mem_cons, List.not_mem_nil, or_false, not_false_eq_true] <;> omega) | fail)) only [↓rsObj2_3, rsObj2_1, Option.isNone_some, Option.isNone_none, tick_eq, tickV_eq, ne_eq, Int.reduceAdd, Int.reduceSub, Int.reduceMul, Int.reduceEq, Int.reduceLT, Int.reduceLE, Int.reduceToNat, Nat.reduceMul, Nat.reduceAdd, Nat.reduceSub, List.nil_append, List.cons_append, List.getElem?_toArray, List.getElem?_cons_zero, List.getElem?_cons_succ, List.setIfInBounds_toArray, List.set_cons_zero, List.set_cons_succ, Option.map_some, List.not_mem_nil, ←decide_not, k1]
      have hbs := bs_spec (c := cl) (R3.ext0 F4) hne (by omega) hsort ((x : Int) - 1)
      have hin : (l.map fun (i : Nat) => (i : Int)).contains ((x : Int) - 1) = true := by
        rw [List.contains_iff_mem]
        exact List.mem_map.2 ⟨x - 1, h3, by omega⟩
      rw [hin] at hbs
      refine slices_BinarySearch_int_int_call (Yld.mono hbs ?_)
      rintro u w5 ⟨⟨k, rfl⟩, F5⟩
      simp (disch := (first | omega | decide | (simp only [World.size_alloc, World.size_setCell, World.size_drew, size_sets, List.mem_cons, List.not_mem_nil, or_false, not_false_eq_true] <;> omega) | fail)) only [↓rsObj2_3, rsObj2_1, Option.isNone_some, Option.isNone_none, tick_eq, tickV_eq, ne_eq, Int.reduceAdd, Int.reduceSub, Int.reduceMul, Int.reduceEq, Int.reduceLT, Int.reduceLE, Int.reduceToNat, Nat.reduceMul, Nat.reduceAdd, Nat.reduceSub, List.nil_append, List.cons_append, List.getElem?_toArray, List.getElem?_cons_zero, List.getElem?_cons_succ, List.setIfInBounds_toArray, List.set_cons_zero, List.set_cons_succ, Option.map_some, List.not_mem_nil, ←decide_not, k1]
      exact hnx2 _ (F3.trans (F4.trans F5))
  · intro u v3 hu F3 nxt2
    simp only [List.map_cons, List.map_nil, List.cons.injEq, and_true] at hu
    rw [hu]
    have S3 := S1.ext0 (Fy.trans F3)
    have B3 := B.ext F3 (by simp)
    have kb := fun i => B3.cell (i := i)
    have ks := fun i => S3.blk.cell (i := i)
    unfold obj_Well_l2
    simp (disch := (first | omega | decide | (simp only [World.size_alloc, World.size_setCell, World.size_drew, size_sets, List.mem_cons, List.not_mem_nil, or_false, not_false_eq_true] <;> omega) | fail)) only [↓rsObj2_3, rsObj2_1, Option.isNone_some, Option.isNone_none, tick_eq, tickV_eq, ne_eq, Int.reduceAdd, Int.reduceSub, Int.reduceMul, Int.reduceEq, Int.reduceLT, Int.reduceLE, Int.reduceToNat, Nat.reduceMul, Nat.reduceAdd, Nat.reduceSub, List.nil_append, List.cons_append, List.getElem?_toArray, List.getElem?_cons_zero, List.getElem?_cons_succ, List.setIfInBounds_toArray, List.set_cons_zero, List.set_cons_succ, Option.map_some, List.not_mem_nil, ←decide_not, k1, kb, ks]
    have hsz := SizeW_spec hok v3
    rw [v1', v2', v4'] at hsz
    refine head_Size_call (Gives.to hsz fun w4 F4 => ?_)
    have S4 := S3.ext0 F4
    have k4 := fun i => S4.blk.cell (i := i)
    have kb4 := fun i => (B3.ext F4 (by simp)).cell (i := i)
    simp (disch := (first | omega | decide | (simp only [World.size_alloc, World.size_setCell, World.size_drew, size_sets, List.mem_cons, List.not_mem_nil, or_false, not_false_eq_true] <;> omega) | fail)) only [↓rsObj2_3, rsObj2_1, Option.isNone_some, Option.isNone_none, tick_eq, tickV_eq, ne_eq, Int.reduceAdd, Int.reduceSub, Int.reduceMul, Int.reduceEq, Int.reduceLT, Int.reduceLE, Int.reduceToNat, Nat.reduceMul, Nat.reduceAdd, Nat.reduceSub, List.nil_append, List.cons_append, List.getElem?_toArray, List.getElem?_cons_zero, List.getElem?_cons_succ, List.setIfInBounds_toArray, List.set_cons_zero, List.set_cons_succ, Option.map_some, List.not_mem_nil, ←decide_not, k1, kb, ks, k4, kb4]
    have e1 : ((o : Int) + 1 + (pN (wat ws o) : Int)) * 8 + (bN (wat ws o) : Int) = (((o + 1 + pN (wat ws o)) * 8 + bN (wat ws o) : Nat) : Int) := by omega
    have e2 : ((o : Int) + (szW (wat ws o) : Int)) * 8 - (((o + 1 + pN (wat ws o)) * 8 + bN (wat ws o) : Nat) : Int) = (((o + szW (wat ws o)) * 8 - ((o + 1 + pN (wat ws o)) * 8 + bN (wat ws o)) : Nat) : Int) := by omega
    rw [e1, e2]
    refine mem_Mem_Bytes_call (Yld.mono (Bytes_ok ((o + 1 + pN (wat ws o)) * 8 + bN (wat ws o)) ((o + szW (wat ws o)) * 8 - ((o + 1 + pN (wat ws o)) * 8 + bN (wat ws o))) S4.mem (by omega)) ?_)
    rintro u w5 ⟨F5, a5, c5, rfl, hc5, R5, U5⟩
    simp (disch := (first | omega | decide | (simp only [World.size_alloc, World.size_setCell, World.size_drew, size_sets, List.mem_cons, List.not_mem_nil, or_false, not_false_eq_true] <;> omega) | fail)) only [↓rsObj2_3, rsObj2_1, Option.isNone_some, Option.isNone_none, tick_eq, tickV_eq, ne_eq, Int.reduceAdd, Int.reduceSub, Int.reduceMul, Int.reduceEq, Int.reduceLT, Int.reduceLE, Int.reduceToNat, Nat.reduceMul, Nat.reduceAdd, Nat.reduceSub, List.nil_append, List.cons_append, List.getElem?_toArray, List.getElem?_cons_zero, List.getElem?_cons_succ, List.setIfInBounds_toArray, List.set_cons_zero, List.set_cons_succ, Option.map_some, List.not_mem_nil, ←decide_not, k1, kb, ks, k4, kb4]
    refine slices_ContainsFunc_byte_byte_call (Gives.to (hasFunc_none R5 (by rw [bytesW_length]; omega) (fun x hx => by
      unfold bytesW at hx
      obtain ⟨i, hi, rfl⟩ := List.mem_map.1 hx
      have hi' := List.mem_range.1 hi
      exact hpad _ (by omega) (by omega))) fun w6 F6 => ?_)
    simp (disch := (first | omega | decide | (simp only [World.size_alloc, World.size_setCell, World.size_drew, size_sets, List.mem_cons, List.not_mem_nil, or_false, not_false_eq_true] <;> omega) | fail)) only [↓rsObj2_3, rsObj2_1, Option.isNone_some, Option.isNone_none, tick_eq, tickV_eq, ne_eq, Int.reduceAdd, Int.reduceSub, Int.reduceMul, Int.reduceEq, Int.reduceLT, Int.reduceLE, Int.reduceToNat, Nat.reduceMul, Nat.reduceAdd, Nat.reduceSub, List.nil_append, List.cons_append, List.getElem?_toArray, List.getElem?_cons_zero, List.getElem?_cons_succ, List.setIfInBounds_toArray, List.set_cons_zero, List.set_cons_succ, Option.map_some, List.not_mem_nil, ←decide_not, k1, kb, ks, k4, kb4]
    have X6 := Fy.trans (F3.trans (F4.trans (F5.trans F6)))
    exact hnx _ ⟨F.trans X6, G.trans X6⟩
end Go.Proofs.YtknineilpenbnaaDoor
