/- Records one behind the other, walked (sq). -/
import Derived.Test.YtknineilpenbnaaRecL
set_option linter.unusedVariables false
set_option linter.unusedSimpArgs false
set_option maxHeartbeats 4000000
namespace Go.Proofs.Ytknineilpenbnaa
open Go.Sh Go.RowKit

abbrev arcC (x : Arc) : List Value := rcC x.1 x.2.1 x.2.2
theorem arcC_len (l : List Arc) : (l.flatMap arcC).length = l.length * 5 := by
  induction l with
  | nil => rfl
  | cons x l ih => rw [List.flatMap_cons, List.length_append, ih, List.length_cons]; simp [arcC]; omega
structure ArcsIs (w0 w : World) (v : Value) (l : List Arc) (rs : List RC) : Prop where
  new : NewR 27 5 w0 w v l.length (l.flatMap arcC)
  map : l.map (·.1) = rs
  each : ∀ x ∈ l, ArcOk w x
  ap : ∀ x ∈ l, ∀ ad, x.2.1 = some ad → ad.block ∉ blk v ∧ ad.block < w.heap.size
theorem ArcsIs.ext0 {w0 w w' : World} {v : Value} {l : List Arc} {rs : List RC} (h : ArcsIs w0 w v l rs) (hx : Ext [] w w') : ArcsIs w0 w' v l rs :=
  ⟨h.new.ext hx, h.map, fun x hm => (h.each x hm).ext0 hx, fun x hm ad e => ⟨(h.ap x hm ad e).1, Nat.lt_of_lt_of_le (h.ap x hm ad e).2 hx.size⟩⟩
theorem row_stp {w w' : World} {F F' : List Nat} {a : Option Addr} {cs : List Value} (h : RowAt w a cs) (S : Stp F F' w w') (hd : ∀ ad, a = some ad → ad.block ∉ F) : RowAt w' a cs := h.ext S.ext fun b o e => hd _ e
theorem ArcsIs.app {w0 w w' : World} {v v' : Value} {l : List Arc} {rs : List RC} {x : Arc} (h : ArcsIs w0 w v l rs) (hx : ArcOk w x) (hap : ∀ ad, x.2.1 = some ad → ad.block ∉ blk v ∧ ad.block < w.heap.size)
    (O : Own w' 27 5 v' (l.length + 1) (l.flatMap arcC ++ arcC x)) (S : Stp (blk v) (blk v') w w') : ArcsIs w0 w' v' (l ++ [x]) (rs ++ [x.1]) := by
  have hall : ∀ y ∈ l ++ [x], ArcOk w y ∧ ∀ ad, y.2.1 = some ad → ad.block ∉ blk v ∧ ad.block < w.heap.size := by
    intro y hy
    rcases List.mem_append.1 hy with h1 | h1
    · exact ⟨h.each y h1, h.ap y h1⟩
    · simp at h1; subst h1; exact ⟨hx, hap⟩
  refine ⟨?_, by rw [List.map_append, h.map]; rfl, fun y hy => ?_, fun y hy ad e => ?_⟩
  · have := h.new.app O S
    rw [List.length_append, List.flatMap_append]
    simpa using this
  · have h1 := hall y hy
    exact ⟨h1.1.cap, h1.1.nil, row_stp h1.1.row S fun ad e => (h1.2 ad e).1⟩
  · have h1 := (hall y hy).2 ad e
    exact ⟨S.apart (G := [ad.block]) (by simpa using h1.1) (by simpa using h1.2) _ (by simp), Nat.lt_of_lt_of_le h1.2 S.size⟩
def outs (rs : List RC) : List (BitVec 8) := rs.flatMap rcOut
theorem outs_drop {rs : List RC} {k : Nat} (h : k < rs.length) : outs (rs.drop k) = rcOut rs[k] ++ outs (rs.drop (k + 1)) := by
  unfold outs; rw [List.drop_eq_getElem_cons h, List.flatMap_cons]
theorem outs_take {rs : List RC} {k : Nat} (h : k < rs.length) : outs (rs.take (k + 1)) = outs (rs.take k) ++ rcOut rs[k] := by
  unfold outs; rw [List.take_succ_eq_append_getElem h, List.flatMap_append]; simp
theorem outs_le : ∀ {rs : List RC}, (∀ r ∈ rs, r.data.length ≤ 5000) → (outs rs).length ≤ 5064 * rs.length
  | [], _ => by simp [outs]
  | r :: rs, h => by
    have h1 := rcOut_le (h r (List.mem_cons_self ..))
    have h2 := outs_le (rs := rs) fun y hy => h y (List.mem_cons_of_mem _ hy)
    unfold outs at *
    rw [List.flatMap_cons, List.length_append, List.length_cons]
    omega
abbrev rsRecM_0 := (And.intro @xBox_r (And.intro @loadK_some (And.intro @loadsK_s (And.intro @loadsK_n (And.intro @loadsR_s (And.intro @loadsR_n (And.intro @storesK_s (And.intro @storesK_n (And.intro @xPick_t (And.intro @xPick_f (And.intro @xGuard_tt (And.intro @xGuard_ff (And.intro @xGuard_tf (And.intro @xGuard_ft (And.intro @xGuard_u 
  (And.intro @xNil_r (And.intro @xIf_t (And.intro @xBin_add' (And.intro @xBin_sub' (And.intro @xBin_mul' (And.intro @xBin_quo' (And.intro @xBin_rem' (And.intro @xIf_f (And.intro @xIf_tt (And.intro @xEx0 (And.intro @xEx1 (And.intro @xEx2 (And.intro @xEx3 (And.intro @xBin_eqs (And.intro @xBin_nes (And.intro @xUn_not (And.intro @xu8_add (And.intro @xu8_neq 
  (And.intro @xu8_gtr (And.intro @xu16_add (And.intro @xu16_neq (And.intro @xu16_gtr (And.intro @xu32_add (And.intro @xu32_neq (And.intro @xu32_gtr (And.intro @xu64_add (And.intro @xu64_neq (And.intro @xu64_gtr (And.intro @xi64_gtr (And.intro @xi64_neq (And.intro @xi64_neg (And.intro @xMakeFunc_r (And.intro @xSq_r (And.intro @xPur_s (And.intro @xRd_s 
  (And.intro @xRe_s (And.intro @xDet_s (And.intro @xDet_ld (And.intro @xDet_ld2 (And.intro @xDet_ld3 (And.intro @xDet_ld4 (And.intro @xGuard_tt (And.intro @ld_27 (And.intro @al_27 (And.intro @st_27 (And.intro @ln_25 (And.intro @bs_45_1 (And.intro @sh_25 (And.intro @sl_25 @sm_25))))))))))))))))))))))))))))))))))))))))))))))))))))))))))))))))
abbrev rsRecM_1 := (And.intro @setCells_c (And.intro @setCells_n (And.intro @World.setCell_alloc_at (And.intro @World.setCell_alloc_past (And.intro @World.cell?_alloc_at (And.intro @World.cell?_alloc_past (And.intro @World.frozen?_alloc_at (And.intro @World.frozen?_alloc_past 
  (And.intro @World.size_alloc (And.intro @dlt_t (And.intro @dlt_f (And.intro @dle_t (And.intro @dle_f (And.intro @deq_t (And.intro @deq_f (And.intro @dne_t (And.intro @dne_f (And.intro @not_true_eq_false (And.intro @Bool.false_and (And.intro @Bool.true_and (And.intro @Bool.and_true (And.intro @Bool.and_false (And.intro @wrap_in (And.intro @Int.toNat_natCast 
  (And.intro @Nat.mul_one (And.intro @cells_int (And.intro @cells_bool (And.intro @cells_string (And.intro @cells_slice (And.intro @cells_pointer (And.intro @cells_agg (And.intro @one_int (And.intro @one_bool (And.intro @one_string (And.intro @one_slice (And.intro @one_pointer (And.intro @beq_tt (And.intro @beq_ff (And.intro @beq_tf 
  (And.intro @beq_ft (And.intro @cell_sets_b (And.intro @frozen_sets (And.intro @size_sets (And.intro @World.size_drew (And.intro @Nat.zero_add (And.intro @Nat.add_zero (And.intro @cell_drew (And.intro @frozen_drew (And.intro @cell_set_eq (And.intro @cell_set_o (And.intro @cell_set_b (And.intro @World.frozen?_setCell 
  (And.intro @decide_true (And.intro @decide_false (And.intro @not_false_eq_true (And.intro @Bool.not_true @Bool.not_false))))))))))))))))))))))))))))))))))))))))))))))))))))))))
theorem rec_All_spec (rs : List RC) (a : Option Addr) (n c : Nat) (w : World) (h20 : rs.length ≤ 20) (hall : ∀ r ∈ rs, rcErr r = 0) (hn : n = (outs rs).length) (hnc : n ≤ c) (hrow : RowAt w a (bys (outs rs))) (hnil : a = none → c = 0) :
    Yld Try.prog n_rec_All #[.slice a n c] w fun u w' => ∃ v l, u = .tuple #[v, i64 0] ∧ ArcsIs w w' v l rs := by
  have hd : ∀ r ∈ rs, r.data.length ≤ 5000 := fun r hr => by have := (rcErr_0 (hall r hr)).2; omega
  refine rec_All_of ?_
  unfold rec_All
  refine xLoop_r rs.length (fun k vs w' => ∃ a' c' v l, vs = [.slice a' (outs (rs.drop k)).length c', v] ∧ (outs (rs.drop k)).length ≤ c' ∧ RowAt w a' (bys (outs (rs.drop k))) ∧ (a' = none → c' = 0) ∧ ArcsIs w w' v l (rs.take k))
    ⟨a, c, _, [], by rw [List.drop_zero, hn], by rw [List.drop_zero]; omega, by rw [List.drop_zero]; exact hrow, hnil, NewR.nil (Ext.refl _ _), by simp, by simp, by simp⟩ ?_ ?_
  · rintro k hk u w1 ⟨a1, c1, v, l, hu, hc1, hR1, hn1, hI⟩ nxt hnx
    simp only [List.map_cons, List.map_nil, List.cons.injEq, and_true] at hu
    rw [hu.1, hu.2]
    have hk0 := hall _ (List.getElem_mem hk)
    have hod := outs_drop hk
    have hle := outs_le (rs := rs.drop (k + 1)) fun r hr => hd r (List.mem_of_mem_drop hr)
    have hle2 : (rs.drop (k + 1)).length ≤ 20 := by simp; omega
    have hpos := rcOut_pos rs[k]
    have hlen : (outs (rs.drop k)).length = (rcOut rs[k]).length + (outs (rs.drop (k + 1))).length := by rw [hod, List.length_append]
    rw [hod] at hR1
    unfold rec_All_l1
    simp (disch := (first | omega | decide | (simp only [World.size_alloc, World.size_setCell, World.size_drew, size_sets, List.mem_cons, List.not_mem_nil, or_false, not_false_eq_true] <;> omega) | fail)) only [↓rsRecM_0, rsRecM_1, Option.isNone_some, Option.isNone_none, tick_eq, tickV_eq, ne_eq, Int.reduceAdd, Int.reduceSub, Int.reduceMul, Int.reduceEq, Int.reduceLT, Int.reduceLE, Int.reduceToNat, Nat.reduceMul, Nat.reduceAdd, Nat.reduceSub, List.nil_append, List.cons_append, List.getElem?_toArray, List.getElem?_cons_zero, List.getElem?_cons_succ, List.setIfInBounds_toArray, List.set_cons_zero, List.set_cons_succ, Option.map_some, List.not_mem_nil, ←decide_not, eq_self]
    refine rec_Decode_call (Yld.mono (rec_Decode_spec rs[k] (outs (rs.drop (k + 1))) a1 _ c1 w1 hk0 (by omega) (by rw [hod]) hc1 (hR1.ext0 hI.new.1) hn1) ?_)
    rintro u2 w2 ⟨F2, a2, c2, rfl, q1, q2, q3, q4⟩
    have hz2 := F2.size
    have hI2 := (hI.ext0 F2).ext0 (Ext.alloc [] w2 (.cells (rcC rs[k] a2 c2).toArray 27))
    have hll : l.length ≤ 20 := by have := congrArg List.length hI.map; simp at this; omega
    simp (disch := (first | omega | decide | (simp only [World.size_alloc, World.size_setCell, World.size_drew, size_sets, List.mem_cons, List.not_mem_nil, or_false, not_false_eq_true] <;> omega) | fail)) only [↓rsRecM_0, rsRecM_1, Option.isNone_some, Option.isNone_none, tick_eq, tickV_eq, ne_eq, Int.reduceAdd, Int.reduceSub, Int.reduceMul, Int.reduceEq, Int.reduceLT, Int.reduceLE, Int.reduceToNat, Nat.reduceMul, Nat.reduceAdd, Nat.reduceSub, List.nil_append, List.cons_append, List.getElem?_toArray, List.getElem?_cons_zero, List.getElem?_cons_succ, List.setIfInBounds_toArray, List.set_cons_zero, List.set_cons_succ, Option.map_some, List.not_mem_nil, ←decide_not, eq_self]
    refine xAppL (s := 5) (n := l.length) (m := 1) (xs := l.flatMap arcC) (news := rcC rs[k] a2 c2) (bytes := 56) (z := .agg rc0.toArray) (by kernel_rfl) (by kernel_rfl) (by rfl) (by decide) hI2.new.2.1 (by rfl) (by simp [Value.oneCell']) (by omega) (by omega) fun v' w' O S => ?_
    have S' : Stp (blk v) (blk v') w2 w' := ⟨(Ext.alloc _ w2 _).trans S.ext, fun b hb => (S.at' b hb).imp id fun h => by simp at h; omega⟩
    have hI3 := (hI.ext0 F2).app (x := (rs[k], a2, c2)) ⟨q1, q2, q3⟩ (fun ad e => ⟨fun hm => by
      have h1 := (q4 ad e).1
      have h2 := hI.new.2.1.lt _ hm
      omega, (q4 ad e).2⟩) O S'
    rw [← List.take_succ_eq_append_getElem hk] at hI3
    have hc1' : (rcOut rs[k]).length ≤ (outs (rs.drop k)).length := by omega
    simp (disch := (first | omega | decide | (simp only [World.size_alloc, World.size_setCell, World.size_drew, size_sets, List.mem_cons, List.not_mem_nil, or_false, not_false_eq_true] <;> omega) | fail)) only [↓rsRecM_0, rsRecM_1, Option.isNone_some, Option.isNone_none, tick_eq, tickV_eq, ne_eq, Int.reduceAdd, Int.reduceSub, Int.reduceMul, Int.reduceEq, Int.reduceLT, Int.reduceLE, Int.reduceToNat, Nat.reduceMul, Nat.reduceAdd, Nat.reduceSub, List.nil_append, List.cons_append, List.getElem?_toArray, List.getElem?_cons_zero, List.getElem?_cons_succ, List.setIfInBounds_toArray, List.set_cons_zero, List.set_cons_succ, Option.map_some, List.not_mem_nil, ←decide_not, eq_self]
    refine hnx _ _ ⟨(if c1 = (rcOut rs[k]).length then a1 else a1.map fun x => x.add (rcOut rs[k]).length), c1 - (rcOut rs[k]).length, v', l ++ [(rs[k], a2, c2)], ?_, ?_, ?_, ?_, hI3⟩
    · congr 2
      omega
    · omega
    · have := hR1.drop (rcOut rs[k]).length c1 (by simp; omega)
      rwa [bys, ← List.map_drop, List.drop_left' rfl] at this
    · intro h
      split at h
      · have := hn1 h; omega
      · cases a1 with
        | none => have := hn1 rfl; omega
        | some ad => cases h
  · rintro u w1 ⟨a1, c1, v, l, hu, hc1, hR1, hn1, hI⟩ nxt
    simp only [List.map_cons, List.map_nil, List.cons.injEq, and_true] at hu
    rw [hu.1, hu.2]
    have e0 : (outs (rs.drop rs.length)).length = 0 := by rw [List.drop_length]; rfl
    rw [e0]
    unfold rec_All_l1
    simp (disch := (first | omega | decide | (simp only [World.size_alloc, World.size_setCell, World.size_drew, size_sets, List.mem_cons, List.not_mem_nil, or_false, not_false_eq_true] <;> omega) | fail)) only [↓rsRecM_0, rsRecM_1, Option.isNone_some, Option.isNone_none, tick_eq, tickV_eq, ne_eq, Int.reduceAdd, Int.reduceSub, Int.reduceMul, Int.reduceEq, Int.reduceLT, Int.reduceLE, Int.reduceToNat, Nat.reduceMul, Nat.reduceAdd, Nat.reduceSub, List.nil_append, List.cons_append, List.getElem?_toArray, List.getElem?_cons_zero, List.getElem?_cons_succ, List.setIfInBounds_toArray, List.set_cons_zero, List.set_cons_succ, Option.map_some, List.not_mem_nil, ←decide_not, eq_self]
    rw [List.take_length] at hI
    exact ⟨v, l, by trivial, hI⟩
theorem arcs_get {l : List Arc} {k : Nat} (h : k < l.length) {w : World} {v : Value} {rs : List RC} {w0 : World} (hI : ArcsIs w0 w v l rs) :
    ∃ b o, v = .slice (some ⟨b, o, none⟩) l.length (match v with | .slice _ _ c => c | _ => 0) ∧ ∀ j x, (arcC l[k])[j]? = some x → w.cell? ⟨b, o + k * 5 + j, none⟩ = some x := by
  obtain ⟨a, c, rfl, _, _, _, hR, _⟩ := hI.new.2.1.slice
  obtain ⟨b, o, rfl, _, hc⟩ := row_elem (F := 5) (by decide) hR (fun x _ => rfl) h
  exact ⟨b, o, rfl, hc⟩
abbrev rsRecM_2 := (And.intro @xBox_r (And.intro @loadK_some (And.intro @loadsK_s (And.intro @loadsK_n (And.intro @loadsR_s (And.intro @loadsR_n (And.intro @storesK_s (And.intro @storesK_n (And.intro @xPick_t (And.intro @xPick_f (And.intro @xGuard_tt (And.intro @xGuard_ff (And.intro @xGuard_tf (And.intro @xGuard_ft (And.intro @xGuard_u 
  (And.intro @xNil_r (And.intro @xIf_t (And.intro @xBin_add' (And.intro @xBin_sub' (And.intro @xBin_mul' (And.intro @xBin_quo' (And.intro @xBin_rem' (And.intro @xIf_f (And.intro @xIf_tt (And.intro @xEx0 (And.intro @xEx1 (And.intro @xEx2 (And.intro @xEx3 (And.intro @xBin_eqs (And.intro @xBin_nes (And.intro @xUn_not (And.intro @xu8_add (And.intro @xu8_com 
  (And.intro @xu8_neq (And.intro @xu8_lss (And.intro @xu8_gtr (And.intro @xu16_add (And.intro @xu16_com (And.intro @xu16_neq (And.intro @xu16_lss (And.intro @xu16_gtr (And.intro @xu32_add (And.intro @xu32_com (And.intro @xu32_neq (And.intro @xu32_lss (And.intro @xu32_gtr (And.intro @xu64_add (And.intro @xu64_com (And.intro @xu64_neq (And.intro @xu64_lss 
  (And.intro @xu64_gtr (And.intro @xi64_lss (And.intro @xi64_gtr (And.intro @xi64_neq (And.intro @xi64_neg (And.intro @xMakeFunc_r (And.intro @xSq_r (And.intro @xPur_s (And.intro @xRd_s (And.intro @xRe_s (And.intro @xDet_s (And.intro @xDet_ld (And.intro @xDet_ld2 (And.intro @xDet_ld3 (And.intro @xDet_ld4 (And.intro @xGuard_tt (And.intro @ld_25 (And.intro @ld_27 
  (And.intro @fa_27_3 (And.intro @ia_45 (And.intro @ln_25 @ln_45)))))))))))))))))))))))))))))))))))))))))))))))))))))))))))))))))))))))
theorem RecordRows_spec (l : List Arc) (a : Option Addr) (n c : Nat) (w : World) (hA : ArcsArg w l a n c) : Gives Try.prog n_loamlaw8_RecordRows #[.slice a n c] w (.bool true) := by
  have hln := hA.len
  subst hln
  refine loamlaw8_RecordRows_of ?_
  unfold loamlaw8_RecordRows
  refine loamlaw8_known_call (Gives.to (known8_spec _) fun w1 E1 => ?_)
  have z1 := E1.size
  try simp only [World.size_alloc, World.size_setCell, World.size_drew] at z1
  simp (disch := (first | omega | decide | (simp only [World.size_alloc, World.size_setCell, World.size_drew, size_sets, List.mem_cons, List.not_mem_nil, or_false, not_false_eq_true] <;> omega) | fail)) only [↓rsRecM_2, rsRecM_1, Option.isNone_some, Option.isNone_none, tick_eq, tickV_eq, ne_eq, Int.reduceAdd, Int.reduceSub, Int.reduceMul, Int.reduceEq, Int.reduceLT, Int.reduceLE, Int.reduceToNat, Nat.reduceMul, Nat.reduceAdd, Nat.reduceSub, List.nil_append, List.cons_append, List.getElem?_toArray, List.getElem?_cons_zero, List.getElem?_cons_succ, List.setIfInBounds_toArray, List.set_cons_zero, List.set_cons_succ, Option.map_some, List.not_mem_nil, ←decide_not, eq_self]
  by_cases h20 : 20 < l.length
  · simp (disch := (first | omega | decide | (simp only [World.size_alloc, World.size_setCell, World.size_drew, size_sets, List.mem_cons, List.not_mem_nil, or_false, not_false_eq_true] <;> omega) | fail)) only [↓rsRecM_2, rsRecM_1, Option.isNone_some, Option.isNone_none, tick_eq, tickV_eq, ne_eq, Int.reduceAdd, Int.reduceSub, Int.reduceMul, Int.reduceEq, Int.reduceLT, Int.reduceLE, Int.reduceToNat, Nat.reduceMul, Nat.reduceAdd, Nat.reduceSub, List.nil_append, List.cons_append, List.getElem?_toArray, List.getElem?_cons_zero, List.getElem?_cons_succ, List.setIfInBounds_toArray, List.set_cons_zero, List.set_cons_succ, Option.map_some, List.not_mem_nil, ←decide_not, eq_self]
    exact ⟨by trivial, E1⟩
  simp (disch := (first | omega | decide | (simp only [World.size_alloc, World.size_setCell, World.size_drew, size_sets, List.mem_cons, List.not_mem_nil, or_false, not_false_eq_true] <;> omega) | fail)) only [↓rsRecM_2, rsRecM_1, Option.isNone_some, Option.isNone_none, tick_eq, tickV_eq, ne_eq, Int.reduceAdd, Int.reduceSub, Int.reduceMul, Int.reduceEq, Int.reduceLT, Int.reduceLE, Int.reduceToNat, Nat.reduceMul, Nat.reduceAdd, Nat.reduceSub, List.nil_append, List.cons_append, List.getElem?_toArray, List.getElem?_cons_zero, List.getElem?_cons_succ, List.setIfInBounds_toArray, List.set_cons_zero, List.set_cons_succ, Option.map_some, List.not_mem_nil, ←decide_not, eq_self]
  -- the first that is too long, or none
  refine xLoop_r l.length (fun k vs w' => ∃ v, vs = [v, i64 k] ∧ (∀ x ∈ l.take k, rcErr x.1 = 0 ∧ x.1.data.length ≤ 300) ∧ NewB w w' v (outs ((l.take k).map (·.1)))) ⟨_, rfl, by simp, NewR.nil E1⟩ ?_ ?_
  · rintro k hk u w2 ⟨v, hu, hgood, hN⟩ nxt hnx
    simp only [List.map_cons, List.map_nil, List.cons.injEq, and_true] at hu
    rw [hu.1, hu.2]
    obtain ⟨b, o, rfl, hb, hc⟩ := row_elem (F := 5) (by decide) (hA.row.ext0 hN.1) (fun x _ => rfl) hk
    have hx := (hA.each _ (List.getElem_mem hk)).ext0 hN.1
    have k0 := hc 0 _ rfl
    have k1 := hc 1 _ rfl
    have k2 := hc 2 _ rfl
    have k3 := hc 3 _ rfl
    have k4 := hc 4 _ rfl
    simp only [Nat.add_zero] at k0
    have hle := outs_le (rs := (l.take k).map (·.1)) (fun r hr => by
      obtain ⟨x, hx, rfl⟩ := List.mem_map.1 hr
      have := (hgood x hx).2; omega)
    have hle2 : ((l.take k).map (·.1)).length ≤ 20 := by simp; omega
    unfold loamlaw8_RecordRows_l1
    by_cases h3 : 300 < l[k].1.data.length
    · simp (disch := (first | omega | decide | (simp only [World.size_alloc, World.size_setCell, World.size_drew, size_sets, List.mem_cons, List.not_mem_nil, or_false, not_false_eq_true] <;> omega) | fail)) only [↓rsRecM_2, rsRecM_1, Option.isNone_some, Option.isNone_none, tick_eq, tickV_eq, ne_eq, Int.reduceAdd, Int.reduceSub, Int.reduceMul, Int.reduceEq, Int.reduceLT, Int.reduceLE, Int.reduceToNat, Nat.reduceMul, Nat.reduceAdd, Nat.reduceSub, List.nil_append, List.cons_append, List.getElem?_toArray, List.getElem?_cons_zero, List.getElem?_cons_succ, List.setIfInBounds_toArray, List.set_cons_zero, List.set_cons_succ, Option.map_some, List.not_mem_nil, ←decide_not, k4]
      exact ⟨by trivial, hN.1⟩
    simp (disch := (first | omega | decide | (simp only [World.size_alloc, World.size_setCell, World.size_drew, size_sets, List.mem_cons, List.not_mem_nil, or_false, not_false_eq_true] <;> omega) | fail)) only [↓rsRecM_2, rsRecM_1, Option.isNone_some, Option.isNone_none, tick_eq, tickV_eq, ne_eq, Int.reduceAdd, Int.reduceSub, Int.reduceMul, Int.reduceEq, Int.reduceLT, Int.reduceLE, Int.reduceToNat, Nat.reduceMul, Nat.reduceAdd, Nat.reduceSub, List.nil_append, List.cons_append, List.getElem?_toArray, List.getElem?_cons_zero, List.getElem?_cons_succ, List.setIfInBounds_toArray, List.set_cons_zero, List.set_cons_succ, Option.map_some, List.not_mem_nil, ←decide_not, k0, k1, k2, k3, k4]
    refine rec_Encode_call (Yld.mono (rec_Encode_spec l[k].1 l[k].2.1 l[k].2.2 w2 (by omega) hx.row hx.nil) ?_)
    rintro u3 w3 ⟨F3, a3, c3, rfl, q1, q2, q3, q4⟩
    by_cases he : rcErr l[k].1 = 0
    · have d0 : decide (¬ rcErr l[k].1 = 0) = false := decide_eq_false (fun h => h he)
      have eo : rcEnc l[k].1 = rcOut l[k].1 := if_pos he
      rw [eo] at q1 q3
      have hout := rcOut_le (r := l[k].1) (by omega)
      simp (disch := (first | omega | decide | (simp only [World.size_alloc, World.size_setCell, World.size_drew, size_sets, List.mem_cons, List.not_mem_nil, or_false, not_false_eq_true] <;> omega) | fail)) only [↓rsRecM_2, rsRecM_1, Option.isNone_some, Option.isNone_none, tick_eq, tickV_eq, ne_eq, Int.reduceAdd, Int.reduceSub, Int.reduceMul, Int.reduceEq, Int.reduceLT, Int.reduceLE, Int.reduceToNat, Nat.reduceMul, Nat.reduceAdd, Nat.reduceSub, List.nil_append, List.cons_append, List.getElem?_toArray, List.getElem?_cons_zero, List.getElem?_cons_succ, List.setIfInBounds_toArray, List.set_cons_zero, List.set_cons_succ, Option.map_some, List.not_mem_nil, ←decide_not, k0, k1, k2, k3, k4, d0, eo]
      refine appB (hN.2.1.ext0 F3) rfl q3 q2 q1 (by omega) fun v' w' O S => ?_
      simp (disch := (first | omega | decide | (simp only [World.size_alloc, World.size_setCell, World.size_drew, size_sets, List.mem_cons, List.not_mem_nil, or_false, not_false_eq_true] <;> omega) | fail)) only [↓rsRecM_2, rsRecM_1, Option.isNone_some, Option.isNone_none, tick_eq, tickV_eq, ne_eq, Int.reduceAdd, Int.reduceSub, Int.reduceMul, Int.reduceEq, Int.reduceLT, Int.reduceLE, Int.reduceToNat, Nat.reduceMul, Nat.reduceAdd, Nat.reduceSub, List.nil_append, List.cons_append, List.getElem?_toArray, List.getElem?_cons_zero, List.getElem?_cons_succ, List.setIfInBounds_toArray, List.set_cons_zero, List.set_cons_succ, Option.map_some, List.not_mem_nil, ←decide_not, k0, k1, k2, k3, k4, d0, eo]
      refine hnx _ _ ⟨v', rfl, fun x hx => ?_, ?_⟩
      · rw [List.take_succ_eq_append_getElem hk] at hx
        rcases List.mem_append.1 hx with h | h
        · exact hgood x h
        · simp at h; subst h; exact ⟨he, by omega⟩
      · have := (hN.ext F3).app O S
        have e : outs ((l.take (k + 1)).map (·.1)) = outs ((l.take k).map (·.1)) ++ rcOut l[k].1 := by
          rw [List.take_succ_eq_append_getElem hk, List.map_append, outs, List.flatMap_append]
          simp [outs]
        rw [e]
        exact this
    · have d0 : decide (¬ rcErr l[k].1 = 0) = true := decide_eq_true he
      simp (disch := (first | omega | decide | (simp only [World.size_alloc, World.size_setCell, World.size_drew, size_sets, List.mem_cons, List.not_mem_nil, or_false, not_false_eq_true] <;> omega) | fail)) only [↓rsRecM_2, rsRecM_1, Option.isNone_some, Option.isNone_none, tick_eq, tickV_eq, ne_eq, Int.reduceAdd, Int.reduceSub, Int.reduceMul, Int.reduceEq, Int.reduceLT, Int.reduceLE, Int.reduceToNat, Nat.reduceMul, Nat.reduceAdd, Nat.reduceSub, List.nil_append, List.cons_append, List.getElem?_toArray, List.getElem?_cons_zero, List.getElem?_cons_succ, List.setIfInBounds_toArray, List.set_cons_zero, List.set_cons_succ, Option.map_some, List.not_mem_nil, ←decide_not, k0, k1, k2, k3, k4, d0]
      exact ⟨by trivial, hN.1.trans F3⟩
  · rintro u w2 ⟨v, hu, hgood, hN⟩ nxt
    simp only [List.map_cons, List.map_nil, List.cons.injEq, and_true] at hu
    rw [hu.1, hu.2]
    rw [List.take_length] at hgood hN
    obtain ⟨a2, c2, rfl, q1, _, q2, q3, _⟩ := hN.2.1.slice
    unfold loamlaw8_RecordRows_l1
    simp (disch := (first | omega | decide | (simp only [World.size_alloc, World.size_setCell, World.size_drew, size_sets, List.mem_cons, List.not_mem_nil, or_false, not_false_eq_true] <;> omega) | fail)) only [↓rsRecM_2, rsRecM_1, Option.isNone_some, Option.isNone_none, tick_eq, tickV_eq, ne_eq, Int.reduceAdd, Int.reduceSub, Int.reduceMul, Int.reduceEq, Int.reduceLT, Int.reduceLE, Int.reduceToNat, Nat.reduceMul, Nat.reduceAdd, Nat.reduceSub, List.nil_append, List.cons_append, List.getElem?_toArray, List.getElem?_cons_zero, List.getElem?_cons_succ, List.setIfInBounds_toArray, List.set_cons_zero, List.set_cons_succ, Option.map_some, List.not_mem_nil, ←decide_not, eq_self]
    refine rec_All_call (Yld.mono (rec_All_spec (l.map (·.1)) a2 _ c2 w2 (by simp; omega) (fun r hr => by
      obtain ⟨x, hx, rfl⟩ := List.mem_map.1 hr
      exact (hgood x hx).1) rfl q1 q3 q2) ?_)
    rintro u3 w3 ⟨v3, m, rfl, hI⟩
    have hml : m.length = l.length := by have := congrArg List.length hI.map; simpa using this
    have X3 := hN.1.trans hI.new.1
    obtain ⟨a3, c3, rfl, _, _, _, hR3, _⟩ := hI.new.2.1.slice
    have dne : decide (¬ ((m.length : Int)) = l.length) = false := decide_eq_false (by omega)
    simp (disch := (first | omega | decide | (simp only [World.size_alloc, World.size_setCell, World.size_drew, size_sets, List.mem_cons, List.not_mem_nil, or_false, not_false_eq_true] <;> omega) | fail)) only [↓rsRecM_2, rsRecM_1, Option.isNone_some, Option.isNone_none, tick_eq, tickV_eq, ne_eq, Int.reduceAdd, Int.reduceSub, Int.reduceMul, Int.reduceEq, Int.reduceLT, Int.reduceLE, Int.reduceToNat, Nat.reduceMul, Nat.reduceAdd, Nat.reduceSub, List.nil_append, List.cons_append, List.getElem?_toArray, List.getElem?_cons_zero, List.getElem?_cons_succ, List.setIfInBounds_toArray, List.set_cons_zero, List.set_cons_succ, Option.map_some, List.not_mem_nil, ←decide_not, dne]
    refine xLoop_n l.length (fun k => [i64 k]) (fun k w' => Ext [] w3 w') rfl (Ext.refl _ _) ?_ ?_
    · rintro k hk u w4 hu F4 nxt hnx
      simp only [List.map_cons, List.map_nil, List.cons.injEq, and_true] at hu
      rw [hu]
      have Xd := F4.drew'
      have hkm : k < m.length := by omega
      have hmk : m[k].1 = l[k].1 := by
        have := congrArg (fun z : List RC => z[k]?) hI.map
        simp only [List.getElem?_map, List.getElem?_eq_getElem hkm, List.getElem?_eq_getElem hk, Option.map_some, Option.some.injEq] at this
        exact this
      obtain ⟨b, o, rfl, hb, hc⟩ := row_elem (F := 5) (by decide) (hA.row.ext0 (X3.trans Xd)) (fun x _ => rfl) hk
      have hx := (hA.each _ (List.getElem_mem hk)).ext0 (X3.trans Xd)
      obtain ⟨b', o', rfl, hb', hc'⟩ := row_elem (F := 5) (by decide) (hR3.ext0 Xd) (fun x _ => rfl) hkm
      have hy := (hI.each _ (List.getElem_mem hkm)).ext0 Xd
      have k0 := hc 0 _ rfl
      have k1 := hc 1 _ rfl
      have k2 := hc 2 _ rfl
      have k3 := hc 3 _ rfl
      have k4 := hc 4 _ rfl
      have m0 := hc' 0 _ rfl
      have m1 := hc' 1 _ rfl
      have m2 := hc' 2 _ rfl
      have m3 := hc' 3 _ rfl
      have m4 := hc' 4 _ rfl
      simp only [Nat.add_zero] at k0 m0
      have hyr := hy.row
      rw [hmk] at m0 m1 m2 m3 m4 hyr
      unfold loamlaw8_RecordRows_l2
      simp (disch := (first | omega | decide | (simp only [World.size_alloc, World.size_setCell, World.size_drew, size_sets, List.mem_cons, List.not_mem_nil, or_false, not_false_eq_true] <;> omega) | fail)) only [↓rsRecM_2, rsRecM_1, Option.isNone_some, Option.isNone_none, tick_eq, tickV_eq, ne_eq, Int.reduceAdd, Int.reduceSub, Int.reduceMul, Int.reduceEq, Int.reduceLT, Int.reduceLE, Int.reduceToNat, Nat.reduceMul, Nat.reduceAdd, Nat.reduceSub, List.nil_append, List.cons_append, List.getElem?_toArray, List.getElem?_cons_zero, List.getElem?_cons_succ, List.setIfInBounds_toArray, List.set_cons_zero, List.set_cons_succ, Option.map_some, List.not_mem_nil, ←decide_not, dne, k0, k1, k2, k3, k4, m0, m1, m2, m3, m4]
      refine rec_Same_call (Gives.to (rec_Same_spec l[k].1 m[k].2.1 l[k].2.1 m[k].2.2 l[k].2.2 _ hyr hx.row) fun w5 F5 => ?_)
      have k0' := F5.cell0 k0
      have k1' := F5.cell0 k1
      have k2' := F5.cell0 k2
      have k3' := F5.cell0 k3
      have k4' := F5.cell0 k4
      have m0' := F5.cell0 m0
      have m1' := F5.cell0 m1
      have m2' := F5.cell0 m2
      have m3' := F5.cell0 m3
      have m4' := F5.cell0 m4
      simp (disch := (first | omega | decide | (simp only [World.size_alloc, World.size_setCell, World.size_drew, size_sets, List.mem_cons, List.not_mem_nil, or_false, not_false_eq_true] <;> omega) | fail)) only [↓rsRecM_2, rsRecM_1, Option.isNone_some, Option.isNone_none, tick_eq, tickV_eq, ne_eq, Int.reduceAdd, Int.reduceSub, Int.reduceMul, Int.reduceEq, Int.reduceLT, Int.reduceLE, Int.reduceToNat, Nat.reduceMul, Nat.reduceAdd, Nat.reduceSub, List.nil_append, List.cons_append, List.getElem?_toArray, List.getElem?_cons_zero, List.getElem?_cons_succ, List.setIfInBounds_toArray, List.set_cons_zero, List.set_cons_succ, Option.map_some, List.not_mem_nil, ←decide_not, dne, k0, k1, k2, k3, k4, m0, m1, m2, m3, m4, k0', k1', k2', k3', k4', m0', m1', m2', m3', m4']
      refine loamlaw8_Of_call (Gives.to (Of8_spec l[k].1 m[k].2.1 m[k].2.2 _) fun w6 F6 => ?_)
      have k0'' := F6.cell0 k0'
      have k1'' := F6.cell0 k1'
      have k2'' := F6.cell0 k2'
      have k3'' := F6.cell0 k3'
      have k4'' := F6.cell0 k4'
      simp (disch := (first | omega | decide | (simp only [World.size_alloc, World.size_setCell, World.size_drew, size_sets, List.mem_cons, List.not_mem_nil, or_false, not_false_eq_true] <;> omega) | fail)) only [↓rsRecM_2, rsRecM_1, Option.isNone_some, Option.isNone_none, tick_eq, tickV_eq, ne_eq, Int.reduceAdd, Int.reduceSub, Int.reduceMul, Int.reduceEq, Int.reduceLT, Int.reduceLE, Int.reduceToNat, Nat.reduceMul, Nat.reduceAdd, Nat.reduceSub, List.nil_append, List.cons_append, List.getElem?_toArray, List.getElem?_cons_zero, List.getElem?_cons_succ, List.setIfInBounds_toArray, List.set_cons_zero, List.set_cons_succ, Option.map_some, List.not_mem_nil, ←decide_not, dne, k0, k1, k2, k3, k4, m0, m1, m2, m3, m4, k0', k1', k2', k3', k4', m0', m1', m2', m3', m4', k0'', k1'', k2'', k3'', k4'']
      refine loamlaw8_Of_call (Gives.to (Of8_spec l[k].1 l[k].2.1 l[k].2.2 _) fun w7 F7 => ?_)
      simp (disch := (first | omega | decide | (simp only [World.size_alloc, World.size_setCell, World.size_drew, size_sets, List.mem_cons, List.not_mem_nil, or_false, not_false_eq_true] <;> omega) | fail)) only [↓rsRecM_2, rsRecM_1, Option.isNone_some, Option.isNone_none, tick_eq, tickV_eq, ne_eq, Int.reduceAdd, Int.reduceSub, Int.reduceMul, Int.reduceEq, Int.reduceLT, Int.reduceLE, Int.reduceToNat, Nat.reduceMul, Nat.reduceAdd, Nat.reduceSub, List.nil_append, List.cons_append, List.getElem?_toArray, List.getElem?_cons_zero, List.getElem?_cons_succ, List.setIfInBounds_toArray, List.set_cons_zero, List.set_cons_succ, Option.map_some, List.not_mem_nil, ←decide_not, dne, k0, k1, k2, k3, k4, m0, m1, m2, m3, m4, k0', k1', k2', k3', k4', m0', m1', m2', m3', m4', k0'', k1'', k2'', k3'', k4'']
      refine loamref8_Same_call (Gives.to (rSame_spec l[k].1 m[k].2.1 l[k].2.1 m[k].2.2 l[k].2.2 _ (((hyr.ext0 F5).ext0 F6).ext0 F7) (((hx.row.ext0 F5).ext0 F6).ext0 F7)) fun w8 F8 => ?_)
      simp (disch := (first | omega | decide | (simp only [World.size_alloc, World.size_setCell, World.size_drew, size_sets, List.mem_cons, List.not_mem_nil, or_false, not_false_eq_true] <;> omega) | fail)) only [↓rsRecM_2, rsRecM_1, Option.isNone_some, Option.isNone_none, tick_eq, tickV_eq, ne_eq, Int.reduceAdd, Int.reduceSub, Int.reduceMul, Int.reduceEq, Int.reduceLT, Int.reduceLE, Int.reduceToNat, Nat.reduceMul, Nat.reduceAdd, Nat.reduceSub, List.nil_append, List.cons_append, List.getElem?_toArray, List.getElem?_cons_zero, List.getElem?_cons_succ, List.setIfInBounds_toArray, List.set_cons_zero, List.set_cons_succ, Option.map_some, List.not_mem_nil, ←decide_not, dne, k0, k1, k2, k3, k4, m0, m1, m2, m3, m4, k0', k1', k2', k3', k4', m0', m1', m2', m3', m4', k0'', k1'', k2'', k3'', k4'']
      exact hnx _ ((((Xd.trans F5).trans F6).trans F7).trans F8)
    · rintro u w4 hu F4 nxt
      simp only [List.map_cons, List.map_nil, List.cons.injEq, and_true] at hu
      rw [hu]
      unfold loamlaw8_RecordRows_l2
      simp (disch := (first | omega | decide | (simp only [World.size_alloc, World.size_setCell, World.size_drew, size_sets, List.mem_cons, List.not_mem_nil, or_false, not_false_eq_true] <;> omega) | fail)) only [↓rsRecM_2, rsRecM_1, Option.isNone_some, Option.isNone_none, tick_eq, tickV_eq, ne_eq, Int.reduceAdd, Int.reduceSub, Int.reduceMul, Int.reduceEq, Int.reduceLT, Int.reduceLE, Int.reduceToNat, Nat.reduceMul, Nat.reduceAdd, Nat.reduceSub, List.nil_append, List.cons_append, List.getElem?_toArray, List.getElem?_cons_zero, List.getElem?_cons_succ, List.setIfInBounds_toArray, List.set_cons_zero, List.set_cons_succ, Option.map_some, List.not_mem_nil, ←decide_not, dne]
      exact ⟨by trivial, X3.trans F4⟩
end Go.Proofs.Ytknineilpenbnaa
