/- Looking at words that should be objects: all of them (sq). -/
import Derived.Test.YtdpmidgeipibbaaChk
set_option linter.unusedVariables false
set_option linter.unusedSimpArgs false
set_option maxHeartbeats 4000000
namespace Go.Proofs.Ytdpmidgeipibbaa
open Go.Sh Go.RowKit

section
variable {w0 w : World} {k r : Nat} {v : Value} {a : Option Addr} {c : Nat} {L : List (BitVec 64)} {base : Nat} {l : List Nat} {F : List Fnd}
theorem WkIs.extM {w' : World} {M : List Nat} (h : WkIs w0 w k r v a c L base l F) (hx : Ext M w w') (h1 : k ∉ M) (h2 : r ∉ M) (h3 : ∀ y ∈ Go.Sh.blk v, y ∉ M) (h4 : ∀ y ∈ M, w0.heap.size ≤ y) : WkIs w0 w' k r v a c L base l F :=
  ⟨h.blk.ext hx h1, h.map.ext hx h2, h.own.ext hx h3, h.kr, h.kv, h.rv, h.up, h.rowx hx h4, h.ra, h.ext.new hx h4⟩
theorem WkIs.put {w' : World} {p : Nat} (h : WkIs w0 w k r v a c L base l F) (M : MapIs w' r ((l ++ [p]).map (hdX fun p => wat L (p - base)))) (hx : Ext [r] w w') : WkIs w0 w' k r v a c L base (l ++ [p]) F :=
  ⟨h.blk.ext hx (by simpa using h.kr), M, h.own.ext hx (fun y hy hm => by simp only [List.mem_singleton] at hm; subst hm; exact h.rv hy), h.kr, h.kv, h.rv, h.up, h.rowx hx (fun y hy => by simp only [List.mem_singleton] at hy; subst hy; exact h.up.2.1), h.ra, h.ext.new hx (fun y hy => by simp only [List.mem_singleton] at hy; subst hy; exact h.up.2.1)⟩
theorem word_at (h : WkIs w0 w k r v a c L base l F) {i : Nat} (hi : i < L.length) : ∃ b o, a = some ⟨b, o, none⟩ ∧ w.cell? ⟨b, o + i, none⟩ = some (u64 (wat L i)) := by
  obtain ⟨b5, o5, h5, z5, k5⟩ := h.row.at (i := i) (by simpa using hi)
  refine ⟨b5, o5, h5, ?_⟩
  simp only [List.getElem_map] at k5
  rw [k5]
  unfold wat
  rw [List.getD_eq_getElem?_getD, List.getElem?_eq_getElem hi]
  rfl
abbrev rsChk2_0 := (And.intro @xBox_r (And.intro @loadK_some (And.intro @loadsK_s (And.intro @loadsK_n (And.intro @loadsR_s (And.intro @loadsR_n (And.intro @storesK_s (And.intro @storesK_n (And.intro @xPick_t (And.intro @xPick_f (And.intro @xGuard_tt (And.intro @xGuard_ff (And.intro @xGuard_tf (And.intro @xGuard_ft (And.intro @xGuard_u 
  (And.intro @xNil_r (And.intro @xIf_t (And.intro @xBin_add' (And.intro @xBin_sub' (And.intro @xBin_mul' (And.intro @xBin_quo' (And.intro @xBin_rem' (And.intro @xIf_f (And.intro @xIf_tt (And.intro @xEx0 (And.intro @xEx1 (And.intro @xEx2 (And.intro @xEx3 (And.intro @xBin_eqs (And.intro @xBin_nes (And.intro @xUn_not (And.intro @xu8_add (And.intro @xu8_sub 
  (And.intro @xu8_neq (And.intro @xu8_lss (And.intro @xu8_gtr (And.intro @xu16_add (And.intro @xu16_sub (And.intro @xu16_neq (And.intro @xu16_lss (And.intro @xu16_gtr (And.intro @xu32_add (And.intro @xu32_sub (And.intro @xu32_neq (And.intro @xu32_lss (And.intro @xu32_gtr (And.intro @xu64_add (And.intro @xu64_sub (And.intro @xu64_neq (And.intro @xu64_lss 
  (And.intro @xu64_gtr (And.intro @xi64_lss (And.intro @xi64_gtr (And.intro @xi64_neq (And.intro @xi64_neg (And.intro @xMakeFunc_r (And.intro @xSq_r (And.intro @xPur_s (And.intro @xRd_s (And.intro @xRe_s (And.intro @xDet_s (And.intro @xDet_ld (And.intro @xDet_ld2 (And.intro @xDet_ld3 (And.intro @xDet_ld4 (And.intro @xGuard_tt (And.intro @ld_3 (And.intro @ld_4 
  (And.intro @ld_28 (And.intro @ld_69 (And.intro @ld_94 (And.intro @ld_123 (And.intro @fa_96_0 (And.intro @fa_96_1 (And.intro @fa_96_2 (And.intro @fa_123_2 (And.intro @al_123 (And.intro @st_123 (And.intro @ia_28 (And.intro @ln_28 (And.intro @bs_66_0 @bs_66_1)))))))))))))))))))))))))))))))))))))))))))))))))))))))))))))))))))))))))))))))))
abbrev rsChk2_1 := (And.intro @setCells_c (And.intro @setCells_n (And.intro @World.setCell_alloc_at (And.intro @World.setCell_alloc_past (And.intro @World.cell?_alloc_at (And.intro @World.cell?_alloc_past (And.intro @World.frozen?_alloc_at (And.intro @World.frozen?_alloc_past 
  (And.intro @World.size_alloc (And.intro @dlt_t (And.intro @dlt_f (And.intro @dle_t (And.intro @dle_f (And.intro @deq_t (And.intro @deq_f (And.intro @dne_t (And.intro @dne_f (And.intro @not_true_eq_false (And.intro @Bool.false_and (And.intro @Bool.true_and (And.intro @Bool.and_true (And.intro @Bool.and_false (And.intro @wrap_in (And.intro @Int.toNat_natCast 
  (And.intro @Nat.mul_one (And.intro @cells_int (And.intro @cells_bool (And.intro @cells_string (And.intro @cells_slice (And.intro @cells_pointer (And.intro @cells_agg (And.intro @one_int (And.intro @one_bool (And.intro @one_string (And.intro @one_slice (And.intro @one_pointer (And.intro @beq_tt (And.intro @beq_ff (And.intro @beq_tf 
  (And.intro @beq_ft (And.intro @cell_sets_b (And.intro @frozen_sets (And.intro @size_sets (And.intro @World.size_drew (And.intro @Nat.zero_add (And.intro @Nat.add_zero (And.intro @cell_drew (And.intro @frozen_drew (And.intro @cell_set_eq (And.intro @cell_set_o (And.intro @cell_set_b (And.intro @World.frozen?_setCell 
  (And.intro @decide_true (And.intro @decide_false (And.intro @not_false_eq_true (And.intro @Bool.not_true @Bool.not_false))))))))))))))))))))))))))))))))))))))))))))))))))))))))
theorem objects_spec (h : WkIs w0 w k r v a c L base [] []) (hb : base + L.length ≤ 8192) (hc0 : L.length ≤ c) : Yld Try.prog n_check_walk_objects #[ptr k] w fun u w' =>
    ∃ v' a2 c2 l bad, u = .slice a2 l.length c2 ∧ RowAt w' a2 (nums l) ∧ (∀ z o, a2 = some ⟨z, o, none⟩ → z < w'.heap.size ∧ z ≠ k ∧ z ∉ Go.Sh.blk v') ∧ Sc (fun p => wat L (p - base)) (base + L.length) base l bad ∧ WkIs w0 w' k r v' a c L base l (badF bad) := by
  obtain ⟨l, bad, hS⟩ := Sc.ex (fun p => wat L (p - base)) (base + L.length) L.length base (by omega) (by omega)
  refine check_walk_objects_of ?_
  unfold check_walk_objects
  simp (disch := (first | omega | decide | (simp only [World.size_alloc, World.size_setCell, World.size_drew, size_sets, List.mem_cons, List.not_mem_nil, or_false, not_false_eq_true] <;> omega) | fail)) only [↓rsChk2_0, rsChk2_1, Option.isNone_some, Option.isNone_none, tick_eq, tickV_eq, ne_eq, Int.reduceAdd, Int.reduceSub, Int.reduceMul, Int.reduceEq, Int.reduceLT, Int.reduceLE, Int.reduceToNat, Nat.reduceMul, Nat.reduceAdd, Nat.reduceSub, List.nil_append, List.cons_append, List.getElem?_toArray, List.getElem?_cons_zero, List.getElem?_cons_succ, List.setIfInBounds_toArray, List.set_cons_zero, List.set_cons_succ, Option.map_some, List.not_mem_nil, ←decide_not, eq_self]
  refine xLoop_r (L.length + 1) (fun j vs w' => ∃ (out : Value) (i : Nat) (p lr : List Nat), vs = [out, i64 (i : Int)] ∧ j ≤ i ∧ i ≤ L.length ∧ l = p ++ lr ∧ Sc (fun p => wat L (p - base)) (base + L.length) (base + i) lr bad ∧ (∀ q ∈ p, q < base + i) ∧ WkIs w0 w' k r v a c L base p [] ∧ OwnI w' out p ∧ k ∉ Go.Sh.blk out ∧ r ∉ Go.Sh.blk out ∧ (∀ y ∈ Go.Sh.blk out, y ∉ Go.Sh.blk v) ∧ ∀ y ∈ Go.Sh.blk out, w0.heap.size ≤ y)
    ⟨_, 0, [], l, rfl, Nat.le_refl _, Nat.zero_le _, rfl, hS, by simp, h, Own.nil, by simp [Go.Sh.blk, Value.ownBlock], by simp [Go.Sh.blk, Value.ownBlock], by simp [Go.Sh.blk, Value.ownBlock], by simp [Go.Sh.blk, Value.ownBlock]⟩ ?_ ?_
  rotate_left
  · rintro u v1 ⟨out, i, p, lr, hu, h1, h2, _⟩ nxt
    omega
  rintro j hj u v1 ⟨out, i, p, lr, hu, h1, h2, hl, hSc, hq, W, O, d1, d2, d3, d4⟩ nxt hnx
  simp only [List.map_cons, List.map_nil, List.cons.injEq, and_true] at hu
  rw [hu.1, hu.2]
  have kb := fun i => W.blk.cell (i := i)
  have zk := W.blk.lt
  have zo := O.lt
  have hcount := hSc.count
  have hpl : p.length ≤ 8192 := by have := hS.count; rw [hl, List.length_append] at this; omega
  have fin : ∀ (w' : World) (v' : Value) (lo : List Nat) (bb : Option Nat), lr = [] → bad = bb → WkIs w0 w' k r v' a c L base p (badF bb) → OwnI w' out p → k ∉ Go.Sh.blk out → (∀ y ∈ Go.Sh.blk out, y ∉ Go.Sh.blk v') →
      ∃ v' a2 c2 l bad, out = .slice a2 l.length c2 ∧ RowAt w' a2 (nums l) ∧ (∀ z o, a2 = some ⟨z, o, none⟩ → z < w'.heap.size ∧ z ≠ k ∧ z ∉ Go.Sh.blk v') ∧ Sc (fun p => wat L (p - base)) (base + L.length) base l bad ∧ WkIs w0 w' k r v' a c L base l (badF bad) := by
    intro w' v' lo bb hlr hbb W' O' e1 e2
    subst hlr hbb
    rw [List.append_nil] at hl
    subst hl
    have zo' := O'.lt
    obtain ⟨a2, c2, rfl, _, _, hn2, hr2, _⟩ := O'.slice
    refine ⟨v', a2, c2, l, bad, rfl, hr2, fun z o hz => ?_, hS, W'⟩
    have hm : z ∈ Go.Sh.blk (.slice a2 l.length c2) := by subst hz; simp [Go.Sh.blk, Value.ownBlock]
    exact ⟨zo' z hm, fun e => e1 (e ▸ hm), e2 z hm⟩
  unfold check_walk_objects_l1
  by_cases hi : i < L.length
  rotate_left
  · have hie : i = L.length := by omega
    subst hie
    have hu2 := hSc.uniq .done
    simp (disch := (first | omega | decide | (simp only [World.size_alloc, World.size_setCell, World.size_drew, size_sets, List.mem_cons, List.not_mem_nil, or_false, not_false_eq_true] <;> omega) | fail)) only [↓rsChk2_0, rsChk2_1, Option.isNone_some, Option.isNone_none, tick_eq, tickV_eq, ne_eq, Int.reduceAdd, Int.reduceSub, Int.reduceMul, Int.reduceEq, Int.reduceLT, Int.reduceLE, Int.reduceToNat, Nat.reduceMul, Nat.reduceAdd, Nat.reduceSub, List.nil_append, List.cons_append, List.getElem?_toArray, List.getElem?_cons_zero, List.getElem?_cons_succ, List.setIfInBounds_toArray, List.set_cons_zero, List.set_cons_succ, Option.map_some, List.not_mem_nil, ←decide_not, kb]
    exact fin v1 v [] none hu2.1 hu2.2 W O d1 d3
  obtain ⟨b1, o1, rfl, kw1⟩ := word_at W hi
  have hx : (fun p => wat L (p - base)) (base + i) = wat L i := by simp
  simp (disch := (first | omega | decide | (simp only [World.size_alloc, World.size_setCell, World.size_drew, size_sets, List.mem_cons, List.not_mem_nil, or_false, not_false_eq_true] <;> omega) | fail)) only [↓rsChk2_0, rsChk2_1, Option.isNone_some, Option.isNone_none, tick_eq, tickV_eq, ne_eq, Int.reduceAdd, Int.reduceSub, Int.reduceMul, Int.reduceEq, Int.reduceLT, Int.reduceLE, Int.reduceToNat, Nat.reduceMul, Nat.reduceAdd, Nat.reduceSub, List.nil_append, List.cons_append, List.getElem?_toArray, List.getElem?_cons_zero, List.getElem?_cons_succ, List.setIfInBounds_toArray, List.set_cons_zero, List.set_cons_succ, Option.map_some, List.not_mem_nil, ←decide_not, kb, kw1]
  have hun := Unpack_spec (wat L i) v1
  by_cases hok : okW (wat L i)
  · obtain ⟨v1', v2', v3', v4', v5', v6', v7', v8'⟩ := okW_v hok
    rw [v1', v2', v3', v4', v5'] at hun
    refine head_Unpack_call (Gives.to hun fun w2 F2 => ?_)
    have W2 := W.ext0 F2
    simp (disch := (first | omega | decide | (simp only [World.size_alloc, World.size_setCell, World.size_drew, size_sets, List.mem_cons, List.not_mem_nil, or_false, not_false_eq_true] <;> omega) | fail)) only [↓rsChk2_0, rsChk2_1, Option.isNone_some, Option.isNone_none, tick_eq, tickV_eq, ne_eq, Int.reduceAdd, Int.reduceSub, Int.reduceMul, Int.reduceEq, Int.reduceLT, Int.reduceLE, Int.reduceToNat, Nat.reduceMul, Nat.reduceAdd, Nat.reduceSub, List.nil_append, List.cons_append, List.getElem?_toArray, List.getElem?_cons_zero, List.getElem?_cons_succ, List.setIfInBounds_toArray, List.set_cons_zero, List.set_cons_succ, Option.map_some, List.not_mem_nil, ←decide_not, kb, kw1]
    have B : Blk (w2.alloc (.cells #[i64 (pN (wat L i)), i64 (bN (wat L i)), .bool false, i64 0] 123)) w2.heap.size 123 [i64 (pN (wat L i)), i64 (bN (wat L i)), .bool false, i64 0] := Blk.at rfl
    have X2 : Ext [] w2 (w2.alloc (.cells #[i64 (pN (wat L i)), i64 (bN (wat L i)), .bool false, i64 0] 123)) := Ext.alloc _ _ _
    have k2 := fun i => ((W2.ext0 X2).ext0 (Ext.drew [] _)).blk.cell (i := i)
    have k2' := fun i => W2.blk.cell (i := i)
    have zk2 := W2.blk.lt
    simp (disch := (first | omega | decide | (simp only [World.size_alloc, World.size_setCell, World.size_drew, size_sets, List.mem_cons, List.not_mem_nil, or_false, not_false_eq_true] <;> omega) | fail)) only [↓rsChk2_0, rsChk2_1, Option.isNone_some, Option.isNone_none, tick_eq, tickV_eq, ne_eq, Int.reduceAdd, Int.reduceSub, Int.reduceMul, Int.reduceEq, Int.reduceLT, Int.reduceLE, Int.reduceToNat, Nat.reduceMul, Nat.reduceAdd, Nat.reduceSub, List.nil_append, List.cons_append, List.getElem?_toArray, List.getElem?_cons_zero, List.getElem?_cons_succ, List.setIfInBounds_toArray, List.set_cons_zero, List.set_cons_succ, Option.map_some, List.not_mem_nil, ←decide_not, kb, kw1, k2']
    have hsz : ∀ w, Gives Try.prog n_head_Size #[hd (pN (wat L i)) (bN (wat L i)) false 0] w (i64 (szW (wat L i) : Int)) := fun w => by
      have := SizeW_spec hok w
      rw [v1', v2', v4'] at this
      exact this
    refine head_Size_call (Gives.to (hsz _) fun w3 F3d => ?_)
    have F3 := (Ext.drew [] _).trans F3d
    have W3 := (W2.ext0 X2).ext0 F3
    have k3 := fun i => W3.blk.cell (i := i)
    have B3 := B.ext F3 (by simp)
    have O3 := (O.ext0 F2).ext0 (X2.trans F3)
    have zh : v1.heap.size ≤ w2.heap.size := F2.size
    generalize w2.heap.size = hh at *
    by_cases hs : i + szW (wat L i) ≤ L.length
    · obtain ⟨lr', hlr', h5⟩ := hSc.step_inv (by omega) (by simpa only [Nat.add_sub_cancel_left] using hok) (by simp only [Nat.add_sub_cancel_left]; omega)
      simp only [Nat.add_sub_cancel_left] at h5
      have k3d := fun i => (W3.ext0 (Ext.drew [] w3)).blk.cell (i := i)
      have B3d := B3.ext (Ext.drew [] w3) (by simp)
      have kb3 := fun i => B3d.cell (i := i)
      have W3d := W3.ext0 (Ext.drew [] w3)
      have e1 : (base : Int) + (i : Int) = ((base + i : Nat) : Int) := by omega
      simp (disch := (first | omega | decide | (simp only [World.size_alloc, World.size_setCell, World.size_drew, size_sets, List.mem_cons, List.not_mem_nil, or_false, not_false_eq_true] <;> omega) | fail)) only [↓rsChk2_0, rsChk2_1, Option.isNone_some, Option.isNone_none, tick_eq, tickV_eq, ne_eq, Int.reduceAdd, Int.reduceSub, Int.reduceMul, Int.reduceEq, Int.reduceLT, Int.reduceLE, Int.reduceToNat, Nat.reduceMul, Nat.reduceAdd, Nat.reduceSub, List.nil_append, List.cons_append, List.getElem?_toArray, List.getElem?_cons_zero, List.getElem?_cons_succ, List.setIfInBounds_toArray, List.set_cons_zero, List.set_cons_succ, Option.map_some, List.not_mem_nil, ←decide_not, kb, kw1, k2', k3, k3d, kb3, e1]
      refine xMapUpdate_new (kt := 3) (et := 123) (by kernel_rfl) (by kernel_rfl) W3d.map (fun q hq2 => by
        obtain ⟨p', hp', rfl⟩ := List.mem_map.1 hq2
        have := hq p' hp'
        simp only
        omega) fun w4 M4 F4 => ?_
      have W4 := W3d.put (p := base + i) (by
        have hk : hdX (fun p => wat L (p - base)) (base + i) = (((base + i : Nat) : Int), hd (pN (wat L i)) (bN (wat L i)) false 0) := by simp only [hdX, Nat.add_sub_cancel_left]
        rw [List.map_append, List.map_singleton, hk]
        exact M4) F4
      have B4 := B3d.ext F4 (by have := W3d.map.lt; have := W.map.lt; simp only [List.mem_singleton]; omega)
      have O4 := (O3.ext0 (Ext.drew [] w3)).ext F4 (fun y hy hm => by simp only [List.mem_singleton] at hm; subst hm; exact d2 hy)
      have k4 := fun i => W4.blk.cell (i := i)
      have kb4 := fun i => B4.cell (i := i)
      have zo4 := O4.lt
      simp (disch := (first | omega | decide | (simp only [World.size_alloc, World.size_setCell, World.size_drew, size_sets, List.mem_cons, List.not_mem_nil, or_false, not_false_eq_true] <;> omega) | fail)) only [↓rsChk2_0, rsChk2_1, Option.isNone_some, Option.isNone_none, tick_eq, tickV_eq, ne_eq, Int.reduceAdd, Int.reduceSub, Int.reduceMul, Int.reduceEq, Int.reduceLT, Int.reduceLE, Int.reduceToNat, Nat.reduceMul, Nat.reduceAdd, Nat.reduceSub, List.nil_append, List.cons_append, List.getElem?_toArray, List.getElem?_cons_zero, List.getElem?_cons_succ, List.setIfInBounds_toArray, List.set_cons_zero, List.set_cons_succ, Option.map_some, List.not_mem_nil, ←decide_not, kb, kw1, k2', k3, k3d, kb3, e1, k4]
      refine appIl O4 rfl (by omega) fun out' w5 O5 F5 => ?_
      have hho : hh ∉ Go.Sh.blk out := fun hm => by have := zo _ hm; omega
      have B5 := B4.ext F5.ext hho
      have kb5 := fun i => B5.cell (i := i)
      have z5 := F5.ext.size
      have W5 := W4.extM F5.ext d1 d2 (fun y hy hm => d3 y hm hy) d4
      simp (disch := (first | omega | decide | (simp only [World.size_alloc, World.size_setCell, World.size_drew, size_sets, List.mem_cons, List.not_mem_nil, or_false, not_false_eq_true] <;> omega) | fail)) only [↓rsChk2_0, rsChk2_1, Option.isNone_some, Option.isNone_none, tick_eq, tickV_eq, ne_eq, Int.reduceAdd, Int.reduceSub, Int.reduceMul, Int.reduceEq, Int.reduceLT, Int.reduceLE, Int.reduceToNat, Nat.reduceMul, Nat.reduceAdd, Nat.reduceSub, List.nil_append, List.cons_append, List.getElem?_toArray, List.getElem?_cons_zero, List.getElem?_cons_succ, List.setIfInBounds_toArray, List.set_cons_zero, List.set_cons_succ, Option.map_some, List.not_mem_nil, ←decide_not, kb, kw1, k2', k3, k3d, kb3, e1, k4, kb5]
      refine head_Size_call (Gives.to (hsz _) fun w6 F6 => ?_)
      simp (disch := (first | omega | decide | (simp only [World.size_alloc, World.size_setCell, World.size_drew, size_sets, List.mem_cons, List.not_mem_nil, or_false, not_false_eq_true] <;> omega) | fail)) only [↓rsChk2_0, rsChk2_1, Option.isNone_some, Option.isNone_none, tick_eq, tickV_eq, ne_eq, Int.reduceAdd, Int.reduceSub, Int.reduceMul, Int.reduceEq, Int.reduceLT, Int.reduceLE, Int.reduceToNat, Nat.reduceMul, Nat.reduceAdd, Nat.reduceSub, List.nil_append, List.cons_append, List.getElem?_toArray, List.getElem?_cons_zero, List.getElem?_cons_succ, List.setIfInBounds_toArray, List.set_cons_zero, List.set_cons_succ, Option.map_some, List.not_mem_nil, ←decide_not, kb, kw1, k2', k3, k3d, kb3, e1, k4, kb5]
      have e3 : (i : Int) + (szW (wat L i) : Int) = ((i + szW (wat L i) : Nat) : Int) := by omega
      rw [e3]
      have hpos := szW_pos (x := wat L i)
      have zk4 := W4.blk.lt
      have zr4 := W4.map.lt
      refine hnx _ _ ⟨out', i + szW (wat L i), p ++ [base + i], lr', rfl, by omega, hs, by rw [hl, hlr']; simp, by rw [← Nat.add_assoc]; exact h5, fun q hq2 => ?_, W5.ext0 F6, O5.ext0 F6, fun hm => ?_, fun hm => ?_, fun y hy hm => ?_, fun y hy => ?_⟩
      · rcases List.mem_append.1 hq2 with h6 | h6
        · have := hq q h6; omega
        · simp only [List.mem_singleton] at h6; omega
      · rcases F5.at' k hm with h6 | h6
        · exact d1 h6
        · omega
      · rcases F5.at' r hm with h6 | h6
        · exact d2 h6
        · omega
      · rcases F5.at' y hy with h6 | h6
        · exact d3 y h6 hm
        · have := W4.own.lt y hm; omega
      · rcases F5.at' y hy with h6 | h6
        · exact d4 y h6
        · have := W4.ext.size; omega
    · have hu2 := hSc.uniq (.bad (by omega) (fun h6 => hs (by have := h6.2; simp only [Nat.add_sub_cancel_left] at this; omega)))
      have e1 : (base : Int) + (i : Int) = ((base + i : Nat) : Int) := by omega
      have cH : ({ data := #[104, 101, 97, 100] } : ByteArray) = strOf sHead := by decide +kernel
      simp (disch := (first | omega | decide | (simp only [World.size_alloc, World.size_setCell, World.size_drew, size_sets, List.mem_cons, List.not_mem_nil, or_false, not_false_eq_true] <;> omega) | fail)) only [↓rsChk2_0, rsChk2_1, Option.isNone_some, Option.isNone_none, tick_eq, tickV_eq, ne_eq, Int.reduceAdd, Int.reduceSub, Int.reduceMul, Int.reduceEq, Int.reduceLT, Int.reduceLE, Int.reduceToNat, Nat.reduceMul, Nat.reduceAdd, Nat.reduceSub, List.nil_append, List.cons_append, List.getElem?_toArray, List.getElem?_cons_zero, List.getElem?_cons_succ, List.setIfInBounds_toArray, List.set_cons_zero, List.set_cons_succ, Option.map_some, List.not_mem_nil, ←decide_not, kb, kw1, k2', k3, e1]
      rw [cH]
      refine check_walk_add_call (Yld.mono (add_spec (at' := base + i) (s := sHead) W3 (by simp)) ?_)
      rintro u w4 ⟨v', W4, F4⟩
      simp (disch := (first | omega | decide | (simp only [World.size_alloc, World.size_setCell, World.size_drew, size_sets, List.mem_cons, List.not_mem_nil, or_false, not_false_eq_true] <;> omega) | fail)) only [↓rsChk2_0, rsChk2_1, Option.isNone_some, Option.isNone_none, tick_eq, tickV_eq, ne_eq, Int.reduceAdd, Int.reduceSub, Int.reduceMul, Int.reduceEq, Int.reduceLT, Int.reduceLE, Int.reduceToNat, Nat.reduceMul, Nat.reduceAdd, Nat.reduceSub, List.nil_append, List.cons_append, List.getElem?_toArray, List.getElem?_cons_zero, List.getElem?_cons_succ, List.setIfInBounds_toArray, List.set_cons_zero, List.set_cons_succ, Option.map_some, List.not_mem_nil, ←decide_not, kb, kw1, k2', k3, e1]
      exact fin w4 v' [] (some (base + i)) hu2.1 hu2.2 W4 (O3.ext F4.ext (fun y hy hm => by
        rcases List.mem_cons.1 hm with rfl | hm
        · exact d1 hy
        · exact d3 y hy hm)) d1 (fun y hy hm => by
        rcases F4.at' y (List.mem_cons_of_mem _ hm) with h6 | h6
        · rcases List.mem_cons.1 h6 with rfl | h6
          · exact d1 hy
          · exact d3 y hy h6
        · have := O3.lt y hy; omega)
  · have hu2 := hSc.uniq (.bad (by omega) (fun h6 => hok (by have := h6.1; simpa only [Nat.add_sub_cancel_left] using this)))
    have e1 : (base : Int) + (i : Int) = ((base + i : Nat) : Int) := by omega
    have cH : ({ data := #[104, 101, 97, 100] } : ByteArray) = strOf sHead := by decide +kernel
    have tl : ∀ w3 : World, Ext [] v1 w3 → xCall Try.prog (fnv n_check_walk_add) [ptr k, i64 ((base + i : Nat) : Int), .string (strOf sHead)] w3 fun u w' => ∃ v' a2 c2 l bad, out = .slice a2 l.length c2 ∧ RowAt w' a2 (nums l) ∧ (∀ z o, a2 = some ⟨z, o, none⟩ → z < w'.heap.size ∧ z ≠ k ∧ z ∉ Go.Sh.blk v') ∧ Sc (fun p => wat L (p - base)) (base + L.length) base l bad ∧ WkIs w0 w' k r v' (some ⟨b1, o1, none⟩) c L base l (badF bad) := by
      intro w3 F3
      have W3 := W.ext0 F3
      have O3 := O.ext0 F3
      refine check_walk_add_call (Yld.mono (add_spec (at' := base + i) (s := sHead) W3 (by simp)) ?_)
      rintro u w4 ⟨v', W4, F4⟩
      exact fin w4 v' [] (some (base + i)) hu2.1 hu2.2 W4 (O3.ext F4.ext (fun y hy hm => by
        rcases List.mem_cons.1 hm with rfl | hm
        · exact d1 hy
        · exact d3 y hy hm)) d1 (fun y hy hm => by
        rcases F4.at' y (List.mem_cons_of_mem _ hm) with h6 | h6
        · rcases List.mem_cons.1 h6 with rfl | h6
          · exact d1 hy
          · exact d3 y hy h6
        · have := O3.lt y hy; omega)
    by_cases he : unErr (wat L i) = 0
    · rw [he, okW_not hok he] at hun
      refine head_Unpack_call (Gives.to hun fun w2 F2 => ?_)
      simp (disch := (first | omega | decide | (simp only [World.size_alloc, World.size_setCell, World.size_drew, size_sets, List.mem_cons, List.not_mem_nil, or_false, not_false_eq_true] <;> omega) | fail)) only [↓rsChk2_0, rsChk2_1, Option.isNone_some, Option.isNone_none, tick_eq, tickV_eq, ne_eq, Int.reduceAdd, Int.reduceSub, Int.reduceMul, Int.reduceEq, Int.reduceLT, Int.reduceLE, Int.reduceToNat, Nat.reduceMul, Nat.reduceAdd, Nat.reduceSub, List.nil_append, List.cons_append, List.getElem?_toArray, List.getElem?_cons_zero, List.getElem?_cons_succ, List.setIfInBounds_toArray, List.set_cons_zero, List.set_cons_succ, Option.map_some, List.not_mem_nil, ←decide_not, kb, kw1]
      have Y : Ext [] v1 (w2.alloc (.cells #[i64 (vP (wat L i)), i64 (vB (wat L i)), .bool true, i64 (vT (wat L i))] 123)).drew := F2.trans ((Ext.alloc _ _ _).trans (Ext.drew _ _))
      have k2 := fun i => (W.ext0 F2).blk.cell (i := i)
      have zk2 := (W.ext0 F2).blk.lt
      simp (disch := (first | omega | decide | (simp only [World.size_alloc, World.size_setCell, World.size_drew, size_sets, List.mem_cons, List.not_mem_nil, or_false, not_false_eq_true] <;> omega) | fail)) only [↓rsChk2_0, rsChk2_1, Option.isNone_some, Option.isNone_none, tick_eq, tickV_eq, ne_eq, Int.reduceAdd, Int.reduceSub, Int.reduceMul, Int.reduceEq, Int.reduceLT, Int.reduceLE, Int.reduceToNat, Nat.reduceMul, Nat.reduceAdd, Nat.reduceSub, List.nil_append, List.cons_append, List.getElem?_toArray, List.getElem?_cons_zero, List.getElem?_cons_succ, List.setIfInBounds_toArray, List.set_cons_zero, List.set_cons_succ, Option.map_some, List.not_mem_nil, ←decide_not, kb, kw1, k2, e1]
      rw [cH]
      exact tl _ Y
    · refine head_Unpack_call (Gives.to hun fun w2 F2 => ?_)
      simp (disch := (first | omega | decide | (simp only [World.size_alloc, World.size_setCell, World.size_drew, size_sets, List.mem_cons, List.not_mem_nil, or_false, not_false_eq_true] <;> omega) | fail)) only [↓rsChk2_0, rsChk2_1, Option.isNone_some, Option.isNone_none, tick_eq, tickV_eq, ne_eq, Int.reduceAdd, Int.reduceSub, Int.reduceMul, Int.reduceEq, Int.reduceLT, Int.reduceLE, Int.reduceToNat, Nat.reduceMul, Nat.reduceAdd, Nat.reduceSub, List.nil_append, List.cons_append, List.getElem?_toArray, List.getElem?_cons_zero, List.getElem?_cons_succ, List.setIfInBounds_toArray, List.set_cons_zero, List.set_cons_succ, Option.map_some, List.not_mem_nil, ←decide_not, kb, kw1]
      have Y : Ext [] v1 (w2.alloc (.cells #[i64 (vP (wat L i)), i64 (vB (wat L i)), .bool (vM (wat L i)), i64 (vT (wat L i))] 123)).drew := F2.trans ((Ext.alloc _ _ _).trans (Ext.drew _ _))
      have k2 := fun i => (W.ext0 F2).blk.cell (i := i)
      have zk2 := (W.ext0 F2).blk.lt
      simp (disch := (first | omega | decide | (simp only [World.size_alloc, World.size_setCell, World.size_drew, size_sets, List.mem_cons, List.not_mem_nil, or_false, not_false_eq_true] <;> omega) | fail)) only [↓rsChk2_0, rsChk2_1, Option.isNone_some, Option.isNone_none, tick_eq, tickV_eq, ne_eq, Int.reduceAdd, Int.reduceSub, Int.reduceMul, Int.reduceEq, Int.reduceLT, Int.reduceLE, Int.reduceToNat, Nat.reduceMul, Nat.reduceAdd, Nat.reduceSub, List.nil_append, List.cons_append, List.getElem?_toArray, List.getElem?_cons_zero, List.getElem?_cons_succ, List.setIfInBounds_toArray, List.set_cons_zero, List.set_cons_succ, Option.map_some, List.not_mem_nil, ←decide_not, kb, kw1, k2, e1]
      rw [cH]
      exact tl _ Y
end
end Go.Proofs.Ytdpmidgeipibbaa
