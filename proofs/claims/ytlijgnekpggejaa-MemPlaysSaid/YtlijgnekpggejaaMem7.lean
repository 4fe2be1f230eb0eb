/- Any calls on words: one call, walked (sq). -/
import Derived.Test.YtlijgnekpggejaaMem6
set_option linter.unusedVariables false
set_option linter.unusedSimpArgs false
set_option maxHeartbeats 4000000
namespace Go.Proofs.Ytlijgnekpggejaa
open Go.Sh Go.RowKit Go.ChangeShapes Go.WideShapes Go.ChangeAt

abbrev rsMem7_0 := (And.intro @xBox_r (And.intro @loadK_some (And.intro @loadsK_s (And.intro @loadsK_n (And.intro @loadsR_s (And.intro @loadsR_n (And.intro @storesK_s (And.intro @storesK_n (And.intro @xPick_t (And.intro @xPick_f (And.intro @xGuard_tt (And.intro @xGuard_ff (And.intro @xGuard_tf (And.intro @xGuard_ft (And.intro @xGuard_u 
  (And.intro @xNil_r (And.intro @xIf_t (And.intro @xBin_add' (And.intro @xBin_sub' (And.intro @xBin_mul' (And.intro @xBin_quo' (And.intro @xBin_rem' (And.intro @xIf_f (And.intro @xIf_tt (And.intro @xEx0 (And.intro @xEx1 (And.intro @xEx2 (And.intro @xEx3 (And.intro @xBin_eqs (And.intro @xBin_nes (And.intro @xUn_not (And.intro @xu8_add (And.intro @xu8_mul 
  (And.intro @xu8_eql (And.intro @xu8_neq (And.intro @xu8_lss (And.intro @xu8_gtr (And.intro @xu8_geq (And.intro @xu16_add (And.intro @xu16_mul (And.intro @xu16_eql (And.intro @xu16_neq (And.intro @xu16_lss (And.intro @xu16_gtr (And.intro @xu16_geq (And.intro @xu32_add (And.intro @xu32_mul (And.intro @xu32_eql (And.intro @xu32_neq (And.intro @xu32_lss 
  (And.intro @xu32_gtr (And.intro @xu32_geq (And.intro @xu64_add (And.intro @xu64_mul (And.intro @xu64_eql (And.intro @xu64_neq (And.intro @xu64_lss (And.intro @xu64_gtr (And.intro @xu64_geq (And.intro @xi64_lss (And.intro @xi64_gtr (And.intro @xi64_geq (And.intro @xi64_eql (And.intro @xi64_neq (And.intro @xi64_neg (And.intro @xMakeFunc_r 
  (And.intro @xSq_r (And.intro @xPur_s (And.intro @xRd_s (And.intro @xRe_s (And.intro @xDet_s (And.intro @xDet_ld (And.intro @xDet_ld2 (And.intro @xDet_ld3 (And.intro @xDet_ld4 (And.intro @xGuard_tt (And.intro @ld_3 (And.intro @ld_22 (And.intro @ld_23 (And.intro @ld_67 (And.intro @fa_67_0 (And.intro @fa_67_1 (And.intro @fa_67_2 (And.intro @fa_67_3 (And.intro @fa_67_4 
  (And.intro @fa_67_5 (And.intro @al_67 (And.intro @st_23 (And.intro @st_67 (And.intro @ia_58 (And.intro @ia_65 (And.intro @ln_22 (And.intro @ln_58 (And.intro @ln_65 (And.intro @bs_58_0 (And.intro @nq_48 @nn_48))))))))))))))))))))))))))))))))))))))))))))))))))))))))))))))))))))))))))))))))))))))))))))))))
abbrev rsMem7_1 := (And.intro @setCells_c (And.intro @setCells_n (And.intro @World.setCell_alloc_at (And.intro @World.setCell_alloc_past (And.intro @World.cell?_alloc_at (And.intro @World.cell?_alloc_past (And.intro @World.frozen?_alloc_at (And.intro @World.frozen?_alloc_past 
  (And.intro @World.size_alloc (And.intro @dlt_t (And.intro @dlt_f (And.intro @dle_t (And.intro @dle_f (And.intro @deq_t (And.intro @deq_f (And.intro @dne_t (And.intro @dne_f (And.intro @not_true_eq_false (And.intro @Bool.false_and (And.intro @Bool.true_and (And.intro @Bool.and_true (And.intro @Bool.and_false (And.intro @wrap_in (And.intro @Int.toNat_natCast 
  (And.intro @Nat.mul_one (And.intro @cells_int (And.intro @cells_bool (And.intro @cells_string (And.intro @cells_slice (And.intro @cells_pointer (And.intro @cells_agg (And.intro @one_int (And.intro @one_bool (And.intro @one_string (And.intro @one_slice (And.intro @one_pointer (And.intro @beq_tt (And.intro @beq_ff (And.intro @beq_tf 
  (And.intro @beq_ft (And.intro @cell_sets_b (And.intro @frozen_sets (And.intro @size_sets (And.intro @World.size_drew (And.intro @Nat.zero_add (And.intro @Nat.add_zero (And.intro @cell_drew (And.intro @frozen_drew (And.intro @cell_set_eq (And.intro @cell_set_o (And.intro @cell_set_b (And.intro @World.frozen?_setCell 
  (And.intro @decide_true (And.intro @decide_false (And.intro @not_false_eq_true (And.intro @Bool.not_true @Bool.not_false))))))))))))))))))))))))))))))))))))))))))))))))))))))))
theorem play_step {w0 w : World} {n j nA : Nat} {p v : Value} {K : K1} {nxt : List Value → World → Prop} {l : List Act} {a : Option Addr} {c : Nat} (hA : ActsArg w0 l a nA c) (hj : j < l.length) (hl : l.length ≤ 60) (hn1 : n ≤ 100) (S : MSt w0 n p v w)
    (hK : ∀ w', Ext [] w0 w' → K (.bool true) w') (hnx : ∀ p' v' w', MSt w0 n p' v' w' → nxt [p', v', i64 ((j + 1 : Nat) : Int)] w') : loamlaw13_MemPlays_l1 K nxt (.slice a nA c) p v (i64 (j : Int)) w := by
  have hnA := hA.len
  subst hnA
  have hS := S
  obtain ⟨base, g, am, cm, ws, rfl, hn, M, O, X, hb, hv, hd, hg⟩ := S
  have hx := (hA.each _ (List.getElem_mem hj)).row
  obtain ⟨bh, oh, he, zh, hc⟩ := row_elem (F := 6) (by decide) (hA.row.ext0 X) (fun x _ => rfl) hj
  have k0 : w.cell? ⟨bh, oh + j * 6, none⟩ = some (i64 l[j].1.op) := hc 0 _ rfl
  have k1 := hc 1 _ rfl
  have k2 := hc 2 _ rfl
  have k3 := hc 3 _ rfl
  have k4 := hc 4 _ rfl
  have k5 := hc 5 _ rfl
  generalize l[j] = x at *
  obtain ⟨⟨op, to, src, cnt, wd, b⟩, ab, cb⟩ := x
  simp only at *
  unfold loamlaw13_MemPlays_l1
  simp (disch := (first | omega | decide | (simp only [World.size_alloc, World.size_setCell, World.size_drew, size_sets, List.mem_cons, List.not_mem_nil, or_false, not_false_eq_true] <;> omega) | fail)) only [↓rsMem7_0, rsMem7_1, Option.isNone_some, Option.isNone_none, tick_eq, tickV_eq, ne_eq, Int.reduceAdd, Int.reduceSub, Int.reduceMul, Int.reduceEq, Int.reduceLT, Int.reduceLE, Int.reduceToNat, Nat.reduceMul, Nat.reduceAdd, Nat.reduceSub, List.nil_append, List.cons_append, List.getElem?_toArray, List.getElem?_cons_zero, List.getElem?_cons_succ, List.setIfInBounds_toArray, List.set_cons_zero, List.set_cons_succ, Option.map_some, List.not_mem_nil, ←decide_not, he, k0, k1, k2, k3, k4, k5]
  have B : Blk (w.alloc (.cells #[i64 op, i64 to, i64 src, i64 cnt, u64 wd, .slice ab b.length cb] 67)) w.heap.size 67 [i64 op, i64 to, i64 src, i64 cnt, u64 wd, .slice ab b.length cb] := Blk.at rfl
  have X1 : Ext [] w (w.alloc (.cells #[i64 op, i64 to, i64 src, i64 cnt, u64 wd, .slice ab b.length cb] 67)) := Ext.alloc _ _ _
  have zg := M.lt
  have zv := O.lt
  have za := mem_blt M
  have ua := M.up
  have hM := M.len
  by_cases hb3 : 300 < b.length
  · simp (disch := (first | omega | decide | (simp only [World.size_alloc, World.size_setCell, World.size_drew, size_sets, List.mem_cons, List.not_mem_nil, or_false, not_false_eq_true] <;> omega) | fail)) only [↓rsMem7_0, rsMem7_1, Option.isNone_some, Option.isNone_none, tick_eq, tickV_eq, ne_eq, Int.reduceAdd, Int.reduceSub, Int.reduceMul, Int.reduceEq, Int.reduceLT, Int.reduceLE, Int.reduceToNat, Nat.reduceMul, Nat.reduceAdd, Nat.reduceSub, List.nil_append, List.cons_append, List.getElem?_toArray, List.getElem?_cons_zero, List.getElem?_cons_succ, List.setIfInBounds_toArray, List.set_cons_zero, List.set_cons_succ, Option.map_some, List.not_mem_nil, ←decide_not, he, k0, k1, k2, k3, k4, k5]
    exact hK _ (X.trans X1)
  generalize w.alloc (.cells #[i64 op, i64 to, i64 src, i64 cnt, u64 wd, .slice ab b.length cb] 67) = y at *
  have My := M.ext0 X1
  have Oy := O.ext0 X1
  have Xy := X.trans X1
  have zy := X1.size
  have ky := fun i => B.cell (i := i)
  have hz0 := X.size
  by_cases o1 : op = 1
  · subst o1
    simp (disch := (first | omega | decide | (simp only [World.size_alloc, World.size_setCell, World.size_drew, size_sets, List.mem_cons, List.not_mem_nil, or_false, not_false_eq_true] <;> omega) | fail)) only [↓rsMem7_0, rsMem7_1, Option.isNone_some, Option.isNone_none, tick_eq, tickV_eq, ne_eq, Int.reduceAdd, Int.reduceSub, Int.reduceMul, Int.reduceEq, Int.reduceLT, Int.reduceLE, Int.reduceToNat, Nat.reduceMul, Nat.reduceAdd, Nat.reduceSub, List.nil_append, List.cons_append, List.getElem?_toArray, List.getElem?_cons_zero, List.getElem?_cons_succ, List.setIfInBounds_toArray, List.set_cons_zero, List.set_cons_succ, Option.map_some, List.not_mem_nil, ←decide_not, he, k0, k1, k2, k3, k4, k5, ky]
    by_cases hi : 0 ≤ to ∧ to < ws.length
    · obtain ⟨k, rfl⟩ := Int.eq_ofNat_of_zero_le hi.1
      have hk : k < ws.length := by omega
      have hw : ws ≠ [] := fun e => by subst e; simp at hk
      refine mem_Mem_Set_call (Yld.mono (Set_ok k wd My hk) ?_)
      rintro u w2 ⟨rfl, F2, M2⟩
      have B2 := B.ext F2 (fun hm => by have := za hw _ hm; omega)
      have O2 := Oy.ext F2 (fun x hx hm => hd hw x hx hm)
      have X2 := Xy.new F2 (fun x hx => Nat.le_trans hb (ua x hx))
      have k2' := fun i => B2.cell (i := i)
      obtain ⟨gv, cv, rfl, c1, f1, O3, X3, z3⟩ := OwnU.at O2 hk wd
      simp (disch := (first | omega | decide | (simp only [World.size_alloc, World.size_setCell, World.size_drew, size_sets, List.mem_cons, List.not_mem_nil, or_false, not_false_eq_true] <;> omega) | fail)) only [↓rsMem7_0, rsMem7_1, Option.isNone_some, Option.isNone_none, tick_eq, tickV_eq, ne_eq, Int.reduceAdd, Int.reduceSub, Int.reduceMul, Int.reduceEq, Int.reduceLT, Int.reduceLE, Int.reduceToNat, Nat.reduceMul, Nat.reduceAdd, Nat.reduceSub, List.nil_append, List.cons_append, List.getElem?_toArray, List.getElem?_cons_zero, List.getElem?_cons_succ, List.setIfInBounds_toArray, List.set_cons_zero, List.set_cons_succ, Option.map_some, List.not_mem_nil, ←decide_not, he, k0, k1, k2, k3, k4, k5, ky, k2', c1, f1]
      refine playTail (.inl ⟨rfl, rfl⟩) ⟨base, g, am, cm, ws.set k wd, rfl, by simpa using hn, M2.ext X3 hg (fun _ x hx hm => hd hw x hm hx), O3, X2.new X3 hv, hb, hv, fun _ => hd hw, hg⟩ (by omega) (fun w' h => hnx _ _ w' h)
    · refine mem_Mem_Set_call (Gives.to (Set_out to wd My (by omega)) fun w2 F2 => ?_)
      have B2 := B.ext F2 (by simp)
      have k2' := fun i => B2.cell (i := i)
      obtain ⟨r, cr, rfl, _⟩ := O.slice
      by_cases h0 : 0 ≤ to
      · simp (disch := (first | omega | decide | (simp only [World.size_alloc, World.size_setCell, World.size_drew, size_sets, List.mem_cons, List.not_mem_nil, or_false, not_false_eq_true] <;> omega) | fail)) only [↓rsMem7_0, rsMem7_1, Option.isNone_some, Option.isNone_none, tick_eq, tickV_eq, ne_eq, Int.reduceAdd, Int.reduceSub, Int.reduceMul, Int.reduceEq, Int.reduceLT, Int.reduceLE, Int.reduceToNat, Nat.reduceMul, Nat.reduceAdd, Nat.reduceSub, List.nil_append, List.cons_append, List.getElem?_toArray, List.getElem?_cons_zero, List.getElem?_cons_succ, List.setIfInBounds_toArray, List.set_cons_zero, List.set_cons_succ, Option.map_some, List.not_mem_nil, ←decide_not, he, k0, k1, k2, k3, k4, k5, ky, k2']
        exact playTail (.inr ⟨rfl, rfl⟩) (hS.ext0 (X1.trans F2)) (by omega) (fun w' h => hnx _ _ w' h)
      · simp (disch := (first | omega | decide | (simp only [World.size_alloc, World.size_setCell, World.size_drew, size_sets, List.mem_cons, List.not_mem_nil, or_false, not_false_eq_true] <;> omega) | fail)) only [↓rsMem7_0, rsMem7_1, Option.isNone_some, Option.isNone_none, tick_eq, tickV_eq, ne_eq, Int.reduceAdd, Int.reduceSub, Int.reduceMul, Int.reduceEq, Int.reduceLT, Int.reduceLE, Int.reduceToNat, Nat.reduceMul, Nat.reduceAdd, Nat.reduceSub, List.nil_append, List.cons_append, List.getElem?_toArray, List.getElem?_cons_zero, List.getElem?_cons_succ, List.setIfInBounds_toArray, List.set_cons_zero, List.set_cons_succ, Option.map_some, List.not_mem_nil, ←decide_not, he, k0, k1, k2, k3, k4, k5, ky, k2']
        exact playTail (.inr ⟨rfl, rfl⟩) (hS.ext0 (X1.trans F2)) (by omega) (fun w' h => hnx _ _ w' h)
  by_cases o2 : op = 2
  · subst o2
    simp (disch := (first | omega | decide | (simp only [World.size_alloc, World.size_setCell, World.size_drew, size_sets, List.mem_cons, List.not_mem_nil, or_false, not_false_eq_true] <;> omega) | fail)) only [↓rsMem7_0, rsMem7_1, Option.isNone_some, Option.isNone_none, tick_eq, tickV_eq, ne_eq, Int.reduceAdd, Int.reduceSub, Int.reduceMul, Int.reduceEq, Int.reduceLT, Int.reduceLE, Int.reduceToNat, Nat.reduceMul, Nat.reduceAdd, Nat.reduceSub, List.nil_append, List.cons_append, List.getElem?_toArray, List.getElem?_cons_zero, List.getElem?_cons_succ, List.setIfInBounds_toArray, List.set_cons_zero, List.set_cons_succ, Option.map_some, List.not_mem_nil, ←decide_not, he, k0, k1, k2, k3, k4, k5, ky]
    obtain ⟨r, cr, rfl, hcr, _, hnr, hrr, _⟩ := O.slice
    by_cases hi : among to b.length (8 * ws.length)
    · have hi' := hi
      unfold among at hi'
      obtain ⟨k, rfl⟩ := Int.eq_ofNat_of_zero_le hi'.1
      have hk : k + b.length ≤ 8 * ws.length := by omega
      by_cases hw : ws = []
      · subst hw
        simp only [List.length_nil, Nat.mul_zero, Nat.le_zero, Nat.add_eq_zero_iff] at hk
        obtain ⟨rfl, hbl0⟩ := hk
        have hbl : b = [] := List.eq_nil_of_length_eq_zero hbl0
        subst hbl
        refine mem_Mem_SetBytes_call (Gives.to (SetBytes_nil My) fun w2 F2 => ?_)
        have B2 := B.ext F2 (by simp)
        have k2' := fun i => B2.cell (i := i)
        simp (disch := (first | omega | decide | (simp only [World.size_alloc, World.size_setCell, World.size_drew, size_sets, List.mem_cons, List.not_mem_nil, or_false, not_false_eq_true] <;> omega) | fail)) only [↓rsMem7_0, rsMem7_1, Option.isNone_some, Option.isNone_none, tick_eq, tickV_eq, ne_eq, Int.reduceAdd, Int.reduceSub, Int.reduceMul, Int.reduceEq, Int.reduceLT, Int.reduceLE, Int.reduceToNat, Nat.reduceMul, Nat.reduceAdd, Nat.reduceSub, List.nil_append, List.cons_append, List.getElem?_toArray, List.getElem?_cons_zero, List.getElem?_cons_succ, List.setIfInBounds_toArray, List.set_cons_zero, List.set_cons_succ, Option.map_some, List.not_mem_nil, ←decide_not, he, k0, k1, k2, k3, k4, k5, ky, k2']
        have hin := in13_spec 0 0 0 w2 (by omega) (by omega)
        rw [show decide (among 0 0 0) = true by decide] at hin
        refine loamlaw13_in_call (Gives.to hin fun w3 F3 => ?_)
        have B3 := B2.ext F3 (by simp)
        have k3' := fun i => B3.cell (i := i)
        simp (disch := (first | omega | decide | (simp only [World.size_alloc, World.size_setCell, World.size_drew, size_sets, List.mem_cons, List.not_mem_nil, or_false, not_false_eq_true] <;> omega) | fail)) only [↓rsMem7_0, rsMem7_1, Option.isNone_some, Option.isNone_none, tick_eq, tickV_eq, ne_eq, Int.reduceAdd, Int.reduceSub, Int.reduceMul, Int.reduceEq, Int.reduceLT, Int.reduceLE, Int.reduceToNat, Nat.reduceMul, Nat.reduceAdd, Nat.reduceSub, List.nil_append, List.cons_append, List.getElem?_toArray, List.getElem?_cons_zero, List.getElem?_cons_succ, List.setIfInBounds_toArray, List.set_cons_zero, List.set_cons_succ, Option.map_some, List.not_mem_nil, ←decide_not, he, k0, k1, k2, k3, k4, k5, ky, k2', k3']
        have X3 := Xy.trans (F2.trans F3)
        refine loamref14_SetBytes_call (Yld.mono (rSetBytes_spec [] r cr 0 [] ab cb RowAt.nil hnr (by simp) (by simp) RowAt.nil (by simp)) ?_)
        rintro u w4 ⟨F4, O4, U4⟩
        have zx := X3.size
        have z23 := (F2.trans F3).size
        refine playTail (.inl ⟨rfl, rfl⟩) ⟨base, g, am, cm, [], rfl, hn, ((My.ext0 F2).ext0 F3).ext0 F4, O4, X3.trans F4, hb, fun x hx => by have := U4 x hx; omega, fun h => absurd rfl h, fun hx => by have := U4 _ hx; omega⟩ (by omega) (fun w' h => hnx _ _ w' h)
      refine mem_Mem_SetBytes_call (Yld.mono (SetBytes_ok k b ab cb My ((hx.ext0 X).ext0 X1) (fun _ hbe bb oo hab hm => by
        obtain ⟨b9, o9, h9, z9, _⟩ := hx.get (by simpa using hbe)
        rw [h9] at hab
        simp only [Option.some.injEq, Addr.mk.injEq, and_true] at hab
        have := ua _ hm
        omega) hk) ?_)
      rintro u w2 ⟨rfl, F2, M2⟩
      have hbo : ∀ x ∈ blkOf am, w0.heap.size ≤ x := fun x hx => Nat.le_trans hb (ua x hx)
      have B2 := B.ext F2 (fun hm => by have := za hw _ hm; omega)
      have O2 := Oy.ext F2 (fun x hx hm => hd hw x hx hm)
      have X2 := Xy.new F2 hbo
      have k2' := fun i => B2.cell (i := i)
      simp (disch := (first | omega | decide | (simp only [World.size_alloc, World.size_setCell, World.size_drew, size_sets, List.mem_cons, List.not_mem_nil, or_false, not_false_eq_true] <;> omega) | fail)) only [↓rsMem7_0, rsMem7_1, Option.isNone_some, Option.isNone_none, tick_eq, tickV_eq, ne_eq, Int.reduceAdd, Int.reduceSub, Int.reduceMul, Int.reduceEq, Int.reduceLT, Int.reduceLE, Int.reduceToNat, Nat.reduceMul, Nat.reduceAdd, Nat.reduceSub, List.nil_append, List.cons_append, List.getElem?_toArray, List.getElem?_cons_zero, List.getElem?_cons_succ, List.setIfInBounds_toArray, List.set_cons_zero, List.set_cons_succ, Option.map_some, List.not_mem_nil, ←decide_not, he, k0, k1, k2, k3, k4, k5, ky, k2']
      have hin := in13_spec (k : Int) b.length (8 * ws.length) w2 (by omega) (by omega)
      rw [decide_eq_true hi] at hin
      refine loamlaw13_in_call (Gives.to hin fun w3 F3 => ?_)
      have B3 := B2.ext F3 (by simp)
      have k3' := fun i => B3.cell (i := i)
      simp (disch := (first | omega | decide | (simp only [World.size_alloc, World.size_setCell, World.size_drew, size_sets, List.mem_cons, List.not_mem_nil, or_false, not_false_eq_true] <;> omega) | fail)) only [↓rsMem7_0, rsMem7_1, Option.isNone_some, Option.isNone_none, tick_eq, tickV_eq, ne_eq, Int.reduceAdd, Int.reduceSub, Int.reduceMul, Int.reduceEq, Int.reduceLT, Int.reduceLE, Int.reduceToNat, Nat.reduceMul, Nat.reduceAdd, Nat.reduceSub, List.nil_append, List.cons_append, List.getElem?_toArray, List.getElem?_cons_zero, List.getElem?_cons_succ, List.setIfInBounds_toArray, List.set_cons_zero, List.set_cons_succ, Option.map_some, List.not_mem_nil, ←decide_not, he, k0, k1, k2, k3, k4, k5, ky, k2', k3']
      have O3 := O2.ext0 F3
      obtain ⟨r3, cr3, he3, hcr3, _, hnr3, hrr3, _⟩ := O3.slice
      simp only [Value.slice.injEq, true_and] at he3
      obtain ⟨rfl, rfl⟩ := he3
      refine loamref14_SetBytes_call (Yld.mono (rSetBytes_spec ws r cr k b ab cb hrr3 hnr hcr (by omega) (hx.ext0 (X2.trans F3)) hk) ?_)
      rintro u w4 ⟨F4, O4, U4⟩
      have z2 := F2.size
      have z3 := F3.size
      have zx := X2.size
      refine playTail (.inl ⟨rfl, rfl⟩) ⟨base, g, am, cm, setBytesW ws k b, rfl, by rw [setBytesW_length]; exact hn, (M2.ext0 F3).ext0 F4, O4, X2.trans (F3.trans F4), hb, fun x hx => by have := U4 x hx; omega, fun _ x hx hm => by have := U4 x hx; have := za hw x hm; omega, fun hx => by have := U4 _ hx; omega⟩ (by omega) (fun w' h => hnx _ _ w' h)
    · refine mem_Mem_SetBytes_call (Gives.to (SetBytes_out to b ab cb My (by omega) hi) fun w2 F2 => ?_)
      have B2 := B.ext F2 (by simp)
      have k2' := fun i => B2.cell (i := i)
      simp (disch := (first | omega | decide | (simp only [World.size_alloc, World.size_setCell, World.size_drew, size_sets, List.mem_cons, List.not_mem_nil, or_false, not_false_eq_true] <;> omega) | fail)) only [↓rsMem7_0, rsMem7_1, Option.isNone_some, Option.isNone_none, tick_eq, tickV_eq, ne_eq, Int.reduceAdd, Int.reduceSub, Int.reduceMul, Int.reduceEq, Int.reduceLT, Int.reduceLE, Int.reduceToNat, Nat.reduceMul, Nat.reduceAdd, Nat.reduceSub, List.nil_append, List.cons_append, List.getElem?_toArray, List.getElem?_cons_zero, List.getElem?_cons_succ, List.setIfInBounds_toArray, List.set_cons_zero, List.set_cons_succ, Option.map_some, List.not_mem_nil, ←decide_not, he, k0, k1, k2, k3, k4, k5, ky, k2']
      have hin := in13_spec to b.length (8 * ws.length) w2 (by omega) (by omega)
      rw [decide_eq_false hi] at hin
      refine loamlaw13_in_call (Gives.to hin fun w3 F3 => ?_)
      simp (disch := (first | omega | decide | (simp only [World.size_alloc, World.size_setCell, World.size_drew, size_sets, List.mem_cons, List.not_mem_nil, or_false, not_false_eq_true] <;> omega) | fail)) only [↓rsMem7_0, rsMem7_1, Option.isNone_some, Option.isNone_none, tick_eq, tickV_eq, ne_eq, Int.reduceAdd, Int.reduceSub, Int.reduceMul, Int.reduceEq, Int.reduceLT, Int.reduceLE, Int.reduceToNat, Nat.reduceMul, Nat.reduceAdd, Nat.reduceSub, List.nil_append, List.cons_append, List.getElem?_toArray, List.getElem?_cons_zero, List.getElem?_cons_succ, List.setIfInBounds_toArray, List.set_cons_zero, List.set_cons_succ, Option.map_some, List.not_mem_nil, ←decide_not, he, k0, k1, k2, k3, k4, k5, ky, k2']
      exact playTail (.inr ⟨rfl, rfl⟩) (hS.ext0 (X1.trans (F2.trans F3))) (by omega) (fun w' h => hnx _ _ w' h)
  by_cases o3 : op = 3
  · subst o3
    simp (disch := (first | omega | decide | (simp only [World.size_alloc, World.size_setCell, World.size_drew, size_sets, List.mem_cons, List.not_mem_nil, or_false, not_false_eq_true] <;> omega) | fail)) only [↓rsMem7_0, rsMem7_1, Option.isNone_some, Option.isNone_none, tick_eq, tickV_eq, ne_eq, Int.reduceAdd, Int.reduceSub, Int.reduceMul, Int.reduceEq, Int.reduceLT, Int.reduceLE, Int.reduceToNat, Nat.reduceMul, Nat.reduceAdd, Nat.reduceSub, List.nil_append, List.cons_append, List.getElem?_toArray, List.getElem?_cons_zero, List.getElem?_cons_succ, List.setIfInBounds_toArray, List.set_cons_zero, List.set_cons_succ, Option.map_some, List.not_mem_nil, ←decide_not, he, k0, k1, k2, k3, k4, k5, ky]
    obtain ⟨r, cr, rfl, hcr, _, hnr, hrr, _⟩ := O.slice
    by_cases hi : among to cnt ws.length ∧ among src cnt ws.length
    · obtain ⟨hi1, hi2⟩ := hi
      have hi3 := hi1
      have hi4 := hi2
      unfold among at hi3 hi4
      obtain ⟨k, rfl⟩ := Int.eq_ofNat_of_zero_le hi3.1
      obtain ⟨s, rfl⟩ := Int.eq_ofNat_of_zero_le hi4.1
      obtain ⟨q, rfl⟩ := Int.eq_ofNat_of_zero_le hi3.2.1
      have h1 : k + q ≤ ws.length := by omega
      have h2 : s + q ≤ ws.length := by omega
      by_cases hw : ws = []
      · subst hw
        simp only [List.length_nil, Nat.le_zero, Nat.add_eq_zero_iff] at h1 h2
        obtain ⟨rfl, rfl⟩ := h1
        obtain ⟨rfl, -⟩ := h2
        refine mem_Mem_Move_call (Gives.to (Move_nil My) fun w2 F2 => ?_)
        have B2 := B.ext F2 (by simp)
        have k2' := fun i => B2.cell (i := i)
        simp (disch := (first | omega | decide | (simp only [World.size_alloc, World.size_setCell, World.size_drew, size_sets, List.mem_cons, List.not_mem_nil, or_false, not_false_eq_true] <;> omega) | fail)) only [↓rsMem7_0, rsMem7_1, Option.isNone_some, Option.isNone_none, tick_eq, tickV_eq, ne_eq, Int.reduceAdd, Int.reduceSub, Int.reduceMul, Int.reduceEq, Int.reduceLT, Int.reduceLE, Int.reduceToNat, Nat.reduceMul, Nat.reduceAdd, Nat.reduceSub, List.nil_append, List.cons_append, List.getElem?_toArray, List.getElem?_cons_zero, List.getElem?_cons_succ, List.setIfInBounds_toArray, List.set_cons_zero, List.set_cons_succ, Option.map_some, List.not_mem_nil, ←decide_not, he, k0, k1, k2, k3, k4, k5, ky, k2']
        have hin := in13_spec 0 0 0 w2 (by omega) (by omega)
        rw [show decide (among 0 0 0) = true by decide] at hin
        refine loamlaw13_in_call (Gives.to hin fun w3 F3 => ?_)
        have B3 := B2.ext F3 (by simp)
        have k3' := fun i => B3.cell (i := i)
        simp (disch := (first | omega | decide | (simp only [World.size_alloc, World.size_setCell, World.size_drew, size_sets, List.mem_cons, List.not_mem_nil, or_false, not_false_eq_true] <;> omega) | fail)) only [↓rsMem7_0, rsMem7_1, Option.isNone_some, Option.isNone_none, tick_eq, tickV_eq, ne_eq, Int.reduceAdd, Int.reduceSub, Int.reduceMul, Int.reduceEq, Int.reduceLT, Int.reduceLE, Int.reduceToNat, Nat.reduceMul, Nat.reduceAdd, Nat.reduceSub, List.nil_append, List.cons_append, List.getElem?_toArray, List.getElem?_cons_zero, List.getElem?_cons_succ, List.setIfInBounds_toArray, List.set_cons_zero, List.set_cons_succ, Option.map_some, List.not_mem_nil, ←decide_not, he, k0, k1, k2, k3, k4, k5, ky, k2', k3']
        have hin2 := in13_spec 0 0 0 w3 (by omega) (by omega)
        rw [show decide (among 0 0 0) = true by decide] at hin2
        refine loamlaw13_in_call (Gives.to hin2 fun w4 F4 => ?_)
        have B4 := B3.ext F4 (by simp)
        have X4 := Xy.trans (F2.trans (F3.trans F4))
        simp (disch := (first | omega | decide | (simp only [World.size_alloc, World.size_setCell, World.size_drew, size_sets, List.mem_cons, List.not_mem_nil, or_false, not_false_eq_true] <;> omega) | fail)) only [↓rsMem7_0, rsMem7_1, Option.isNone_some, Option.isNone_none, tick_eq, tickV_eq, ne_eq, Int.reduceAdd, Int.reduceSub, Int.reduceMul, Int.reduceEq, Int.reduceLT, Int.reduceLE, Int.reduceToNat, Nat.reduceMul, Nat.reduceAdd, Nat.reduceSub, List.nil_append, List.cons_append, List.getElem?_toArray, List.getElem?_cons_zero, List.getElem?_cons_succ, List.setIfInBounds_toArray, List.set_cons_zero, List.set_cons_succ, Option.map_some, List.not_mem_nil, ←decide_not, he, k0, k1, k2, k3, k4, k5, ky, k2', k3']
        refine appUn (m := []) RowAt.nil hnr (by simp) (by simp) fun v5 w5 O5 F5 U5 => ?_
        have B5 := B4.ext F5 (by simp)
        have k5' := fun i => B5.cell (i := i)
        refine xLoop_n 0 (fun k => [i64 (k : Int)]) (fun _ w' => w' = w5) rfl rfl (fun k hk => absurd hk (by omega)) ?_
        rintro u w6 hu rfl nxt6
        simp only [List.map_cons, List.map_nil, List.cons.injEq, and_true] at hu
        rw [hu]
        unfold loamlaw13_MemPlays_l2
        simp (disch := (first | omega | decide | (simp only [World.size_alloc, World.size_setCell, World.size_drew, size_sets, List.mem_cons, List.not_mem_nil, or_false, not_false_eq_true] <;> omega) | fail)) only [↓rsMem7_0, rsMem7_1, Option.isNone_some, Option.isNone_none, tick_eq, tickV_eq, ne_eq, Int.reduceAdd, Int.reduceSub, Int.reduceMul, Int.reduceEq, Int.reduceLT, Int.reduceLE, Int.reduceToNat, Nat.reduceMul, Nat.reduceAdd, Nat.reduceSub, List.nil_append, List.cons_append, List.getElem?_toArray, List.getElem?_cons_zero, List.getElem?_cons_succ, List.setIfInBounds_toArray, List.set_cons_zero, List.set_cons_succ, Option.map_some, List.not_mem_nil, ←decide_not, he, k0, k1, k2, k3, k4, k5, ky, k2', k3', k5']
        have zx := X4.size
        have z24 := (F2.trans (F3.trans F4)).size
        exact playTail (.inl ⟨rfl, rfl⟩) ⟨base, g, am, cm, [], rfl, hn, (((My.ext0 F2).ext0 F3).ext0 F4).ext0 F5, O5, X4.trans F5, hb, fun x hx => by have := U5 x hx; omega, fun h => absurd rfl h, fun hx => by have := U5 _ hx; omega⟩ (by omega) (fun w' h => hnx _ _ w' h)
      refine mem_Mem_Move_call (Yld.mono (Move_ok k s q My h1 h2) ?_)
      rintro u w2 ⟨rfl, F2, M2⟩
      have hbo : ∀ x ∈ blkOf am, w0.heap.size ≤ x := fun x hx => Nat.le_trans hb (ua x hx)
      have B2 := B.ext F2 (fun hm => by have := za hw _ hm; omega)
      have O2 := Oy.ext F2 (fun x hx hm => hd hw x hx hm)
      have X2 := Xy.new F2 hbo
      have k2' := fun i => B2.cell (i := i)
      simp (disch := (first | omega | decide | (simp only [World.size_alloc, World.size_setCell, World.size_drew, size_sets, List.mem_cons, List.not_mem_nil, or_false, not_false_eq_true] <;> omega) | fail)) only [↓rsMem7_0, rsMem7_1, Option.isNone_some, Option.isNone_none, tick_eq, tickV_eq, ne_eq, Int.reduceAdd, Int.reduceSub, Int.reduceMul, Int.reduceEq, Int.reduceLT, Int.reduceLE, Int.reduceToNat, Nat.reduceMul, Nat.reduceAdd, Nat.reduceSub, List.nil_append, List.cons_append, List.getElem?_toArray, List.getElem?_cons_zero, List.getElem?_cons_succ, List.setIfInBounds_toArray, List.set_cons_zero, List.set_cons_succ, Option.map_some, List.not_mem_nil, ←decide_not, he, k0, k1, k2, k3, k4, k5, ky, k2']
      have hin := in13_spec (k : Int) q ws.length w2 (by omega) (by omega)
      rw [decide_eq_true hi1] at hin
      refine loamlaw13_in_call (Gives.to hin fun w3 F3 => ?_)
      have B3 := B2.ext F3 (by simp)
      have k3' := fun i => B3.cell (i := i)
      simp (disch := (first | omega | decide | (simp only [World.size_alloc, World.size_setCell, World.size_drew, size_sets, List.mem_cons, List.not_mem_nil, or_false, not_false_eq_true] <;> omega) | fail)) only [↓rsMem7_0, rsMem7_1, Option.isNone_some, Option.isNone_none, tick_eq, tickV_eq, ne_eq, Int.reduceAdd, Int.reduceSub, Int.reduceMul, Int.reduceEq, Int.reduceLT, Int.reduceLE, Int.reduceToNat, Nat.reduceMul, Nat.reduceAdd, Nat.reduceSub, List.nil_append, List.cons_append, List.getElem?_toArray, List.getElem?_cons_zero, List.getElem?_cons_succ, List.setIfInBounds_toArray, List.set_cons_zero, List.set_cons_succ, Option.map_some, List.not_mem_nil, ←decide_not, he, k0, k1, k2, k3, k4, k5, ky, k2', k3']
      have hin2 := in13_spec (s : Int) q ws.length w3 (by omega) (by omega)
      rw [decide_eq_true hi2] at hin2
      refine loamlaw13_in_call (Gives.to hin2 fun w4 F4 => ?_)
      have B4 := B3.ext F4 (by simp)
      have X4 := X2.trans (F3.trans F4)
      have O4 := (O2.ext0 F3).ext0 F4
      obtain ⟨r4, cr4, he4, hcr4, _, hnr4, hrr4, _⟩ := O4.slice
      simp only [Value.slice.injEq, true_and] at he4
      obtain ⟨rfl, rfl⟩ := he4
      simp (disch := (first | omega | decide | (simp only [World.size_alloc, World.size_setCell, World.size_drew, size_sets, List.mem_cons, List.not_mem_nil, or_false, not_false_eq_true] <;> omega) | fail)) only [↓rsMem7_0, rsMem7_1, Option.isNone_some, Option.isNone_none, tick_eq, tickV_eq, ne_eq, Int.reduceAdd, Int.reduceSub, Int.reduceMul, Int.reduceEq, Int.reduceLT, Int.reduceLE, Int.reduceToNat, Nat.reduceMul, Nat.reduceAdd, Nat.reduceSub, List.nil_append, List.cons_append, List.getElem?_toArray, List.getElem?_cons_zero, List.getElem?_cons_succ, List.setIfInBounds_toArray, List.set_cons_zero, List.set_cons_succ, Option.map_some, List.not_mem_nil, ←decide_not, he, k0, k1, k2, k3, k4, k5, ky, k2', k3']
      refine appUn hrr4 hnr4 hcr4 (by omega) fun v5 w5 O5 F5 U5 => ?_
      have zx := X4.size
      have z2 := F2.size
      have z34 := (F3.trans F4).size
      refine xLoop_n q (fun i => [i64 (i : Int)]) (fun i w' => Ext [] w4 w' ∧ OwnU w' v5 (moveW ws k s i)) rfl ⟨F5, by rw [moveW_none]; exact O5⟩ ?_ ?_
      · rintro i hiq u w6 hu ⟨F6, O6⟩ nxt6 hnx6
        simp only [List.map_cons, List.map_nil, List.cons.injEq, and_true] at hu
        rw [hu]
        have B6 := B4.ext F6 (by simp)
        have k6' := fun i => B6.cell (i := i)
        have hml : (moveW ws k s i).length = ws.length := moveW_length (by omega) (by omega)
        obtain ⟨b7, o7, he7, z7, c7⟩ := (hrr4.ext0 F6).at (i := s + i) (by simp; omega)
        simp only [List.getElem_map] at c7
        have O6' : OwnU w6.drew v5 (moveW ws k s i) := O6.ext0 (Ext.drew _ _)
        obtain ⟨g8, c8, he8, k8, f8, O8, X8, z8⟩ := OwnU.at O6' (i := k + i) (by omega) (ws.getD (s + i) c0)
        rw [hml] at he8
        have t7 : ((s : Int) + i).toNat = s + i := by omega
        have t8 : ((k : Int) + i).toNat = k + i := by omega
        have e7 : ws[s + i]'(by omega) = ws.getD (s + i) c0 := by rw [List.getD_eq_getElem?_getD, List.getElem?_eq_getElem (by omega)]; rfl
        rw [e7] at c7
        unfold loamlaw13_MemPlays_l2
        rw [he7]
        simp (disch := (first | omega | decide | (simp only [World.size_alloc, World.size_setCell, World.size_drew, size_sets, List.mem_cons, List.not_mem_nil, or_false, not_false_eq_true] <;> omega) | fail)) only [↓rsMem7_0, rsMem7_1, Option.isNone_some, Option.isNone_none, tick_eq, tickV_eq, ne_eq, Int.reduceAdd, Int.reduceSub, Int.reduceMul, Int.reduceEq, Int.reduceLT, Int.reduceLE, Int.reduceToNat, Nat.reduceMul, Nat.reduceAdd, Nat.reduceSub, List.nil_append, List.cons_append, List.getElem?_toArray, List.getElem?_cons_zero, List.getElem?_cons_succ, List.setIfInBounds_toArray, List.set_cons_zero, List.set_cons_succ, Option.map_some, List.not_mem_nil, ←decide_not, he, k0, k1, k2, k3, k4, k5, ky, k2', k3', k6', t7, t8, c7, he8, k8, f8]
        have e2 : ((i : Int) + 1) = ((i + 1 : Nat) : Int) := by omega
        rw [e2]
        rw [mv_succ (n := q) h1 h2 hiq] at O8
        exact hnx6 _ ⟨(F6.trans (Ext.drew _ _)).new X8 U5, O8⟩
      · rintro u w6 hu ⟨F6, O6⟩ nxt6
        simp only [List.map_cons, List.map_nil, List.cons.injEq, and_true] at hu
        rw [hu]
        have B6 := B4.ext F6 (by simp)
        have k6' := fun i => B6.cell (i := i)
        unfold loamlaw13_MemPlays_l2
        simp (disch := (first | omega | decide | (simp only [World.size_alloc, World.size_setCell, World.size_drew, size_sets, List.mem_cons, List.not_mem_nil, or_false, not_false_eq_true] <;> omega) | fail)) only [↓rsMem7_0, rsMem7_1, Option.isNone_some, Option.isNone_none, tick_eq, tickV_eq, ne_eq, Int.reduceAdd, Int.reduceSub, Int.reduceMul, Int.reduceEq, Int.reduceLT, Int.reduceLE, Int.reduceToNat, Nat.reduceMul, Nat.reduceAdd, Nat.reduceSub, List.nil_append, List.cons_append, List.getElem?_toArray, List.getElem?_cons_zero, List.getElem?_cons_succ, List.setIfInBounds_toArray, List.set_cons_zero, List.set_cons_succ, Option.map_some, List.not_mem_nil, ←decide_not, he, k0, k1, k2, k3, k4, k5, ky, k2', k3', k6']
        exact playTail (.inl ⟨rfl, rfl⟩) ⟨base, g, am, cm, moveW ws k s q, rfl, by rw [moveW_length h1 h2]; exact hn, ((M2.ext0 F3).ext0 F4).ext0 F6, O6, X4.trans F6, hb, fun x hx => by have := U5 x hx; omega, fun _ x hx hm => by have := U5 x hx; have := za hw x hm; omega, fun hx => by have := U5 _ hx; omega⟩ (by omega) (fun w' h => hnx _ _ w' h)
    · refine mem_Mem_Move_call (Gives.to (Move_out to src cnt My hi) fun w2 F2 => ?_)
      have B2 := B.ext F2 (by simp)
      have k2' := fun i => B2.cell (i := i)
      simp (disch := (first | omega | decide | (simp only [World.size_alloc, World.size_setCell, World.size_drew, size_sets, List.mem_cons, List.not_mem_nil, or_false, not_false_eq_true] <;> omega) | fail)) only [↓rsMem7_0, rsMem7_1, Option.isNone_some, Option.isNone_none, tick_eq, tickV_eq, ne_eq, Int.reduceAdd, Int.reduceSub, Int.reduceMul, Int.reduceEq, Int.reduceLT, Int.reduceLE, Int.reduceToNat, Nat.reduceMul, Nat.reduceAdd, Nat.reduceSub, List.nil_append, List.cons_append, List.getElem?_toArray, List.getElem?_cons_zero, List.getElem?_cons_succ, List.setIfInBounds_toArray, List.set_cons_zero, List.set_cons_succ, Option.map_some, List.not_mem_nil, ←decide_not, he, k0, k1, k2, k3, k4, k5, ky, k2']
      have hin := in13_spec to cnt ws.length w2 (by omega) (by omega)
      refine loamlaw13_in_call (Gives.to hin fun w3 F3 => ?_)
      have B3 := B2.ext F3 (by simp)
      have k3' := fun i => B3.cell (i := i)
      by_cases hi1 : among to cnt ws.length
      · rw [decide_eq_true hi1]
        simp (disch := (first | omega | decide | (simp only [World.size_alloc, World.size_setCell, World.size_drew, size_sets, List.mem_cons, List.not_mem_nil, or_false, not_false_eq_true] <;> omega) | fail)) only [↓rsMem7_0, rsMem7_1, Option.isNone_some, Option.isNone_none, tick_eq, tickV_eq, ne_eq, Int.reduceAdd, Int.reduceSub, Int.reduceMul, Int.reduceEq, Int.reduceLT, Int.reduceLE, Int.reduceToNat, Nat.reduceMul, Nat.reduceAdd, Nat.reduceSub, List.nil_append, List.cons_append, List.getElem?_toArray, List.getElem?_cons_zero, List.getElem?_cons_succ, List.setIfInBounds_toArray, List.set_cons_zero, List.set_cons_succ, Option.map_some, List.not_mem_nil, ←decide_not, he, k0, k1, k2, k3, k4, k5, ky, k2', k3']
        have hin2 := in13_spec src cnt ws.length w3 (by omega) (by omega)
        rw [decide_eq_false (fun h => hi ⟨hi1, h⟩)] at hin2
        refine loamlaw13_in_call (Gives.to hin2 fun w4 F4 => ?_)
        simp (disch := (first | omega | decide | (simp only [World.size_alloc, World.size_setCell, World.size_drew, size_sets, List.mem_cons, List.not_mem_nil, or_false, not_false_eq_true] <;> omega) | fail)) only [↓rsMem7_0, rsMem7_1, Option.isNone_some, Option.isNone_none, tick_eq, tickV_eq, ne_eq, Int.reduceAdd, Int.reduceSub, Int.reduceMul, Int.reduceEq, Int.reduceLT, Int.reduceLE, Int.reduceToNat, Nat.reduceMul, Nat.reduceAdd, Nat.reduceSub, List.nil_append, List.cons_append, List.getElem?_toArray, List.getElem?_cons_zero, List.getElem?_cons_succ, List.setIfInBounds_toArray, List.set_cons_zero, List.set_cons_succ, Option.map_some, List.not_mem_nil, ←decide_not, he, k0, k1, k2, k3, k4, k5, ky, k2', k3']
        exact playTail (.inr ⟨rfl, rfl⟩) (hS.ext0 (X1.trans (F2.trans (F3.trans F4)))) (by omega) (fun w' h => hnx _ _ w' h)
      · rw [decide_eq_false hi1]
        simp (disch := (first | omega | decide | (simp only [World.size_alloc, World.size_setCell, World.size_drew, size_sets, List.mem_cons, List.not_mem_nil, or_false, not_false_eq_true] <;> omega) | fail)) only [↓rsMem7_0, rsMem7_1, Option.isNone_some, Option.isNone_none, tick_eq, tickV_eq, ne_eq, Int.reduceAdd, Int.reduceSub, Int.reduceMul, Int.reduceEq, Int.reduceLT, Int.reduceLE, Int.reduceToNat, Nat.reduceMul, Nat.reduceAdd, Nat.reduceSub, List.nil_append, List.cons_append, List.getElem?_toArray, List.getElem?_cons_zero, List.getElem?_cons_succ, List.setIfInBounds_toArray, List.set_cons_zero, List.set_cons_succ, Option.map_some, List.not_mem_nil, ←decide_not, he, k0, k1, k2, k3, k4, k5, ky, k2']
        exact playTail (.inr ⟨rfl, rfl⟩) (hS.ext0 (X1.trans (F2.trans F3))) (by omega) (fun w' h => hnx _ _ w' h)
  by_cases o4 : op = 4
  · subst o4
    simp (disch := (first | omega | decide | (simp only [World.size_alloc, World.size_setCell, World.size_drew, size_sets, List.mem_cons, List.not_mem_nil, or_false, not_false_eq_true] <;> omega) | fail)) only [↓rsMem7_0, rsMem7_1, Option.isNone_some, Option.isNone_none, tick_eq, tickV_eq, ne_eq, Int.reduceAdd, Int.reduceSub, Int.reduceMul, Int.reduceEq, Int.reduceLT, Int.reduceLE, Int.reduceToNat, Nat.reduceMul, Nat.reduceAdd, Nat.reduceSub, List.nil_append, List.cons_append, List.getElem?_toArray, List.getElem?_cons_zero, List.getElem?_cons_succ, List.setIfInBounds_toArray, List.set_cons_zero, List.set_cons_succ, Option.map_some, List.not_mem_nil, ←decide_not, he, k0, k1, k2, k3, k4, k5, ky]
    obtain ⟨r, cr, rfl, hcr, _, hnr, hrr, _⟩ := O.slice
    by_cases hi : among to cnt (8 * ws.length)
    · have hi' := hi
      unfold among at hi'
      obtain ⟨k, rfl⟩ := Int.eq_ofNat_of_zero_le hi'.1
      obtain ⟨q, rfl⟩ := Int.eq_ofNat_of_zero_le hi'.2.1
      have hk : k + q ≤ 8 * ws.length := by omega
      refine mem_Mem_Bytes_call (Yld.mono (Bytes_ok k q My hk) ?_)
      rintro u w2 ⟨F2, a9, c9, rfl, hc9, R9, U9⟩
      have B2 := B.ext F2 (by simp)
      have k2' := fun i => B2.cell (i := i)
      simp (disch := (first | omega | decide | (simp only [World.size_alloc, World.size_setCell, World.size_drew, size_sets, List.mem_cons, List.not_mem_nil, or_false, not_false_eq_true] <;> omega) | fail)) only [↓rsMem7_0, rsMem7_1, Option.isNone_some, Option.isNone_none, tick_eq, tickV_eq, ne_eq, Int.reduceAdd, Int.reduceSub, Int.reduceMul, Int.reduceEq, Int.reduceLT, Int.reduceLE, Int.reduceToNat, Nat.reduceMul, Nat.reduceAdd, Nat.reduceSub, List.nil_append, List.cons_append, List.getElem?_toArray, List.getElem?_cons_zero, List.getElem?_cons_succ, List.setIfInBounds_toArray, List.set_cons_zero, List.set_cons_succ, Option.map_some, List.not_mem_nil, ←decide_not, he, k0, k1, k2, k3, k4, k5, ky, k2']
      have hin := in13_spec (k : Int) q (8 * ws.length) w2 (by omega) (by omega)
      rw [decide_eq_true hi] at hin
      refine loamlaw13_in_call (Gives.to hin fun w3 F3 => ?_)
      have B3 := B2.ext F3 (by simp)
      have k3' := fun i => B3.cell (i := i)
      have R3 := R9.ext0 F3
      have s3 := strB (c := c9) rfl (R3.ext0 (Ext.drew [] w3))
      simp (disch := (first | omega | decide | (simp only [World.size_alloc, World.size_setCell, World.size_drew, size_sets, List.mem_cons, List.not_mem_nil, or_false, not_false_eq_true] <;> omega) | fail)) only [↓rsMem7_0, rsMem7_1, Option.isNone_some, Option.isNone_none, tick_eq, tickV_eq, ne_eq, Int.reduceAdd, Int.reduceSub, Int.reduceMul, Int.reduceEq, Int.reduceLT, Int.reduceLE, Int.reduceToNat, Nat.reduceMul, Nat.reduceAdd, Nat.reduceSub, List.nil_append, List.cons_append, List.getElem?_toArray, List.getElem?_cons_zero, List.getElem?_cons_succ, List.setIfInBounds_toArray, List.set_cons_zero, List.set_cons_succ, Option.map_some, List.not_mem_nil, ←decide_not, he, k0, k1, k2, k3, k4, k5, ky, k2', k3', s3]
      refine loamref14_Bytes_call (Yld.mono (rBytes_spec ws r cr k q (((hrr.ext0 X1).ext0 F2).ext0 (F3.trans (Ext.drew [] w3))) (by omega) hk) ?_)
      rintro u w4 N4
      have F4 := (Ext.drew [] w3).trans N4.1
      obtain ⟨a4, c4, rfl, h4, h5, R4, U4⟩ := NewR.toB N4
      have s4 := strB (c := c9) rfl (R3.ext0 F4)
      have s5 := strB (c := c4) rfl R4
      have ds : decide (strOf (bytesW ws k q) ≠ strOf (bytesW ws k q)) = false := by simp
      simp (disch := (first | omega | decide | (simp only [World.size_alloc, World.size_setCell, World.size_drew, size_sets, List.mem_cons, List.not_mem_nil, or_false, not_false_eq_true] <;> omega) | fail)) only [↓rsMem7_0, rsMem7_1, Option.isNone_some, Option.isNone_none, tick_eq, tickV_eq, ne_eq, Int.reduceAdd, Int.reduceSub, Int.reduceMul, Int.reduceEq, Int.reduceLT, Int.reduceLE, Int.reduceToNat, Nat.reduceMul, Nat.reduceAdd, Nat.reduceSub, List.nil_append, List.cons_append, List.getElem?_toArray, List.getElem?_cons_zero, List.getElem?_cons_succ, List.setIfInBounds_toArray, List.set_cons_zero, List.set_cons_succ, Option.map_some, List.not_mem_nil, ←decide_not, he, k0, k1, k2, k3, k4, k5, ky, k2', k3', s3, s4, s5, ds]
      exact playTail (.inl ⟨rfl, rfl⟩) (hS.ext0 (X1.trans (F2.trans (F3.trans F4)))) (by omega) (fun w' h => hnx _ _ w' h)
    · refine mem_Mem_Bytes_call (Gives.to (Bytes_out to cnt My hi) fun w2 F2 => ?_)
      have B2 := B.ext F2 (by simp)
      have k2' := fun i => B2.cell (i := i)
      simp (disch := (first | omega | decide | (simp only [World.size_alloc, World.size_setCell, World.size_drew, size_sets, List.mem_cons, List.not_mem_nil, or_false, not_false_eq_true] <;> omega) | fail)) only [↓rsMem7_0, rsMem7_1, Option.isNone_some, Option.isNone_none, tick_eq, tickV_eq, ne_eq, Int.reduceAdd, Int.reduceSub, Int.reduceMul, Int.reduceEq, Int.reduceLT, Int.reduceLE, Int.reduceToNat, Nat.reduceMul, Nat.reduceAdd, Nat.reduceSub, List.nil_append, List.cons_append, List.getElem?_toArray, List.getElem?_cons_zero, List.getElem?_cons_succ, List.setIfInBounds_toArray, List.set_cons_zero, List.set_cons_succ, Option.map_some, List.not_mem_nil, ←decide_not, he, k0, k1, k2, k3, k4, k5, ky, k2']
      have hin := in13_spec to cnt (8 * ws.length) w2 (by omega) (by omega)
      rw [decide_eq_false hi] at hin
      refine loamlaw13_in_call (Gives.to hin fun w3 F3 => ?_)
      simp (disch := (first | omega | decide | (simp only [World.size_alloc, World.size_setCell, World.size_drew, size_sets, List.mem_cons, List.not_mem_nil, or_false, not_false_eq_true] <;> omega) | fail)) only [↓rsMem7_0, rsMem7_1, Option.isNone_some, Option.isNone_none, tick_eq, tickV_eq, ne_eq, Int.reduceAdd, Int.reduceSub, Int.reduceMul, Int.reduceEq, Int.reduceLT, Int.reduceLE, Int.reduceToNat, Nat.reduceMul, Nat.reduceAdd, Nat.reduceSub, List.nil_append, List.cons_append, List.getElem?_toArray, List.getElem?_cons_zero, List.getElem?_cons_succ, List.setIfInBounds_toArray, List.set_cons_zero, List.set_cons_succ, Option.map_some, List.not_mem_nil, ←decide_not, he, k0, k1, k2, k3, k4, k5, ky, k2']
      exact playTail (.inr ⟨rfl, rfl⟩) (hS.ext0 (X1.trans (F2.trans (F3.trans (Ext.drew [] w3))))) (by omega) (fun w' h => hnx _ _ w' h)
  by_cases o5 : op = 5
  · subst o5
    simp (disch := (first | omega | decide | (simp only [World.size_alloc, World.size_setCell, World.size_drew, size_sets, List.mem_cons, List.not_mem_nil, or_false, not_false_eq_true] <;> omega) | fail)) only [↓rsMem7_0, rsMem7_1, Option.isNone_some, Option.isNone_none, tick_eq, tickV_eq, ne_eq, Int.reduceAdd, Int.reduceSub, Int.reduceMul, Int.reduceEq, Int.reduceLT, Int.reduceLE, Int.reduceToNat, Nat.reduceMul, Nat.reduceAdd, Nat.reduceSub, List.nil_append, List.cons_append, List.getElem?_toArray, List.getElem?_cons_zero, List.getElem?_cons_succ, List.setIfInBounds_toArray, List.set_cons_zero, List.set_cons_succ, Option.map_some, List.not_mem_nil, ←decide_not, he, k0, k1, k2, k3, k4, k5, ky]
    refine mem_Mem_Twin_call (Yld.mono (Twin_spec My) ?_)
    rintro u w2 ⟨F2, g2, a2, c2, rfl, M2⟩
    simp (disch := (first | omega | decide | (simp only [World.size_alloc, World.size_setCell, World.size_drew, size_sets, List.mem_cons, List.not_mem_nil, or_false, not_false_eq_true] <;> omega) | fail)) only [↓rsMem7_0, rsMem7_1, Option.isNone_some, Option.isNone_none, tick_eq, tickV_eq, ne_eq, Int.reduceAdd, Int.reduceSub, Int.reduceMul, Int.reduceEq, Int.reduceLT, Int.reduceLE, Int.reduceToNat, Nat.reduceMul, Nat.reduceAdd, Nat.reduceSub, List.nil_append, List.cons_append, List.getElem?_toArray, List.getElem?_cons_zero, List.getElem?_cons_succ, List.setIfInBounds_toArray, List.set_cons_zero, List.set_cons_succ, Option.map_some, List.not_mem_nil, ←decide_not, he, k0, k1, k2, k3, k4, k5, ky]
    have z2 := F2.size
    have O2 := Oy.ext0 F2
    have u2 := M2.up
    have l2 := M2.lo
    have hbo : ∀ x ∈ blkOf am, w0.heap.size ≤ x := fun x hx => Nat.le_trans hb (ua x hx)
    have My2 := My.ext0 F2
    by_cases hw : ws = []
    · refine mem_Mem_Set_call (Gives.to (Set_out 0 (BitVec.ofNat 64 99) My2 (by subst hw; simp)) fun w3 F3 => ?_)
      exact playTail (.inl ⟨rfl, rfl⟩) ⟨y.heap.size, g2, a2, c2, ws, rfl, hn, M2.ext0 F3, O2.ext0 F3, Xy.trans (F2.trans F3), by omega, hv, fun h => absurd hw h, fun h => by have := zv _ h; omega⟩ (by omega) (fun w' h => hnx _ _ w' h)
    · refine mem_Mem_Set_call (Yld.mono (Set_ok 0 (BitVec.ofNat 64 99) My2 (List.length_pos_iff.2 hw)) ?_)
      rintro u w3 ⟨rfl, F3, M3⟩
      exact playTail (.inl ⟨rfl, rfl⟩) ⟨y.heap.size, g2, a2, c2, ws, rfl, hn, M2.ext F3 (fun h => by have := za hw _ h; omega) (fun _ x hx h => by have := za hw _ h; have := u2 x hx; omega), O2.ext F3 (fun x hx h => hd hw x hx h), (Xy.trans F2).new F3 hbo, by omega, hv, fun _ x hx h => by have := zv x hx; have := u2 x h; omega, fun h => by have := zv _ h; omega⟩ (by omega) (fun w' h => hnx _ _ w' h)
  by_cases o6 : op = 6
  · subst o6
    simp (disch := (first | omega | decide | (simp only [World.size_alloc, World.size_setCell, World.size_drew, size_sets, List.mem_cons, List.not_mem_nil, or_false, not_false_eq_true] <;> omega) | fail)) only [↓rsMem7_0, rsMem7_1, Option.isNone_some, Option.isNone_none, tick_eq, tickV_eq, ne_eq, Int.reduceAdd, Int.reduceSub, Int.reduceMul, Int.reduceEq, Int.reduceLT, Int.reduceLE, Int.reduceToNat, Nat.reduceMul, Nat.reduceAdd, Nat.reduceSub, List.nil_append, List.cons_append, List.getElem?_toArray, List.getElem?_cons_zero, List.getElem?_cons_succ, List.setIfInBounds_toArray, List.set_cons_zero, List.set_cons_succ, Option.map_some, List.not_mem_nil, ←decide_not, he, k0, k1, k2, k3, k4, k5, ky]
    refine mem_Mem_Words_call (Yld.mono (Words_spec My) ?_)
    rintro u w2 ⟨F2, a2, c2, rfl, hc2, hn2, O2, U2⟩
    simp (disch := (first | omega | decide | (simp only [World.size_alloc, World.size_setCell, World.size_drew, size_sets, List.mem_cons, List.not_mem_nil, or_false, not_false_eq_true] <;> omega) | fail)) only [↓rsMem7_0, rsMem7_1, Option.isNone_some, Option.isNone_none, tick_eq, tickV_eq, ne_eq, Int.reduceAdd, Int.reduceSub, Int.reduceMul, Int.reduceEq, Int.reduceLT, Int.reduceLE, Int.reduceToNat, Nat.reduceMul, Nat.reduceAdd, Nat.reduceSub, List.nil_append, List.cons_append, List.getElem?_toArray, List.getElem?_cons_zero, List.getElem?_cons_succ, List.setIfInBounds_toArray, List.set_cons_zero, List.set_cons_succ, Option.map_some, List.not_mem_nil, ←decide_not, he, k0, k1, k2, k3, k4, k5, ky]
    refine xLoop_n ws.length (fun k => [i64 (k : Int)]) (fun k w' => Ext [] y w' ∧ ∃ ws', ws'.length = ws.length ∧ OwnW w' y.heap.size a2 c2 ws') rfl ⟨F2, ws, rfl, O2⟩ ?_ ?_
    · rintro k hk u w3 hu ⟨F3, ws3, hl3, O3⟩ nxt2 hnx2
      simp only [List.map_cons, List.map_nil, List.cons.injEq, and_true] at hu
      rw [hu]
      rcases O3 with e | ⟨gs, rest, rfl, hbs, hB, hcs⟩
      · subst e; simp at hl3; omega
      have hk3 : k < ws3.length := by omega
      have c1 : w3.cell? ⟨gs, k, none⟩ = some (u64 ws3[k]) := by rw [hB.cell, List.getElem?_append_left (by simpa using hk3)]; simp [hk3]
      have f1 : w3.frozen? ⟨gs, k, none⟩ = false := hB.frozen
      unfold loamlaw13_MemPlays_l3
      simp (disch := (first | omega | decide | (simp only [World.size_alloc, World.size_setCell, World.size_drew, size_sets, List.mem_cons, List.not_mem_nil, or_false, not_false_eq_true] <;> omega) | fail)) only [↓rsMem7_0, rsMem7_1, Option.isNone_some, Option.isNone_none, tick_eq, tickV_eq, ne_eq, Int.reduceAdd, Int.reduceSub, Int.reduceMul, Int.reduceEq, Int.reduceLT, Int.reduceLE, Int.reduceToNat, Nat.reduceMul, Nat.reduceAdd, Nat.reduceSub, List.nil_append, List.cons_append, List.getElem?_toArray, List.getElem?_cons_zero, List.getElem?_cons_succ, List.setIfInBounds_toArray, List.set_cons_zero, List.set_cons_succ, Option.map_some, List.not_mem_nil, ←decide_not, he, k0, k1, k2, k3, k4, k5, ky, c1, f1]
      have B2 := hB.set (i := k) (v := u64 (BitVec.ofNat 64 77))
      rw [List.set_append_left _ _ (by simpa using hk3)] at B2
      have e2 : (wrds ws3).set k (u64 (BitVec.ofNat 64 77)) = wrds (ws3.set k (BitVec.ofNat 64 77)) := by simp [wrds, List.map_set]
      rw [e2] at B2
      exact hnx2 _ ⟨F3.set' (.inr hbs), ws3.set k (BitVec.ofNat 64 77), by simpa using hl3, .inr ⟨gs, rest, rfl, hbs, B2, by simpa using hcs⟩⟩
    · rintro u w3 hu ⟨F3, -⟩ nxt2
      simp only [List.map_cons, List.map_nil, List.cons.injEq, and_true] at hu
      rw [hu]
      unfold loamlaw13_MemPlays_l3
      simp (disch := (first | omega | decide | (simp only [World.size_alloc, World.size_setCell, World.size_drew, size_sets, List.mem_cons, List.not_mem_nil, or_false, not_false_eq_true] <;> omega) | fail)) only [↓rsMem7_0, rsMem7_1, Option.isNone_some, Option.isNone_none, tick_eq, tickV_eq, ne_eq, Int.reduceAdd, Int.reduceSub, Int.reduceMul, Int.reduceEq, Int.reduceLT, Int.reduceLE, Int.reduceToNat, Nat.reduceMul, Nat.reduceAdd, Nat.reduceSub, List.nil_append, List.cons_append, List.getElem?_toArray, List.getElem?_cons_zero, List.getElem?_cons_succ, List.setIfInBounds_toArray, List.set_cons_zero, List.set_cons_succ, Option.map_some, List.not_mem_nil, ←decide_not, he, k0, k1, k2, k3, k4, k5, ky]
      exact playTail (.inl ⟨rfl, rfl⟩) (hS.ext0 (X1.trans F3)) (by omega) (fun w' h => hnx _ _ w' h)
  simp (disch := (first | omega | decide | (simp only [World.size_alloc, World.size_setCell, World.size_drew, size_sets, List.mem_cons, List.not_mem_nil, or_false, not_false_eq_true] <;> omega) | fail)) only [↓rsMem7_0, rsMem7_1, Option.isNone_some, Option.isNone_none, tick_eq, tickV_eq, ne_eq, Int.reduceAdd, Int.reduceSub, Int.reduceMul, Int.reduceEq, Int.reduceLT, Int.reduceLE, Int.reduceToNat, Nat.reduceMul, Nat.reduceAdd, Nat.reduceSub, List.nil_append, List.cons_append, List.getElem?_toArray, List.getElem?_cons_zero, List.getElem?_cons_succ, List.setIfInBounds_toArray, List.set_cons_zero, List.set_cons_succ, Option.map_some, List.not_mem_nil, ←decide_not, he, k0, k1, k2, k3, k4, k5, ky]
  exact playTail (.inl ⟨rfl, rfl⟩) (hS.ext0 X1) (by omega) (fun w' h => hnx _ _ w' h)
abbrev rsMem7_2 := (And.intro @xBox_r (And.intro @loadK_some (And.intro @loadsK_s (And.intro @loadsK_n (And.intro @loadsR_s (And.intro @loadsR_n (And.intro @storesK_s (And.intro @storesK_n (And.intro @xPick_t (And.intro @xPick_f (And.intro @xGuard_tt (And.intro @xGuard_ff (And.intro @xGuard_tf (And.intro @xGuard_ft (And.intro @xGuard_u 
  (And.intro @xNil_r (And.intro @xIf_t (And.intro @xBin_add' (And.intro @xBin_sub' (And.intro @xBin_mul' (And.intro @xBin_quo' (And.intro @xBin_rem' (And.intro @xIf_f (And.intro @xIf_tt (And.intro @xEx0 (And.intro @xEx1 (And.intro @xEx2 (And.intro @xEx3 (And.intro @xBin_eqs (And.intro @xBin_nes (And.intro @xUn_not (And.intro @xu8_mul (And.intro @xu8_com 
  (And.intro @xu8_eql (And.intro @xu8_neq (And.intro @xu8_lss (And.intro @xu8_gtr (And.intro @xu8_geq (And.intro @xu16_mul (And.intro @xu16_com (And.intro @xu16_eql (And.intro @xu16_neq (And.intro @xu16_lss (And.intro @xu16_gtr (And.intro @xu16_geq (And.intro @xu32_mul (And.intro @xu32_com (And.intro @xu32_eql (And.intro @xu32_neq (And.intro @xu32_lss 
  (And.intro @xu32_gtr (And.intro @xu32_geq (And.intro @xu64_mul (And.intro @xu64_com (And.intro @xu64_eql (And.intro @xu64_neq (And.intro @xu64_lss (And.intro @xu64_gtr (And.intro @xu64_geq (And.intro @xi64_lss (And.intro @xi64_gtr (And.intro @xi64_geq (And.intro @xi64_eql (And.intro @xi64_neq (And.intro @xi64_neg (And.intro @xMakeFunc_r 
  (And.intro @xSq_r (And.intro @xPur_s (And.intro @xRd_s (And.intro @xRe_s (And.intro @xDet_s (And.intro @xDet_ld (And.intro @xDet_ld2 (And.intro @xDet_ld3 (And.intro @xDet_ld4 (And.intro @xGuard_tt (And.intro @ld_3 (And.intro @ld_22 (And.intro @ld_23 (And.intro @ld_67 (And.intro @fa_67_0 (And.intro @fa_67_1 (And.intro @fa_67_2 (And.intro @fa_67_3 (And.intro @fa_67_4 
  (And.intro @fa_67_5 (And.intro @al_67 (And.intro @st_23 (And.intro @st_67 (And.intro @ia_58 (And.intro @ia_65 (And.intro @ln_22 (And.intro @ln_58 (And.intro @ln_65 (And.intro @bs_58_0 (And.intro @nq_48 @nn_48))))))))))))))))))))))))))))))))))))))))))))))))))))))))))))))))))))))))))))))))))))))))))))))))
theorem MemPlays_spec (ws : List (BitVec 64)) (a : Option Addr) (n c : Nat) (l : List Act) (aA : Option Addr) (nA cA : Nat) (w : World) (ha : WordsArg w ws a n c) (hA : ActsArg w l aA nA cA) : Gives Try.prog n_loamlaw13_MemPlays #[.slice a n c, .slice aA nA cA] w (.bool true) := by
  have hn := ha.len
  subst hn
  have hnA := hA.len
  subst hnA
  refine loamlaw13_MemPlays_of ?_
  unfold loamlaw13_MemPlays
  refine loamlaw13_known_call (Gives.to (known13_spec w) fun w1 F1 => ?_)
  simp (disch := (first | omega | decide | (simp only [World.size_alloc, World.size_setCell, World.size_drew, size_sets, List.mem_cons, List.not_mem_nil, or_false, not_false_eq_true] <;> omega) | fail)) only [↓rsMem7_2, rsMem7_1, Option.isNone_some, Option.isNone_none, tick_eq, tickV_eq, ne_eq, Int.reduceAdd, Int.reduceSub, Int.reduceMul, Int.reduceEq, Int.reduceLT, Int.reduceLE, Int.reduceToNat, Nat.reduceMul, Nat.reduceAdd, Nat.reduceSub, List.nil_append, List.cons_append, List.getElem?_toArray, List.getElem?_cons_zero, List.getElem?_cons_succ, List.setIfInBounds_toArray, List.set_cons_zero, List.set_cons_succ, Option.map_some, List.not_mem_nil, ←decide_not, eq_self]
  by_cases h1 : 100 < ws.length
  · simp (disch := (first | omega | decide | (simp only [World.size_alloc, World.size_setCell, World.size_drew, size_sets, List.mem_cons, List.not_mem_nil, or_false, not_false_eq_true] <;> omega) | fail)) only [↓rsMem7_2, rsMem7_1, Option.isNone_some, Option.isNone_none, tick_eq, tickV_eq, ne_eq, Int.reduceAdd, Int.reduceSub, Int.reduceMul, Int.reduceEq, Int.reduceLT, Int.reduceLE, Int.reduceToNat, Nat.reduceMul, Nat.reduceAdd, Nat.reduceSub, List.nil_append, List.cons_append, List.getElem?_toArray, List.getElem?_cons_zero, List.getElem?_cons_succ, List.setIfInBounds_toArray, List.set_cons_zero, List.set_cons_succ, Option.map_some, List.not_mem_nil, ←decide_not, eq_self]
    exact ⟨by trivial, F1⟩
  by_cases h2 : 60 < l.length
  · simp (disch := (first | omega | decide | (simp only [World.size_alloc, World.size_setCell, World.size_drew, size_sets, List.mem_cons, List.not_mem_nil, or_false, not_false_eq_true] <;> omega) | fail)) only [↓rsMem7_2, rsMem7_1, Option.isNone_some, Option.isNone_none, tick_eq, tickV_eq, ne_eq, Int.reduceAdd, Int.reduceSub, Int.reduceMul, Int.reduceEq, Int.reduceLT, Int.reduceLE, Int.reduceToNat, Nat.reduceMul, Nat.reduceAdd, Nat.reduceSub, List.nil_append, List.cons_append, List.getElem?_toArray, List.getElem?_cons_zero, List.getElem?_cons_succ, List.setIfInBounds_toArray, List.set_cons_zero, List.set_cons_succ, Option.map_some, List.not_mem_nil, ←decide_not, eq_self]
    exact ⟨by trivial, F1⟩
  simp (disch := (first | omega | decide | (simp only [World.size_alloc, World.size_setCell, World.size_drew, size_sets, List.mem_cons, List.not_mem_nil, or_false, not_false_eq_true] <;> omega) | fail)) only [↓rsMem7_2, rsMem7_1, Option.isNone_some, Option.isNone_none, tick_eq, tickV_eq, ne_eq, Int.reduceAdd, Int.reduceSub, Int.reduceMul, Int.reduceEq, Int.reduceLT, Int.reduceLE, Int.reduceToNat, Nat.reduceMul, Nat.reduceAdd, Nat.reduceSub, List.nil_append, List.cons_append, List.getElem?_toArray, List.getElem?_cons_zero, List.getElem?_cons_succ, List.setIfInBounds_toArray, List.set_cons_zero, List.set_cons_succ, Option.map_some, List.not_mem_nil, ←decide_not, eq_self]
  refine mem_Of_call (Yld.mono (Of_spec ws a c w1 (by omega) (ha.row.ext0 F1) ha.nil) ?_)
  rintro u w2 ⟨F2, g, am, cm, rfl, M⟩
  simp (disch := (first | omega | decide | (simp only [World.size_alloc, World.size_setCell, World.size_drew, size_sets, List.mem_cons, List.not_mem_nil, or_false, not_false_eq_true] <;> omega) | fail)) only [↓rsMem7_2, rsMem7_1, Option.isNone_some, Option.isNone_none, tick_eq, tickV_eq, ne_eq, Int.reduceAdd, Int.reduceSub, Int.reduceMul, Int.reduceEq, Int.reduceLT, Int.reduceLE, Int.reduceToNat, Nat.reduceMul, Nat.reduceAdd, Nat.reduceSub, List.nil_append, List.cons_append, List.getElem?_toArray, List.getElem?_cons_zero, List.getElem?_cons_succ, List.setIfInBounds_toArray, List.set_cons_zero, List.set_cons_succ, Option.map_some, List.not_mem_nil, ←decide_not, eq_self]
  refine appUn (ha.row.ext0 (F1.trans F2)) ha.nil ha.cap (by omega) fun v3 w3 O3 F3 U3 => ?_
  have z1 := F1.size
  have z2 := F2.size
  have zg := M.lt
  have S0 : MSt w ws.length (ptr g) v3 w3 := ⟨w1.heap.size, g, am, cm, ws, rfl, rfl, M.ext0 F3, O3, F1.trans (F2.trans F3), z1, fun x hx => by have := U3 x hx; omega, fun hw x hx hm => by have := U3 x hx; have := mem_blt M hw x hm; omega, fun hx => by have := U3 _ hx; omega⟩
  refine xLoop_r l.length (fun k vs w' => ∃ p v, vs = [p, v, i64 (k : Int)] ∧ MSt w ws.length p v w') ⟨_, _, rfl, S0⟩ ?_ ?_
  · rintro k hk u v1 ⟨p, v, hu, S⟩ nxt hnx
    simp only [List.map_cons, List.map_nil, List.cons.injEq, and_true] at hu
    rw [hu.1, hu.2.1, hu.2.2]
    exact play_step hA hk (by omega) (by omega) S (fun w' hx => ⟨rfl, hx⟩) (fun p' v' w' h => hnx _ _ ⟨p', v', rfl, h⟩)
  · rintro u v1 ⟨p, v, hu, S⟩ nxt
    simp only [List.map_cons, List.map_nil, List.cons.injEq, and_true] at hu
    rw [hu.1, hu.2.1, hu.2.2]
    unfold loamlaw13_MemPlays_l1
    simp (disch := (first | omega | decide | (simp only [World.size_alloc, World.size_setCell, World.size_drew, size_sets, List.mem_cons, List.not_mem_nil, or_false, not_false_eq_true] <;> omega) | fail)) only [↓rsMem7_2, rsMem7_1, Option.isNone_some, Option.isNone_none, tick_eq, tickV_eq, ne_eq, Int.reduceAdd, Int.reduceSub, Int.reduceMul, Int.reduceEq, Int.reduceLT, Int.reduceLE, Int.reduceToNat, Nat.reduceMul, Nat.reduceAdd, Nat.reduceSub, List.nil_append, List.cons_append, List.getElem?_toArray, List.getElem?_cons_zero, List.getElem?_cons_succ, List.setIfInBounds_toArray, List.set_cons_zero, List.set_cons_succ, Option.map_some, List.not_mem_nil, ←decide_not, eq_self]
    obtain ⟨_, _, _, _, _, _, _, _, _, X, _⟩ := S
    exact ⟨by trivial, X⟩
end Go.Proofs.Ytlijgnekpggejaa
