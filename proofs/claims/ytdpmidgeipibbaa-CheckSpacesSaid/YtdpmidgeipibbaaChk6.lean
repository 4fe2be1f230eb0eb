/- The document's findings in words that should be objects (sq). -/
import Derived.Test.YtdpmidgeipibbaaChk5
import Derived.Test.YtdpmidgeipibbaaObjX
set_option linter.unusedVariables false
set_option linter.unusedSimpArgs false
set_option maxHeartbeats 4000000
namespace Go.Proofs.Ytdpmidgeipibbaa
open Go.Sh Go.RowKit

theorem bdF (i : Int) (s : ByteArray) (w : World) (K : K1) : xBuild Try.prog 105 [(0, .int .i64 i), (1, .string s)] w K = K (.agg #[.int .i64 i, .string s]) w := xBuild_ok (by kernel_rfl)
def badI : Option Nat → Int
  | none => -1
  | some o => o
abbrev rsChk6_0 := (And.intro @xBox_r (And.intro @loadK_some (And.intro @loadsK_s (And.intro @loadsK_n (And.intro @loadsR_s (And.intro @loadsR_n (And.intro @storesK_s (And.intro @storesK_n (And.intro @xPick_t (And.intro @xPick_f (And.intro @xGuard_tt (And.intro @xGuard_ff (And.intro @xGuard_tf (And.intro @xGuard_ft (And.intro @xGuard_u 
  (And.intro @xNil_r (And.intro @xIf_t (And.intro @xBin_add' (And.intro @xBin_sub' (And.intro @xBin_mul' (And.intro @xBin_quo' (And.intro @xBin_rem' (And.intro @xIf_f (And.intro @xIf_tt (And.intro @xEx0 (And.intro @xEx1 (And.intro @xEx2 (And.intro @xEx3 (And.intro @xBin_eqs (And.intro @xBin_nes (And.intro @xUn_not (And.intro @xu8_add (And.intro @xu8_sub 
  (And.intro @xu8_neq (And.intro @xu8_lss (And.intro @xu8_gtr (And.intro @xu16_add (And.intro @xu16_sub (And.intro @xu16_neq (And.intro @xu16_lss (And.intro @xu16_gtr (And.intro @xu32_add (And.intro @xu32_sub (And.intro @xu32_neq (And.intro @xu32_lss (And.intro @xu32_gtr (And.intro @xu64_add (And.intro @xu64_sub (And.intro @xu64_neq (And.intro @xu64_lss 
  (And.intro @xu64_gtr (And.intro @xi64_lss (And.intro @xi64_gtr (And.intro @xi64_neq (And.intro @xi64_neg (And.intro @xMakeFunc_r (And.intro @xSq_r (And.intro @xPur_s (And.intro @xRd_s (And.intro @xRe_s (And.intro @xDet_s (And.intro @xDet_ld (And.intro @xDet_ld2 (And.intro @xDet_ld3 (And.intro @xDet_ld4 (And.intro @xGuard_tt (And.intro @ld_4 (And.intro @ld_69 
  (And.intro @ld_84 (And.intro @fa_84_2 (And.intro @al_84 (And.intro @st_84 (And.intro @ia_28 (And.intro @bs_66_0 @bs_66_1))))))))))))))))))))))))))))))))))))))))))))))))))))))))))))))))))))))))))
abbrev rsChk6_1 := (And.intro @setCells_c (And.intro @setCells_n (And.intro @World.setCell_alloc_at (And.intro @World.setCell_alloc_past (And.intro @World.cell?_alloc_at (And.intro @World.cell?_alloc_past (And.intro @World.frozen?_alloc_at (And.intro @World.frozen?_alloc_past 
  (And.intro @World.size_alloc (And.intro @dlt_t (And.intro @dlt_f (And.intro @dle_t (And.intro @dle_f (And.intro @deq_t (And.intro @deq_f (And.intro @dne_t (And.intro @dne_f (And.intro @not_true_eq_false (And.intro @Bool.false_and (And.intro @Bool.true_and (And.intro @Bool.and_true (And.intro @Bool.and_false (And.intro @wrap_in (And.intro @Int.toNat_natCast 
  (And.intro @Nat.mul_one (And.intro @cells_int (And.intro @cells_bool (And.intro @cells_string (And.intro @cells_slice (And.intro @cells_pointer (And.intro @cells_agg (And.intro @one_int (And.intro @one_bool (And.intro @one_string (And.intro @one_slice (And.intro @one_pointer (And.intro @beq_tt (And.intro @beq_ff (And.intro @beq_tf 
  (And.intro @beq_ft (And.intro @cell_sets_b (And.intro @frozen_sets (And.intro @size_sets (And.intro @World.size_drew (And.intro @Nat.zero_add (And.intro @Nat.add_zero (And.intro @cell_drew (And.intro @frozen_drew (And.intro @cell_set_eq (And.intro @cell_set_o (And.intro @cell_set_b (And.intro @World.frozen?_setCell 
  (And.intro @decide_true (And.intro @decide_false (And.intro @not_false_eq_true (And.intro @Bool.not_true @Bool.not_false))))))))))))))))))))))))))))))))))))))))))))))))))))))))
theorem rFound_spec (ws : List (BitVec 64)) (a : Option Addr) (c b t : Nat) (w : World) (h : RowAt w a (wrds ws)) (hl : ws.length ≤ 8192) (hb : b ≤ t) (ht : t ≤ ws.length) :
    Yld Try.prog n_loamref17_Found #[.slice a ws.length c, i64 (b : Int), i64 (t : Int)] w fun u w' => ∃ l bad a2 c2, Sc (wat ws) t b l bad ∧ u = .tuple #[.slice a2 l.length c2, i64 (badI bad)] ∧ RowAt w' a2 (nums l) ∧ Ext [] w w' := by
  obtain ⟨l, bad, hS⟩ := Sc.ex (wat ws) t (t - b) b (by omega) hb
  have hall : ∀ (v : Value) (w' : World), NewI w w' v l → ∃ a2 c2, v = .slice a2 l.length c2 ∧ RowAt w' a2 (nums l) ∧ Ext [] w w' := by
    intro v w' N
    obtain ⟨a2, c2, rfl, _, _, _, hr2, _⟩ := N.2.1.slice
    exact ⟨a2, c2, rfl, hr2, N.1⟩
  refine loamref17_Found_of ?_
  unfold loamref17_Found
  refine xLoop_r (t - b + 1) (fun j vs w' => ∃ (out : Value) (o : Nat) (p lr : List Nat), vs = [out, i64 (o : Int)] ∧ b + j ≤ o ∧ o ≤ t ∧ l = p ++ lr ∧ Sc (wat ws) t o lr bad ∧ NewI w w' out p) ⟨_, b, [], l, rfl, Nat.le_refl _, hb, rfl, hS, NewR.nil (Ext.refl _ _)⟩ ?_ ?_
  rotate_left
  · rintro u v1 ⟨out, o, p, lr, hu, h1, h2, _⟩ nxt
    omega
  rintro j hj u v1 ⟨out, o, p, lr, hu, h1, h2, hlp, hSc, N⟩ nxt hnx
  simp only [List.map_cons, List.map_nil, List.cons.injEq, and_true] at hu
  rw [hu.1, hu.2]
  have hpl : p.length ≤ 8192 := by have := hS.count; rw [hlp, List.length_append] at this; omega
  unfold loamref17_Found_l1
  by_cases ho : o < t
  rotate_left
  · have e1 : o = t := by omega
    subst e1
    obtain ⟨rfl, rfl⟩ := hSc.uniq .done
    rw [List.append_nil] at hlp
    subst hlp
    obtain ⟨a2, c2, rfl, hr2, X2⟩ := hall _ _ N
    simp (disch := (first | omega | decide | (simp only [World.size_alloc, World.size_setCell, World.size_drew, size_sets, List.mem_cons, List.not_mem_nil, or_false, not_false_eq_true] <;> omega) | fail)) only [↓rsChk6_0, rsChk6_1, Option.isNone_some, Option.isNone_none, tick_eq, tickV_eq, ne_eq, Int.reduceAdd, Int.reduceSub, Int.reduceMul, Int.reduceEq, Int.reduceLT, Int.reduceLE, Int.reduceToNat, Nat.reduceMul, Nat.reduceAdd, Nat.reduceSub, List.nil_append, List.cons_append, List.getElem?_toArray, List.getElem?_cons_zero, List.getElem?_cons_succ, List.setIfInBounds_toArray, List.set_cons_zero, List.set_cons_succ, Option.map_some, List.not_mem_nil, ←decide_not, eq_self]
    exact ⟨l, none, a2, c2, hS, by trivial, hr2, X2⟩
  obtain ⟨b1, o1, rfl, z1, k1⟩ := row_w (h.ext0 N.1) (i := o) (by omega)
  simp (disch := (first | omega | decide | (simp only [World.size_alloc, World.size_setCell, World.size_drew, size_sets, List.mem_cons, List.not_mem_nil, or_false, not_false_eq_true] <;> omega) | fail)) only [↓rsChk6_0, rsChk6_1, Option.isNone_some, Option.isNone_none, tick_eq, tickV_eq, ne_eq, Int.reduceAdd, Int.reduceSub, Int.reduceMul, Int.reduceEq, Int.reduceLT, Int.reduceLE, Int.reduceToNat, Nat.reduceMul, Nat.reduceAdd, Nat.reduceSub, List.nil_append, List.cons_append, List.getElem?_toArray, List.getElem?_cons_zero, List.getElem?_cons_succ, List.setIfInBounds_toArray, List.set_cons_zero, List.set_cons_succ, Option.map_some, List.not_mem_nil, ←decide_not, k1]
  have hun := rUnpack_spec (wat ws o) v1
  have stop : ∀ w' : World, Ext [] v1 w' → ¬ (okW (wat ws o) ∧ o + szW (wat ws o) ≤ t) → ∃ l bad a2 c2, Sc (wat ws) t b l bad ∧ Value.tuple #[out, i64 (o : Int)] = .tuple #[.slice a2 l.length c2, i64 (badI bad)] ∧ RowAt w' a2 (nums l) ∧ Ext [] w w' := by
    intro w' F hn
    obtain ⟨rfl, rfl⟩ := hSc.uniq (.bad ho hn)
    rw [List.append_nil] at hlp
    subst hlp
    obtain ⟨a2, c2, rfl, hr2, X2⟩ := hall _ _ (N.ext F)
    exact ⟨l, some o, a2, c2, hS, rfl, hr2, X2⟩
  by_cases hok : okW (wat ws o)
  · obtain ⟨v1', v2', v3', v4', v5', v6', v7', v8'⟩ := okW_v hok
    rw [v1', v2', v3', v4', v5'] at hun
    have hsz : ∀ w, Gives Try.prog n_loamref14_Size #[hd (pN (wat ws o)) (bN (wat ws o)) false 0] w (i64 (szW (wat ws o) : Int)) := fun w => by
      have := rSizeW_spec hok w
      rw [v1', v2', v4'] at this
      exact this
    refine loamref14_Unpack_call (Gives.to hun fun w2 F2 => ?_)
    simp (disch := (first | omega | decide | (simp only [World.size_alloc, World.size_setCell, World.size_drew, size_sets, List.mem_cons, List.not_mem_nil, or_false, not_false_eq_true] <;> omega) | fail)) only [↓rsChk6_0, rsChk6_1, Option.isNone_some, Option.isNone_none, tick_eq, tickV_eq, ne_eq, Int.reduceAdd, Int.reduceSub, Int.reduceMul, Int.reduceEq, Int.reduceLT, Int.reduceLE, Int.reduceToNat, Nat.reduceMul, Nat.reduceAdd, Nat.reduceSub, List.nil_append, List.cons_append, List.getElem?_toArray, List.getElem?_cons_zero, List.getElem?_cons_succ, List.setIfInBounds_toArray, List.set_cons_zero, List.set_cons_succ, Option.map_some, List.not_mem_nil, ←decide_not, k1]
    have B : Blk (w2.alloc (.cells #[i64 (pN (wat ws o)), i64 (bN (wat ws o)), .bool false, i64 0] 84)) w2.heap.size 84 [i64 (pN (wat ws o)), i64 (bN (wat ws o)), .bool false, i64 0] := Blk.at rfl
    have X2 : Ext [] w2 (w2.alloc (.cells #[i64 (pN (wat ws o)), i64 (bN (wat ws o)), .bool false, i64 0] 84)) := Ext.alloc _ _ _
    refine loamref14_Size_call (Gives.to (hsz _) fun w3 F3 => ?_)
    have B3 := B.ext F3 (by simp)
    have X3 := F2.trans (X2.trans F3)
    have N3 := N.ext X3
    have zo := N.2.1.lt
    have z2 := F2.size
    by_cases hs : o + szW (wat ws o) ≤ t
    · obtain ⟨lr', rfl, h5⟩ := hSc.step_inv ho hok hs
      simp (disch := (first | omega | decide | (simp only [World.size_alloc, World.size_setCell, World.size_drew, size_sets, List.mem_cons, List.not_mem_nil, or_false, not_false_eq_true] <;> omega) | fail)) only [↓rsChk6_0, rsChk6_1, Option.isNone_some, Option.isNone_none, tick_eq, tickV_eq, ne_eq, Int.reduceAdd, Int.reduceSub, Int.reduceMul, Int.reduceEq, Int.reduceLT, Int.reduceLE, Int.reduceToNat, Nat.reduceMul, Nat.reduceAdd, Nat.reduceSub, List.nil_append, List.cons_append, List.getElem?_toArray, List.getElem?_cons_zero, List.getElem?_cons_succ, List.setIfInBounds_toArray, List.set_cons_zero, List.set_cons_succ, Option.map_some, List.not_mem_nil, ←decide_not, k1]
      refine appIl N3.2.1 rfl (by omega) fun v' w4 O4 F4 => ?_
      have B4 := B3.ext F4.ext (fun hm => by have := zo _ hm; omega)
      have k4 := fun i => B4.cell (i := i)
      simp (disch := (first | omega | decide | (simp only [World.size_alloc, World.size_setCell, World.size_drew, size_sets, List.mem_cons, List.not_mem_nil, or_false, not_false_eq_true] <;> omega) | fail)) only [↓rsChk6_0, rsChk6_1, Option.isNone_some, Option.isNone_none, tick_eq, tickV_eq, ne_eq, Int.reduceAdd, Int.reduceSub, Int.reduceMul, Int.reduceEq, Int.reduceLT, Int.reduceLE, Int.reduceToNat, Nat.reduceMul, Nat.reduceAdd, Nat.reduceSub, List.nil_append, List.cons_append, List.getElem?_toArray, List.getElem?_cons_zero, List.getElem?_cons_succ, List.setIfInBounds_toArray, List.set_cons_zero, List.set_cons_succ, Option.map_some, List.not_mem_nil, ←decide_not, k1, k4]
      refine loamref14_Size_call (Gives.to (hsz _) fun w5 F5 => ?_)
      simp (disch := (first | omega | decide | (simp only [World.size_alloc, World.size_setCell, World.size_drew, size_sets, List.mem_cons, List.not_mem_nil, or_false, not_false_eq_true] <;> omega) | fail)) only [↓rsChk6_0, rsChk6_1, Option.isNone_some, Option.isNone_none, tick_eq, tickV_eq, ne_eq, Int.reduceAdd, Int.reduceSub, Int.reduceMul, Int.reduceEq, Int.reduceLT, Int.reduceLE, Int.reduceToNat, Nat.reduceMul, Nat.reduceAdd, Nat.reduceSub, List.nil_append, List.cons_append, List.getElem?_toArray, List.getElem?_cons_zero, List.getElem?_cons_succ, List.setIfInBounds_toArray, List.set_cons_zero, List.set_cons_succ, Option.map_some, List.not_mem_nil, ←decide_not, k1, k4]
      have e6 : (o : Int) + (szW (wat ws o) : Int) = ((o + szW (wat ws o) : Nat) : Int) := by omega
      rw [e6]
      have hpos := szW_pos (x := wat ws o)
      exact hnx _ _ ⟨v', o + szW (wat ws o), p ++ [o], lr', rfl, by omega, hs, by rw [hlp]; simp, h5, (N3.app O4 F4).ext F5⟩
    · simp (disch := (first | omega | decide | (simp only [World.size_alloc, World.size_setCell, World.size_drew, size_sets, List.mem_cons, List.not_mem_nil, or_false, not_false_eq_true] <;> omega) | fail)) only [↓rsChk6_0, rsChk6_1, Option.isNone_some, Option.isNone_none, tick_eq, tickV_eq, ne_eq, Int.reduceAdd, Int.reduceSub, Int.reduceMul, Int.reduceEq, Int.reduceLT, Int.reduceLE, Int.reduceToNat, Nat.reduceMul, Nat.reduceAdd, Nat.reduceSub, List.nil_append, List.cons_append, List.getElem?_toArray, List.getElem?_cons_zero, List.getElem?_cons_succ, List.setIfInBounds_toArray, List.set_cons_zero, List.set_cons_succ, Option.map_some, List.not_mem_nil, ←decide_not, k1]
      exact stop _ X3 (fun h => hs h.2)
  · by_cases he : unErr (wat ws o) = 0
    · rw [he, okW_not hok he] at hun
      refine loamref14_Unpack_call (Gives.to hun fun w2 F2 => ?_)
      simp (disch := (first | omega | decide | (simp only [World.size_alloc, World.size_setCell, World.size_drew, size_sets, List.mem_cons, List.not_mem_nil, or_false, not_false_eq_true] <;> omega) | fail)) only [↓rsChk6_0, rsChk6_1, Option.isNone_some, Option.isNone_none, tick_eq, tickV_eq, ne_eq, Int.reduceAdd, Int.reduceSub, Int.reduceMul, Int.reduceEq, Int.reduceLT, Int.reduceLE, Int.reduceToNat, Nat.reduceMul, Nat.reduceAdd, Nat.reduceSub, List.nil_append, List.cons_append, List.getElem?_toArray, List.getElem?_cons_zero, List.getElem?_cons_succ, List.setIfInBounds_toArray, List.set_cons_zero, List.set_cons_succ, Option.map_some, List.not_mem_nil, ←decide_not, k1]
      exact stop _ (F2.trans (Ext.alloc _ _ _)) (fun h => hok h.1)
    · refine loamref14_Unpack_call (Gives.to hun fun w2 F2 => ?_)
      simp (disch := (first | omega | decide | (simp only [World.size_alloc, World.size_setCell, World.size_drew, size_sets, List.mem_cons, List.not_mem_nil, or_false, not_false_eq_true] <;> omega) | fail)) only [↓rsChk6_0, rsChk6_1, Option.isNone_some, Option.isNone_none, tick_eq, tickV_eq, ne_eq, Int.reduceAdd, Int.reduceSub, Int.reduceMul, Int.reduceEq, Int.reduceLT, Int.reduceLE, Int.reduceToNat, Nat.reduceMul, Nat.reduceAdd, Nat.reduceSub, List.nil_append, List.cons_append, List.getElem?_toArray, List.getElem?_cons_zero, List.getElem?_cons_succ, List.setIfInBounds_toArray, List.set_cons_zero, List.set_cons_succ, Option.map_some, List.not_mem_nil, ←decide_not, k1]
      exact stop _ (F2.trans (Ext.alloc _ _ _)) (fun h => hok h.1)
abbrev NewFr (w w' : World) (v : Value) (F : List Fnd) : Prop := NewR 105 2 w w' v F.length (F.flatMap fC)
theorem appFr {w w0 : World} {K : K1} {v : Value} {F : List Fnd} {f : Fnd} {g : Nat} {cs : List Value} (N : NewFr w0 w v F) (hcs : cs = fC f) (hl : F.length ≤ 1000000)
    (hK : ∀ v' w', NewFr w0 w' v' (F ++ [f]) → Stp (blk v) (blk v') w w' → K v' w') (hg : g = w.heap.size := by first | rfl | (simp only [World.size_alloc, World.size_drew, World.size_setCell] <;> omega)) : xBuiltin Try.prog .append #[49, 49] 49 [false, false] [v, .slice (some ⟨g, 0, none⟩) 1 1] (w.alloc (.cells cs.toArray 105)) K := by
  subst hcs hg
  refine xAppL (s := 2) (n := F.length) (m := 1) (xs := F.flatMap fC) (news := fC f) (bytes := 24) (z := .agg #[.int .i64 0, .string ⟨#[]⟩]) (by kernel_rfl) (by kernel_rfl) (by rfl) (by decide) N.2.1 (by rfl) (by simp [fC, Value.oneCell']) (by omega) (by omega) fun v' w' h1 h2 => hK v' w' ?_ h2
  have h3 := N.app h1 h2
  show NewR 105 2 w0 w' v' (F ++ [f]).length ((F ++ [f]).flatMap fC)
  rw [List.length_append, List.flatMap_append]
  simpa using h3
abbrev rsChk6_2 := (And.intro @xBox_r (And.intro @loadK_some (And.intro @loadsK_s (And.intro @loadsK_n (And.intro @loadsR_s (And.intro @loadsR_n (And.intro @storesK_s (And.intro @storesK_n (And.intro @xPick_t (And.intro @xPick_f (And.intro @xGuard_tt (And.intro @xGuard_ff (And.intro @xGuard_tf (And.intro @xGuard_ft (And.intro @xGuard_u 
  (And.intro @xNil_r (And.intro @xIf_t (And.intro @xBin_add' (And.intro @xBin_sub' (And.intro @xBin_mul' (And.intro @xBin_quo' (And.intro @xBin_rem' (And.intro @xIf_f (And.intro @xIf_tt (And.intro @xEx0 (And.intro @xEx1 (And.intro @xEx2 (And.intro @xEx3 (And.intro @xBin_eqs (And.intro @xBin_nes (And.intro @xUn_not (And.intro @xu8_add (And.intro @xu8_sub 
  (And.intro @xu8_com (And.intro @xu8_lss (And.intro @xu8_geq (And.intro @xu16_add (And.intro @xu16_sub (And.intro @xu16_com (And.intro @xu16_lss (And.intro @xu16_geq (And.intro @xu32_add (And.intro @xu32_sub (And.intro @xu32_com (And.intro @xu32_lss (And.intro @xu32_geq (And.intro @xu64_add (And.intro @xu64_sub (And.intro @xu64_com (And.intro @xu64_lss 
  (And.intro @xu64_geq (And.intro @xi64_lss (And.intro @xi64_geq (And.intro @xMakeFunc_r (And.intro @xSq_r (And.intro @xPur_s (And.intro @xRd_s (And.intro @xRe_s (And.intro @xDet_s (And.intro @xDet_ld (And.intro @xDet_ld2 (And.intro @xDet_ld3 (And.intro @xDet_ld4 (And.intro @xGuard_tt (And.intro @ld_3 (And.intro @ld_69 (And.intro @ld_84 (And.intro @fa_84_0 
  (And.intro @al_84 (And.intro @st_84 (And.intro @bd_46_0_1_2_3 (And.intro @ia_28 (And.intro @ia_66 (And.intro @ln_66 @bs_49_1))))))))))))))))))))))))))))))))))))))))))))))))))))))))))))))))))))))))))
theorem rSpaceF_spec (ws : List (BitVec 64)) (a : Option Addr) (c b t : Nat) (w : World) (h : RowAt w a (wrds ws)) (hc : ws.length ≤ c) (hn : a = none → c = 0) (hl : ws.length ≤ 8192) (hb : b ≤ t) (ht : t ≤ ws.length) :
    Yld Try.prog n_loamref17_Space #[.slice a ws.length c, i64 (b : Int), i64 (t : Int)] w fun u w' => ∃ l bad, Sc (wat ws) t b l bad ∧ FndR w w' u (allF (wat ws) l bad) := by
  refine loamref17_Space_of ?_
  unfold loamref17_Space
  refine loamref17_Found_call (Yld.mono (rFound_spec ws a c b t w h hl hb ht) ?_)
  rintro u w1 ⟨l, bad, a2, c2, hS, rfl, R1, F1⟩
  have hcount := hS.count
  obtain ⟨hsort, hall⟩ := hS.all
  have hlb : ∀ y ∈ l, y < 8192 := fun y hy => by
    have := hall y hy
    have := szW_pos (x := wat ws y)
    omega
  have hR1 := h.ext0 F1
  have hax : ∀ x, ws ≠ [] → x ∈ blkOf a → x < w1.heap.size := fun x hw hx => by
    rcases hR1.get (by simpa using hw) with ⟨b5, o5, rfl, hb5, _⟩
    simp only [blkOf, List.mem_singleton] at hx
    omega
  have lbad : (badF bad).length ≤ 1 := by cases bad <;> simp [badF]
  have j3 : ∀ (v : Value) (w2 : World), NewFr w1 w2 v (badF bad) → loamref17_Space_j3 (fun u w' => ∃ l bad, Sc (wat ws) t b l bad ∧ FndR w w' u (allF (wat ws) l bad)) (.slice a ws.length c) (i64 (b : Int)) (i64 (t : Int)) v (.slice a2 l.length c2) w2 := by
    intro v w2 N2
    unfold loamref17_Space_j3
    have hr2 := hR1.ext0 N2.1
    have Rf : RfIs (w2.alloc (.cells #[.slice a ws.length c, i64 (b : Int), i64 (t : Int), i64 (t : Int)] 46)) w2.heap.size a c ws b t t := by
      refine ⟨Blk.at rfl, hr2.ext0 (Ext.alloc _ _ _), hc, hn, ?_, by omega, by omega, by omega, by omega⟩
      intro hl2 hm2
      have := hax _ hl2 hm2
      have := N2.1.size
      omega
    have X3 : Ext [] w2 (w2.alloc (.cells #[.slice a ws.length c, i64 (b : Int), i64 (t : Int), i64 (t : Int)] 46)) := Ext.alloc _ _ _
    have zN := N2.2.1.lt
    simp (disch := (first | omega | decide | (simp only [World.size_alloc, World.size_setCell, World.size_drew, size_sets, List.mem_cons, List.not_mem_nil, or_false, not_false_eq_true] <;> omega) | fail)) only [↓rsChk6_2, rsChk6_1, Option.isNone_some, Option.isNone_none, tick_eq, tickV_eq, ne_eq, Int.reduceAdd, Int.reduceSub, Int.reduceMul, Int.reduceEq, Int.reduceLT, Int.reduceLE, Int.reduceToNat, Nat.reduceMul, Nat.reduceAdd, Nat.reduceSub, List.nil_append, List.cons_append, List.getElem?_toArray, List.getElem?_cons_zero, List.getElem?_cons_succ, List.setIfInBounds_toArray, List.set_cons_zero, List.set_cons_succ, Option.map_some, List.not_mem_nil, ←decide_not, eq_self]
    generalize hm : w2.heap.size = m at *
    generalize w2.alloc (.cells #[.slice a ws.length c, i64 (b : Int), i64 (t : Int), i64 (t : Int)] 46) = y at *
    have Ny := N2.ext X3
    have hmv : m ∉ blk v := fun h => by have := zN m h; omega
    have nextR : ∀ {v v' : Value} {w3 w4 : World} {F : List Fnd}, RfIs w3 m a c ws b t t → NewFr w1 w3 v F → m ∉ blk v → Stp (blk v) (blk v') w3 w4 → RfIs w4 m a c ws b t t ∧ m ∉ blk v' := by
      intro v v' w3 w4 F R N hv T
      refine ⟨R.ext T.ext hv (fun hw x hx hm2 => ?_), fun h => ?_⟩
      · have := hax x hw hx
        have := N.2.2 x hm2
        omega
      · rcases T.at' m h with h1 | h1
        · exact hv h1
        · have := R.blk.lt
          omega
    refine xLoop_r l.length (fun j vs w' => ∃ v, vs = [v, i64 (j : Int)] ∧ NewFr w1 w' v (badF bad ++ (l.take j).flatMap (objF (wat ws) l)) ∧ RfIs w' m a c ws b t t ∧ m ∉ blk v) ⟨v, rfl, by simpa using Ny, Rf, hmv⟩ ?_ ?_
    rotate_left
    · rintro u w3 ⟨v3, hu, N3, R3, hv3⟩ nxt
      simp only [List.map_cons, List.map_nil, List.cons.injEq, and_true] at hu
      rw [hu.1, hu.2]
      rw [List.take_length] at N3
      obtain ⟨a4, c4, rfl, hc4, _, hn4, hr4, _⟩ := N3.2.1.slice
      unfold loamref17_Space_l3
      simp (disch := (first | omega | decide | (simp only [World.size_alloc, World.size_setCell, World.size_drew, size_sets, List.mem_cons, List.not_mem_nil, or_false, not_false_eq_true] <;> omega) | fail)) only [↓rsChk6_2, rsChk6_1, Option.isNone_some, Option.isNone_none, tick_eq, tickV_eq, ne_eq, Int.reduceAdd, Int.reduceSub, Int.reduceMul, Int.reduceEq, Int.reduceLT, Int.reduceLE, Int.reduceToNat, Nat.reduceMul, Nat.reduceAdd, Nat.reduceSub, List.nil_append, List.cons_append, List.getElem?_toArray, List.getElem?_cons_zero, List.getElem?_cons_succ, List.setIfInBounds_toArray, List.set_cons_zero, List.set_cons_succ, Option.map_some, List.not_mem_nil, ←decide_not, eq_self]
      exact ⟨l, bad, hS, F1.trans N3.1, a4, c4, rfl, hc4, hn4, hr4⟩
    rintro j hj u w3 ⟨v3, hu, N3, R3, hv3⟩ nxt hnx
    simp only [List.map_cons, List.map_nil, List.cons.injEq, and_true] at hu
    rw [hu.1, hu.2]
    have hm3 := List.getElem_mem hj
    obtain ⟨g1, hok, g3⟩ := hall _ hm3
    have hsucc : badF bad ++ (l.take (j + 1)).flatMap (objF (wat ws) l) = (badF bad ++ (l.take j).flatMap (objF (wat ws) l)) ++ objF (wat ws) l l[j] := by
      rw [List.take_add_one, List.getElem?_eq_getElem hj, List.flatMap_append, List.append_assoc]
      simp
    have hfl : (badF bad ++ (l.take j).flatMap (objF (wat ws) l)).length ≤ 100000 := by
      have h1 := hS.fnd l j
      rw [List.length_append]
      omega
    have hne : l ≠ [] := fun h => by subst h; simp at hj
    obtain ⟨bL, oL, rfl, zL, kL⟩ := (R1.get (by simpa using hne))
    have kl : ∀ {w' : World}, Ext [] w1 w' → w'.cell? ⟨bL, oL + j, none⟩ = some (i64 (l[j] : Int)) := fun {w'} F' => by
      obtain ⟨b5, o5, h5, z5, k5⟩ := (R1.ext0 F').at (i := j) (by simpa using hj)
      cases h5
      simpa only [List.getElem_map] using k5
    obtain ⟨v1', v2', v3', v4', v5', v6', v7', v8'⟩ := okW_v hok
    have hO : ObjAt ws b t l[j] := ⟨g1, hok, g3⟩
    generalize badF bad ++ (l.take j).flatMap (objF (wat ws) l) = F0 at *
    generalize l[j] = o at *
    have hot := hO.lt
    obtain ⟨b1, o1, ha1, z1, k1⟩ := row_w (hR1.ext0 N3.1) (i := o) (by omega)
    have kl3 := kl N3.1
    have hun := rUnpack_spec (wat ws o) w3
    rw [v1', v2', v3', v4', v5'] at hun
    have hsz : ∀ w, Gives Try.prog n_loamref14_Size #[hd (pN (wat ws o)) (bN (wat ws o)) false 0] w (i64 (szW (wat ws o) : Int)) := fun w => by
      have := rSizeW_spec hok w
      rw [v1', v2', v4'] at this
      exact this
    have hpl := ptrF_len (wat ws) l o
    unfold loamref17_Space_l3
    simp (disch := (first | omega | decide | (simp only [World.size_alloc, World.size_setCell, World.size_drew, size_sets, List.mem_cons, List.not_mem_nil, or_false, not_false_eq_true] <;> omega) | fail)) only [↓rsChk6_2, rsChk6_1, Option.isNone_some, Option.isNone_none, tick_eq, tickV_eq, ne_eq, Int.reduceAdd, Int.reduceSub, Int.reduceMul, Int.reduceEq, Int.reduceLT, Int.reduceLE, Int.reduceToNat, Nat.reduceMul, Nat.reduceAdd, Nat.reduceSub, List.nil_append, List.cons_append, List.getElem?_toArray, List.getElem?_cons_zero, List.getElem?_cons_succ, List.setIfInBounds_toArray, List.set_cons_zero, List.set_cons_succ, Option.map_some, List.not_mem_nil, ←decide_not, kl3, ha1, k1]
    refine loamref14_Unpack_call (Gives.to hun fun w4 F4 => ?_)
    simp (disch := (first | omega | decide | (simp only [World.size_alloc, World.size_setCell, World.size_drew, size_sets, List.mem_cons, List.not_mem_nil, or_false, not_false_eq_true] <;> omega) | fail)) only [↓rsChk6_2, rsChk6_1, Option.isNone_some, Option.isNone_none, tick_eq, tickV_eq, ne_eq, Int.reduceAdd, Int.reduceSub, Int.reduceMul, Int.reduceEq, Int.reduceLT, Int.reduceLE, Int.reduceToNat, Nat.reduceMul, Nat.reduceAdd, Nat.reduceSub, List.nil_append, List.cons_append, List.getElem?_toArray, List.getElem?_cons_zero, List.getElem?_cons_succ, List.setIfInBounds_toArray, List.set_cons_zero, List.set_cons_succ, Option.map_some, List.not_mem_nil, ←decide_not, kl3, ha1, k1]
    have B : Blk (w4.alloc (.cells #[i64 (pN (wat ws o)), i64 (bN (wat ws o)), .bool false, i64 0] 84)) w4.heap.size 84 [i64 (pN (wat ws o)), i64 (bN (wat ws o)), .bool false, i64 0] := Blk.at rfl
    have X4 : Ext [] w4 (w4.alloc (.cells #[i64 (pN (wat ws o)), i64 (bN (wat ws o)), .bool false, i64 0] 84)) := Ext.alloc _ _ _
    have N4 := N3.ext (F4.trans X4)
    have R4 := (R3.ext0 F4).ext0 X4
    have z3 := N3.2.1.lt
    have z4 := F4.size
    have hb4 : w4.heap.size ∉ blk v3 := fun h => by have := z3 _ h; omega
    generalize hh : w4.heap.size = hd4 at *
    generalize w4.alloc (.cells #[i64 (pN (wat ws o)), i64 (bN (wat ws o)), .bool false, i64 0] 84) = y4 at *
    refine xLoop_r (pN (wat ws o)) (fun i vs w' => ∃ v, vs = [v, i64 (i : Int)] ∧ NewFr w1 w' v (F0 ++ ptrF (wat ws) l o i) ∧ RfIs w' m a c ws b t t ∧ m ∉ blk v ∧ Blk w' hd4 84 [i64 (pN (wat ws o)), i64 (bN (wat ws o)), .bool false, i64 0] ∧ hd4 ∉ blk v) ⟨v3, rfl, by simpa [ptrF] using N4, R4, hv3, B, hb4⟩ ?_ ?_
    · rintro i hi u w5 ⟨v5, hu, N5, R5, hv5, B5, hb5⟩ nxt2 hnx2
      simp only [List.map_cons, List.map_nil, List.cons.injEq, and_true] at hu
      rw [hu.1, hu.2]
      have k5 := fun i => B5.cell (i := i)
      have kl5 := kl N5.1
      obtain ⟨b6, o6, ha6, z6, k6⟩ := row_w (hR1.ext0 N5.1) (i := o + 1 + i) (by omega)
      rw [ha1] at ha6
      cases ha6
      have t1 : ((o : Int) + 1 + (i : Int)).toNat = o + 1 + i := by omega
      have e2 : (o : Int) + 1 + (i : Int) = ((o + 1 + i : Nat) : Int) := by omega
      have hpi := hpl i
      have hs : ptrF (wat ws) l o (i + 1) = ptrF (wat ws) l o i ++ (if PtrOk l (wat ws (o + 1 + i)).toNat then [] else [(o + 1 + i, sPtr)]) := rfl
      unfold loamref17_Space_l4
      simp (disch := (first | omega | decide | (simp only [World.size_alloc, World.size_setCell, World.size_drew, size_sets, List.mem_cons, List.not_mem_nil, or_false, not_false_eq_true] <;> omega) | fail)) only [↓rsChk6_2, rsChk6_1, Option.isNone_some, Option.isNone_none, tick_eq, tickV_eq, ne_eq, Int.reduceAdd, Int.reduceSub, Int.reduceMul, Int.reduceEq, Int.reduceLT, Int.reduceLE, Int.reduceToNat, Nat.reduceMul, Nat.reduceAdd, Nat.reduceSub, List.nil_append, List.cons_append, List.getElem?_toArray, List.getElem?_cons_zero, List.getElem?_cons_succ, List.setIfInBounds_toArray, List.set_cons_zero, List.set_cons_succ, Option.map_some, List.not_mem_nil, ←decide_not, kl3, ha1, k1, k5, kl5, t1, k6]
      refine loamref14_Points_call (Gives.to (rPoints_spec (R1.ext0 N5.1) (by omega) hlb _) fun w6 F6 => ?_)
      have N6 := N5.ext F6
      have R6 := R5.ext0 F6
      have B6 := B5.ext F6 (by simp)
      have kl6 := kl N6.1
      by_cases hp : PtrOk l (wat ws (o + 1 + i)).toNat
      · rw [decide_eq_true hp]
        rw [if_pos hp, List.append_nil] at hs
        unfold loamref17_Space_j4
        simp (disch := (first | omega | decide | (simp only [World.size_alloc, World.size_setCell, World.size_drew, size_sets, List.mem_cons, List.not_mem_nil, or_false, not_false_eq_true] <;> omega) | fail)) only [↓rsChk6_2, rsChk6_1, Option.isNone_some, Option.isNone_none, tick_eq, tickV_eq, ne_eq, Int.reduceAdd, Int.reduceSub, Int.reduceMul, Int.reduceEq, Int.reduceLT, Int.reduceLE, Int.reduceToNat, Nat.reduceMul, Nat.reduceAdd, Nat.reduceSub, List.nil_append, List.cons_append, List.getElem?_toArray, List.getElem?_cons_zero, List.getElem?_cons_succ, List.setIfInBounds_toArray, List.set_cons_zero, List.set_cons_succ, Option.map_some, List.not_mem_nil, ←decide_not, kl3, ha1, k1, k5, kl5, t1, k6]
        exact hnx2 _ _ ⟨v5, rfl, by rw [hs]; exact N6, R6, hv5, B6, hb5⟩
      · rw [decide_eq_false hp]
        rw [if_neg hp] at hs
        have cP : ({ data := #[112, 116, 114] } : ByteArray) = strOf sPtr := by decide +kernel
        simp (disch := (first | omega | decide | (simp only [World.size_alloc, World.size_setCell, World.size_drew, size_sets, List.mem_cons, List.not_mem_nil, or_false, not_false_eq_true] <;> omega) | fail)) only [↓rsChk6_2, rsChk6_1, Option.isNone_some, Option.isNone_none, tick_eq, tickV_eq, ne_eq, Int.reduceAdd, Int.reduceSub, Int.reduceMul, Int.reduceEq, Int.reduceLT, Int.reduceLE, Int.reduceToNat, Nat.reduceMul, Nat.reduceAdd, Nat.reduceSub, List.nil_append, List.cons_append, List.getElem?_toArray, List.getElem?_cons_zero, List.getElem?_cons_succ, List.setIfInBounds_toArray, List.set_cons_zero, List.set_cons_succ, Option.map_some, List.not_mem_nil, ←decide_not, kl3, ha1, k1, k5, kl5, t1, k6, kl6, e2, bdF]
        rw [cP]
        refine appFr N6 (f := (o + 1 + i, sPtr)) rfl (by rw [List.length_append]; omega) fun v7 w7 N7 T7 => ?_
        obtain ⟨R7, hv7⟩ := nextR R6 N6 hv5 T7
        unfold loamref17_Space_j4
        simp (disch := (first | omega | decide | (simp only [World.size_alloc, World.size_setCell, World.size_drew, size_sets, List.mem_cons, List.not_mem_nil, or_false, not_false_eq_true] <;> omega) | fail)) only [↓rsChk6_2, rsChk6_1, Option.isNone_some, Option.isNone_none, tick_eq, tickV_eq, ne_eq, Int.reduceAdd, Int.reduceSub, Int.reduceMul, Int.reduceEq, Int.reduceLT, Int.reduceLE, Int.reduceToNat, Nat.reduceMul, Nat.reduceAdd, Nat.reduceSub, List.nil_append, List.cons_append, List.getElem?_toArray, List.getElem?_cons_zero, List.getElem?_cons_succ, List.setIfInBounds_toArray, List.set_cons_zero, List.set_cons_succ, Option.map_some, List.not_mem_nil, ←decide_not, kl3, ha1, k1, k5, kl5, t1, k6, kl6, e2, bdF]
        refine hnx2 _ _ ⟨v7, rfl, by rw [hs, ← List.append_assoc]; exact N7, R7, hv7, B6.ext T7.ext hb5, fun h => ?_⟩
        rcases T7.at' _ h with h1 | h1
        · exact hb5 h1
        · have := B6.lt; omega
    · rintro u w5 ⟨v5, hu, N5, R5, hv5, B5, hb5⟩ nxt2
      simp only [List.map_cons, List.map_nil, List.cons.injEq, and_true] at hu
      rw [hu.1, hu.2]
      have k5 := fun i => B5.cell (i := i)
      have kl5 := kl (N5.1.trans (Ext.drew [] w5))
      have k5d := fun i => (B5.ext (Ext.drew [] w5) (by simp)).cell (i := i)
      have hpi := hpl (pN (wat ws o))
      have hobj : objF (wat ws) l o = ptrF (wat ws) l o (pN (wat ws o)) ++ padF (wat ws) o := rfl
      unfold loamref17_Space_l4
      simp (disch := (first | omega | decide | (simp only [World.size_alloc, World.size_setCell, World.size_drew, size_sets, List.mem_cons, List.not_mem_nil, or_false, not_false_eq_true] <;> omega) | fail)) only [↓rsChk6_2, rsChk6_1, Option.isNone_some, Option.isNone_none, tick_eq, tickV_eq, ne_eq, Int.reduceAdd, Int.reduceSub, Int.reduceMul, Int.reduceEq, Int.reduceLT, Int.reduceLE, Int.reduceToNat, Nat.reduceMul, Nat.reduceAdd, Nat.reduceSub, List.nil_append, List.cons_append, List.getElem?_toArray, List.getElem?_cons_zero, List.getElem?_cons_succ, List.setIfInBounds_toArray, List.set_cons_zero, List.set_cons_succ, Option.map_some, List.not_mem_nil, ←decide_not, kl3, ha1, k1, k5, kl5, k5d]
      refine loamref14_Space_Pad_call (Yld.mono (rPad_spec (R5.ext0 (Ext.drew [] w5)) hO) ?_)
      rintro u w6 ⟨⟨kk, rfl, hk⟩, F6d⟩
      have F6 := (Ext.drew [] _).trans F6d
      have N6 := N5.ext F6
      have R6 := R5.ext0 F6
      have B6 := B5.ext F6 (by simp)
      cases kk with
      | false =>
        have hpd : padF (wat ws) o = [] := by
          unfold padF
          rw [if_neg]
          intro h1
          have := hk.2 ((pad_iff hok).1 h1)
          cases this
        rw [hpd, List.append_nil] at hobj
        unfold loamref17_Space_j5
        simp (disch := (first | omega | decide | (simp only [World.size_alloc, World.size_setCell, World.size_drew, size_sets, List.mem_cons, List.not_mem_nil, or_false, not_false_eq_true] <;> omega) | fail)) only [↓rsChk6_2, rsChk6_1, Option.isNone_some, Option.isNone_none, tick_eq, tickV_eq, ne_eq, Int.reduceAdd, Int.reduceSub, Int.reduceMul, Int.reduceEq, Int.reduceLT, Int.reduceLE, Int.reduceToNat, Nat.reduceMul, Nat.reduceAdd, Nat.reduceSub, List.nil_append, List.cons_append, List.getElem?_toArray, List.getElem?_cons_zero, List.getElem?_cons_succ, List.setIfInBounds_toArray, List.set_cons_zero, List.set_cons_succ, Option.map_some, List.not_mem_nil, ←decide_not, kl3, ha1, k1, k5, kl5, k5d]
        exact hnx _ _ ⟨v5, rfl, by rw [hsucc, hobj]; exact N6, R6, hv5⟩
      | true =>
        have hpd : padF (wat ws) o = [(o + szW (wat ws o) - 1, sPad)] := by
          unfold padF
          rw [if_pos ((pad_iff hok).2 (hk.1 rfl))]
        rw [hpd] at hobj
        have kl6 := kl (N6.1.trans (Ext.drew [] w6))
        have k6d := fun i => (B6.ext (Ext.drew [] w6) (by simp)).cell (i := i)
        have e2 : (o : Int) + (szW (wat ws o) : Int) - 1 = ((o + szW (wat ws o) - 1 : Nat) : Int) := by have := szW_pos (x := wat ws o); omega
        have cP : ({ data := #[112, 97, 100] } : ByteArray) = strOf sPad := by decide +kernel
        simp (disch := (first | omega | decide | (simp only [World.size_alloc, World.size_setCell, World.size_drew, size_sets, List.mem_cons, List.not_mem_nil, or_false, not_false_eq_true] <;> omega) | fail)) only [↓rsChk6_2, rsChk6_1, Option.isNone_some, Option.isNone_none, tick_eq, tickV_eq, ne_eq, Int.reduceAdd, Int.reduceSub, Int.reduceMul, Int.reduceEq, Int.reduceLT, Int.reduceLE, Int.reduceToNat, Nat.reduceMul, Nat.reduceAdd, Nat.reduceSub, List.nil_append, List.cons_append, List.getElem?_toArray, List.getElem?_cons_zero, List.getElem?_cons_succ, List.setIfInBounds_toArray, List.set_cons_zero, List.set_cons_succ, Option.map_some, List.not_mem_nil, ←decide_not, kl3, ha1, k1, k5, kl5, k5d, kl6, k6d]
        refine loamref14_Size_call (Gives.to (hsz _) fun w7 F7d => ?_)
        have F7 := (Ext.drew [] _).trans F7d
        have N7 := N6.ext F7
        have R7 := R6.ext0 F7
        have kl7 := kl N7.1
        simp (disch := (first | omega | decide | (simp only [World.size_alloc, World.size_setCell, World.size_drew, size_sets, List.mem_cons, List.not_mem_nil, or_false, not_false_eq_true] <;> omega) | fail)) only [↓rsChk6_2, rsChk6_1, Option.isNone_some, Option.isNone_none, tick_eq, tickV_eq, ne_eq, Int.reduceAdd, Int.reduceSub, Int.reduceMul, Int.reduceEq, Int.reduceLT, Int.reduceLE, Int.reduceToNat, Nat.reduceMul, Nat.reduceAdd, Nat.reduceSub, List.nil_append, List.cons_append, List.getElem?_toArray, List.getElem?_cons_zero, List.getElem?_cons_succ, List.setIfInBounds_toArray, List.set_cons_zero, List.set_cons_succ, Option.map_some, List.not_mem_nil, ←decide_not, kl3, ha1, k1, k5, kl5, k5d, kl6, k6d, kl7, e2, bdF]
        rw [cP]
        refine appFr N7 (f := (o + szW (wat ws o) - 1, sPad)) rfl (by rw [List.length_append]; omega) fun v8 w8 N8 T8 => ?_
        obtain ⟨R8, hv8⟩ := nextR R7 N7 hv5 T8
        unfold loamref17_Space_j5
        simp (disch := (first | omega | decide | (simp only [World.size_alloc, World.size_setCell, World.size_drew, size_sets, List.mem_cons, List.not_mem_nil, or_false, not_false_eq_true] <;> omega) | fail)) only [↓rsChk6_2, rsChk6_1, Option.isNone_some, Option.isNone_none, tick_eq, tickV_eq, ne_eq, Int.reduceAdd, Int.reduceSub, Int.reduceMul, Int.reduceEq, Int.reduceLT, Int.reduceLE, Int.reduceToNat, Nat.reduceMul, Nat.reduceAdd, Nat.reduceSub, List.nil_append, List.cons_append, List.getElem?_toArray, List.getElem?_cons_zero, List.getElem?_cons_succ, List.setIfInBounds_toArray, List.set_cons_zero, List.set_cons_succ, Option.map_some, List.not_mem_nil, ←decide_not, kl3, ha1, k1, k5, kl5, k5d, kl6, k6d, kl7, e2, bdF]
        exact hnx _ _ ⟨v8, rfl, by rw [hsucc, hobj, ← List.append_assoc]; exact N8, R8, hv8⟩
  have cH : ({ data := #[104, 101, 97, 100] } : ByteArray) = strOf sHead := by decide +kernel
  cases bad with
  | none =>
    have eb : badI none = -1 := rfl
    rw [eb]
    simp (disch := (first | omega | decide | (simp only [World.size_alloc, World.size_setCell, World.size_drew, size_sets, List.mem_cons, List.not_mem_nil, or_false, not_false_eq_true] <;> omega) | fail)) only [↓rsChk6_2, rsChk6_1, Option.isNone_some, Option.isNone_none, tick_eq, tickV_eq, ne_eq, Int.reduceAdd, Int.reduceSub, Int.reduceMul, Int.reduceEq, Int.reduceLT, Int.reduceLE, Int.reduceToNat, Nat.reduceMul, Nat.reduceAdd, Nat.reduceSub, List.nil_append, List.cons_append, List.getElem?_toArray, List.getElem?_cons_zero, List.getElem?_cons_succ, List.setIfInBounds_toArray, List.set_cons_zero, List.set_cons_succ, Option.map_some, List.not_mem_nil, ←decide_not, eq_self]
    exact j3 _ _ (NewR.nil (Ext.refl _ _))
  | some o =>
    have eb : badI (some o) = (o : Int) := rfl
    rw [eb]
    simp (disch := (first | omega | decide | (simp only [World.size_alloc, World.size_setCell, World.size_drew, size_sets, List.mem_cons, List.not_mem_nil, or_false, not_false_eq_true] <;> omega) | fail)) only [↓rsChk6_2, rsChk6_1, Option.isNone_some, Option.isNone_none, tick_eq, tickV_eq, ne_eq, Int.reduceAdd, Int.reduceSub, Int.reduceMul, Int.reduceEq, Int.reduceLT, Int.reduceLE, Int.reduceToNat, Nat.reduceMul, Nat.reduceAdd, Nat.reduceSub, List.nil_append, List.cons_append, List.getElem?_toArray, List.getElem?_cons_zero, List.getElem?_cons_succ, List.setIfInBounds_toArray, List.set_cons_zero, List.set_cons_succ, Option.map_some, List.not_mem_nil, ←decide_not, bdF]
    rw [cH]
    refine appFr (w0 := w1) (F := []) (NewR.nil (Ext.refl _ _)) (f := (o, sHead)) rfl (by simp) fun v' w3 N3 F3 => ?_
    exact j3 v' w3 N3
end Go.Proofs.Ytdpmidgeipibbaa
