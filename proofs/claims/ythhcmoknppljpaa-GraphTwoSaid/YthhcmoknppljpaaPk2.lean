/- Two graphs are equal, by the program and by the document (sq). Two graphs are equal, by the document (sq). Orders and canons over bare nodes; a trimmed graph is few. What the statements on graphs begin with (sq). All of a twin's bytes and pointers written anew: nothing else is touched (sq). The statement GraphTwo walked (sq). -/
import Derived.Test.YthhcmoknppljpaaPk1
section
set_option linter.unusedVariables false
set_option linter.unusedSimpArgs false
set_option maxHeartbeats 4000000
namespace Go.Proofs.Ythhcmoknppljpaa
open Go.Sh Go.RowKit

theorem rs_ext {rs rs' : List GR} (hl : rs.length = rs'.length) (h : ∀ i (h1 : i < rs.length) (h2 : i < rs'.length), rs[i].s = rs'[i].s ∧ rs[i].to = rs'[i].to) : rs = rs' := by
  refine List.ext_getElem hl fun i h1 h2 => ?_
  obtain ⟨e1, e2⟩ := h i h1 h2
  generalize rs[i] = x at *
  generalize rs'[i] = y at *
  cases x
  cases y
  simp only at e1 e2
  rw [e1, e2]
abbrev rsEqg2_0 := (And.intro @xu8_add (And.intro @xu8_neq (And.intro @xu8_lss (And.intro @xu16_add (And.intro @xu16_neq (And.intro @xu16_lss (And.intro @xu32_add (And.intro @xu32_neq (And.intro @xu32_lss (And.intro @xu64_add (And.intro @xu64_neq (And.intro @xu64_lss (And.intro @xi64_lss (And.intro @xi64_neq (And.intro @xi64_neg (And.intro @ld_58 
  (And.intro @ns_58 (And.intro @ia_23 @ln_23))))))))))))))))))
theorem eqRs_spec {w : World} {rs rs' : List GR} {ra ra' : Option Addr} {rc rc' : Nat} (h : RowAt w ra (rs.flatMap grC)) (h' : RowAt w ra' (rs'.flatMap grC)) (hf : rs.length ≤ 100000) (hf' : rs'.length ≤ 100000) :
    Yld Try.prog n_slices_Equal_graph_Root_graph_Root #[.slice ra rs.length rc, .slice ra' rs'.length rc'] w fun u w' => BoolR (rs = rs') w w' u := by
  refine slices_Equal_graph_Root_graph_Root_of ?_
  unfold slices_Equal_graph_Root_graph_Root
  by_cases hne : rs.length = rs'.length
  case neg =>
    have : ¬ ((rs.length : Int) = rs'.length) := by omega
    simp (disch := (first | omega | decide | (simp only [rsD] <;> omega) | fail)) only [↓rsC, rsK, rsL, ↓rsEqg2_0, tick_eq, tickV_eq, ne_eq, Int.reduceAdd, Int.reduceSub, Int.reduceMul, Int.reduceEq, Int.reduceLT, Int.reduceLE, Int.reduceToNat, Nat.reduceMul, Nat.reduceAdd, Nat.reduceSub, ←decide_not, eq_self]
    exact ⟨⟨false, rfl, by simp; intro h; exact hne (by rw [h])⟩, Ext.refl _ _⟩
  have : ((rs.length : Int) = rs'.length) := by omega
  simp (disch := (first | omega | decide | (simp only [rsD] <;> omega) | fail)) only [↓rsC, rsK, rsL, ↓rsEqg2_0, tick_eq, tickV_eq, ne_eq, Int.reduceAdd, Int.reduceSub, Int.reduceMul, Int.reduceEq, Int.reduceLT, Int.reduceLE, Int.reduceToNat, Nat.reduceMul, Nat.reduceAdd, Nat.reduceSub, ←decide_not, eq_self]
  refine xLoop_n rs.length (fun j => [i64 (j : Int)]) (fun j w' => Ext [] w w' ∧ ∀ i (hi : i < rs.length) (hi' : i < rs'.length), i < j → rs[i].s = rs'[i].s ∧ rs[i].to = rs'[i].to) rfl ⟨Ext.refl _ _, by intro i _ _ hi; omega⟩ ?_ ?_
  · rintro j hj u w1 hu ⟨F, hq2⟩ nxt hn
    simp only [List.map_cons, List.map_nil, List.cons.injEq, and_true] at hu
    rw [hu]
    have hj' : j < rs'.length := by omega
    have F1 := F.trans (Ext.drew [] w1)
    obtain ⟨b, o, rfl, hlt, c1, c2⟩ := gr_at (h.ext0 F1) hj
    obtain ⟨bb, oo, rfl, hlt2, c3, c4⟩ := gr_at (h'.ext0 F1) hj'
    unfold slices_Equal_graph_Root_graph_Root_l1
    by_cases he : rs[j].s = rs'[j].s ∧ rs[j].to = rs'[j].to
    · have hnx : ∀ i (hi : i < rs.length) (hi' : i < rs'.length), i < j + 1 → rs[i].s = rs'[i].s ∧ rs[i].to = rs'[i].to := fun i hi hi' h3 => by
        by_cases ei : i = j
        · subst ei; exact he
        · exact hq2 i hi hi' (by omega)
      rw [he.1] at c1
      rw [he.2] at c2
      generalize rs'[j] = y at *
      simp (disch := (first | omega | decide | (simp only [rsD] <;> omega) | fail)) only [↓rsC, rsK, rsL, ↓rsEqg2_0, tick_eq, tickV_eq, ne_eq, Int.reduceAdd, Int.reduceSub, Int.reduceMul, Int.reduceEq, Int.reduceLT, Int.reduceLE, Int.reduceToNat, Nat.reduceMul, Nat.reduceAdd, Nat.reduceSub, ←decide_not, c1, c2, c3, c4]
      exact hn _ ⟨F1, hnx⟩
    · have hno : ¬ rs = rs' := fun e2 => he (by subst e2; exact ⟨rfl, rfl⟩)
      have hb : (decide (strOf rs[j].s = strOf rs'[j].s) && decide (rs[j].to = rs'[j].to)) = false := by
        rw [Bool.and_eq_false_iff, decide_eq_false_iff_not, decide_eq_false_iff_not, strOf_inj]
        exact Classical.not_and_iff_not_or_not.1 he
      simp (disch := (first | omega | decide | (simp only [rsD] <;> omega) | fail)) only [↓rsC, rsK, rsL, ↓rsEqg2_0, tick_eq, tickV_eq, ne_eq, Int.reduceAdd, Int.reduceSub, Int.reduceMul, Int.reduceEq, Int.reduceLT, Int.reduceLE, Int.reduceToNat, Nat.reduceMul, Nat.reduceAdd, Nat.reduceSub, ←decide_not, c1, c2, c3, c4, hb]
      exact ⟨⟨false, rfl, by simpa using hno⟩, F1⟩
  · rintro u w1 hu ⟨F, hq2⟩ nxt
    simp only [List.map_cons, List.map_nil, List.cons.injEq, and_true] at hu
    rw [hu]
    unfold slices_Equal_graph_Root_graph_Root_l1
    simp (disch := (first | omega | decide | (simp only [rsD] <;> omega) | fail)) only [↓rsC, rsK, rsL, ↓rsEqg2_0, tick_eq, tickV_eq, ne_eq, Int.reduceAdd, Int.reduceSub, Int.reduceMul, Int.reduceEq, Int.reduceLT, Int.reduceLE, Int.reduceToNat, Nat.reduceMul, Nat.reduceAdd, Nat.reduceSub, ←decide_not, eq_self]
    exact ⟨⟨true, rfl, by simp only [true_iff]; exact rs_ext hne fun i h1 h2 => hq2 i h1 h2 h1⟩, F⟩
abbrev rsEqg2_1 := (And.intro @ld_22 (And.intro @ld_23 (And.intro @fa_25_0 @fa_25_1)))
theorem GEqual_spec {w : World} {ns ns' : List GN} {rs rs' : List GR} {na na' ra ra' : Option Addr} {nc nc' rc rc' : Nat} (h : GIs w na nc ra rc ns rs) (h' : GIs w na' nc' ra' rc' ns' rs') (hf : FewH ns rs) (hf' : FewH ns' rs') :
    Yld Try.prog n_graph_Equal #[gV na nc ra rc ns rs, gV na' nc' ra' rc' ns' rs'] w fun u w' => BoolR (SameG ns rs ns' rs') w w' u := by
  have few : ∀ {ns : List GN} {rs : List GR}, FewH ns rs → ns.length ≤ 100000 ∧ ∀ x ∈ ns, x.p.length ≤ 1000000 ∧ x.d.length ≤ 1000000 := fun hf => ⟨by have := hf.n; omega, fun x hx => by have := hf.x x hx; omega⟩
  refine graph_Equal_of ?_
  unfold graph_Equal
  have bx : ∀ (na : Option Addr) (nc : Nat) (ra : Option Addr) (rc : Nat) (ns : List GN) (rs : List GR) (y : World) (K : K1), xBox Try.prog 25 (gV na nc ra rc ns rs) y K = K (ptr y.heap.size) (y.alloc (.cells #[.slice na ns.length nc, .slice ra rs.length rc] 25)) := fun _ _ _ _ _ _ y K => xBox_r
  rw [bx, bx]
  have B1 : Blk (w.alloc (.cells #[.slice na ns.length nc, .slice ra rs.length rc] 25)) w.heap.size 25 [.slice na ns.length nc, .slice ra rs.length rc] := Blk.at rfl
  have X1 : Ext [] w (w.alloc (.cells #[.slice na ns.length nc, .slice ra rs.length rc] 25)) := Ext.alloc _ _ _
  generalize w.alloc (.cells #[.slice na ns.length nc, .slice ra rs.length rc] 25) = y1 at *
  generalize w.heap.size = g1 at *
  have B2 : Blk (y1.alloc (.cells #[.slice na' ns'.length nc', .slice ra' rs'.length rc'] 25)) y1.heap.size 25 [.slice na' ns'.length nc', .slice ra' rs'.length rc'] := Blk.at rfl
  have X2 : Ext [] y1 (y1.alloc (.cells #[.slice na' ns'.length nc', .slice ra' rs'.length rc'] 25)) := Ext.alloc _ _ _
  generalize y1.alloc (.cells #[.slice na' ns'.length nc', .slice ra' rs'.length rc'] 25) = y2 at *
  generalize y1.heap.size = g2 at *
  have X12 := X1.trans X2
  have B12 := B1.ext X2 (by simp)
  have g := h.ext0 X12
  have g' := h'.ext0 X12
  have k1 := fun i => B12.cell (i := i)
  have k2 := fun i => B2.cell (i := i)
  simp (disch := (first | omega | decide | (simp only [rsD] <;> omega) | fail)) only [↓rsC, rsK, rsL, ↓rsEqg2_1, tick_eq, tickV_eq, ne_eq, Int.reduceAdd, Int.reduceSub, Int.reduceMul, Int.reduceEq, Int.reduceLT, Int.reduceLE, Int.reduceToNat, Nat.reduceMul, Nat.reduceAdd, Nat.reduceSub, ←decide_not, k1, k2]
  refine slices_EqualFunc_graph_Node_graph_Node_graph_Node_graph_Node_call (Yld.mono (eqNs_spec g.nr g'.nr g.ok g'.ok (few hf) (few hf')) ?_)
  rintro u y3 ⟨⟨b, rfl, hb⟩, F3⟩
  have k3 := fun i => (B12.ext F3 (by simp)).cell (i := i)
  have k4 := fun i => (B2.ext F3 (by simp)).cell (i := i)
  cases b with
  | false =>
    simp (disch := (first | omega | decide | (simp only [rsD] <;> omega) | fail)) only [↓rsC, rsK, rsL, ↓rsEqg2_1, tick_eq, tickV_eq, ne_eq, Int.reduceAdd, Int.reduceSub, Int.reduceMul, Int.reduceEq, Int.reduceLT, Int.reduceLE, Int.reduceToNat, Nat.reduceMul, Nat.reduceAdd, Nat.reduceSub, ←decide_not, k1, k2]
    exact ⟨⟨false, rfl, by simp only [Bool.false_eq_true, false_iff]; exact fun h => by have := hb.2 h.1; cases this⟩, X12.trans F3⟩
  | true =>
    simp (disch := (first | omega | decide | (simp only [rsD] <;> omega) | fail)) only [↓rsC, rsK, rsL, ↓rsEqg2_1, tick_eq, tickV_eq, ne_eq, Int.reduceAdd, Int.reduceSub, Int.reduceMul, Int.reduceEq, Int.reduceLT, Int.reduceLE, Int.reduceToNat, Nat.reduceMul, Nat.reduceAdd, Nat.reduceSub, ←decide_not, k1, k2, k3, k4]
    refine slices_Equal_graph_Root_graph_Root_call (Yld.mono (eqRs_spec (g.rr.ext0 F3) (g'.rr.ext0 F3) (by have := hf.r; omega) (by have := hf'.r; omega)) ?_)
    rintro u y4 ⟨⟨b, rfl, hb2⟩, F4⟩
    simp (disch := (first | omega | decide | (simp only [rsD] <;> omega) | fail)) only [↓rsC, rsK, rsL, ↓rsEqg2_1, tick_eq, tickV_eq, ne_eq, Int.reduceAdd, Int.reduceSub, Int.reduceMul, Int.reduceEq, Int.reduceLT, Int.reduceLE, Int.reduceToNat, Nat.reduceMul, Nat.reduceAdd, Nat.reduceSub, ←decide_not, k1, k2, k3, k4]
    exact ⟨⟨b, rfl, ⟨fun h => ⟨hb.1 rfl, hb2.1 h⟩, fun h => hb2.2 h.2⟩⟩, X12.trans (F3.trans F4)⟩
end Go.Proofs.Ythhcmoknppljpaa
end
section
set_option linter.unusedVariables false
set_option linter.unusedSimpArgs false
set_option maxHeartbeats 4000000
namespace Go.Proofs.Ythhcmoknppljpaa
open Go.Sh Go.RowKit

abbrev rsEqg3_0 := (And.intro @xu8_add (And.intro @xu8_neq (And.intro @xu8_lss (And.intro @xu16_add (And.intro @xu16_neq (And.intro @xu16_lss (And.intro @xu32_add (And.intro @xu32_neq (And.intro @xu32_lss (And.intro @xu64_add (And.intro @xu64_neq (And.intro @xu64_lss (And.intro @xi64_lss (And.intro @xi64_neq (And.intro @xi64_neg (And.intro @ld_3 
  (And.intro @ld_9 (And.intro @ld_26 (And.intro @ld_29 (And.intro @ld_30 (And.intro @ld_51 (And.intro @ld_60 (And.intro @fa_32_0 (And.intro @fa_32_1 (And.intro @fa_60_0 (And.intro @fa_60_1 (And.intro @fa_61_0 (And.intro @fa_61_1 (And.intro @al_60 (And.intro @st_60 (And.intro @ia_26 (And.intro @ia_29 (And.intro @ia_30 (And.intro @ln_26 (And.intro @ln_29 @ln_30)))))))))))))))))))))))))))))))))))
theorem REqual_spec {w : World} {ns ns' : List GN} {rs rs' : List GR} {na na' ra ra' : Option Addr} {nc nc' rc rc' : Nat} (h : GIs w na nc ra rc ns rs) (h' : GIs w na' nc' ra' rc' ns' rs') (hf : FewH ns rs) (hf' : FewH ns' rs') :
    Yld Try.prog n_loamref17_Equal #[gV na nc ra rc ns rs, gV na' nc' ra' rc' ns' rs'] w fun u w' => BoolR (SameG ns rs ns' rs') w w' u := by
  have hn1 := hf.n
  have hn2 := hf'.n
  have hr1 := hf.r
  have hr2 := hf'.r
  refine loamref17_Equal_of ?_
  unfold loamref17_Equal
  have bx : ∀ (na : Option Addr) (nc : Nat) (ra : Option Addr) (rc : Nat) (ns : List GN) (rs : List GR) (y : World) (K : K1), xBox Try.prog 32 (gV na nc ra rc ns rs) y K = K (ptr y.heap.size) (y.alloc (.cells #[.slice na ns.length nc, .slice ra rs.length rc] 32)) := fun _ _ _ _ _ _ y K => xBox_r
  rw [bx, bx]
  have B1 : Blk (w.alloc (.cells #[.slice na ns.length nc, .slice ra rs.length rc] 32)) w.heap.size 32 [.slice na ns.length nc, .slice ra rs.length rc] := Blk.at rfl
  have X1 : Ext [] w (w.alloc (.cells #[.slice na ns.length nc, .slice ra rs.length rc] 32)) := Ext.alloc _ _ _
  generalize w.alloc (.cells #[.slice na ns.length nc, .slice ra rs.length rc] 32) = y1 at *
  generalize w.heap.size = g1 at *
  have B2 : Blk (y1.alloc (.cells #[.slice na' ns'.length nc', .slice ra' rs'.length rc'] 32)) y1.heap.size 32 [.slice na' ns'.length nc', .slice ra' rs'.length rc'] := Blk.at rfl
  have X2 : Ext [] y1 (y1.alloc (.cells #[.slice na' ns'.length nc', .slice ra' rs'.length rc'] 32)) := Ext.alloc _ _ _
  generalize y1.alloc (.cells #[.slice na' ns'.length nc', .slice ra' rs'.length rc'] 32) = y2 at *
  generalize y1.heap.size = g2 at *
  have X12 := X1.trans X2
  have B12 := B1.ext X2 (by simp)
  have G := h.ext0 X12
  have G' := h'.ext0 X12
  have k1 := fun i => B12.cell (i := i)
  have k2 := fun i => B2.cell (i := i)
  by_cases hnl : ns.length = ns'.length
  case neg =>
    have : ¬ ((ns.length : Int) = ns'.length) := by omega
    simp (disch := (first | omega | decide | (simp only [rsD] <;> omega) | fail)) only [↓rsC, rsK, rsL, ↓rsEqg3_0, tick_eq, tickV_eq, ne_eq, Int.reduceAdd, Int.reduceSub, Int.reduceMul, Int.reduceEq, Int.reduceLT, Int.reduceLE, Int.reduceToNat, Nat.reduceMul, Nat.reduceAdd, Nat.reduceSub, ←decide_not, k1, k2]
    exact ⟨⟨false, rfl, by simp only [Bool.false_eq_true, false_iff]; exact fun e => hnl (by simpa using congrArg List.length e.1)⟩, X12⟩
  by_cases hrl : rs.length = rs'.length
  case neg =>
    have : ¬ ((rs.length : Int) = rs'.length) := by omega
    have : ((ns.length : Int) = ns'.length) := by omega
    simp (disch := (first | omega | decide | (simp only [rsD] <;> omega) | fail)) only [↓rsC, rsK, rsL, ↓rsEqg3_0, tick_eq, tickV_eq, ne_eq, Int.reduceAdd, Int.reduceSub, Int.reduceMul, Int.reduceEq, Int.reduceLT, Int.reduceLE, Int.reduceToNat, Nat.reduceMul, Nat.reduceAdd, Nat.reduceSub, ←decide_not, k1, k2]
    exact ⟨⟨false, rfl, by simp only [Bool.false_eq_true, false_iff]; exact fun e => hrl (by rw [e.2])⟩, X12⟩
  have hnl' : ((ns.length : Int) = ns'.length) := by omega
  have hrl' : ((rs.length : Int) = rs'.length) := by omega
  simp (disch := (first | omega | decide | (simp only [rsD] <;> omega) | fail)) only [↓rsC, rsK, rsL, ↓rsEqg3_0, tick_eq, tickV_eq, ne_eq, Int.reduceAdd, Int.reduceSub, Int.reduceMul, Int.reduceEq, Int.reduceLT, Int.reduceLE, Int.reduceToNat, Nat.reduceMul, Nat.reduceAdd, Nat.reduceSub, ←decide_not, k1, k2]
  refine xLoop_n ns.length (fun j => [i64 (j : Int)]) (fun j w' => Ext [] y2 w' ∧ ∀ i (hi : i < ns.length) (hi' : i < ns'.length), i < j → ns[i].p = ns'[i].p ∧ ns[i].d = ns'[i].d) rfl ⟨Ext.refl _ _, by intro i _ _ hi; omega⟩ ?_ ?_
  · rintro j hj u w1 hu ⟨F, hq2⟩ nxt hn
    simp only [List.map_cons, List.map_nil, List.cons.injEq, and_true] at hu
    rw [hu]
    have hj' : j < ns'.length := by omega
    obtain ⟨b, o, rfl, hlt, c1, c2⟩ := gn_at (G.nr.ext0 F) hj
    have m1 := List.getElem_mem hj
    have m2 := List.getElem_mem hj'
    have x1 := (G.ok _ m1).ext0 F
    have x2 := (G'.ok _ m2).ext0 F
    have l1 := hf.x _ m1
    have l2 := hf'.x _ m2
    have diff : ∀ w' : World, Ext [] y2 w' → ¬ (ns[j].p = ns'[j].p ∧ ns[j].d = ns'[j].d) → BoolR (SameG ns rs ns' rs') w w' (.bool false) := fun w' F' hne => ⟨⟨false, rfl, by simp only [Bool.false_eq_true, false_iff]; exact fun e => hne ((sameN_at hnl).1 e.1 j hj hj')⟩, X12.trans F'⟩
    have kk1 := fun i => (B12.ext F (by simp)).cell (i := i)
    have zg2 := (B2.ext F (by simp)).lt
    have kk2 := fun i => (B2.ext F (by simp)).cell (i := i)
    unfold loamref17_Equal_l1
    simp (disch := (first | omega | decide | (simp only [rsD] <;> omega) | fail)) only [↓rsC, rsK, rsL, ↓rsEqg3_0, tick_eq, tickV_eq, ne_eq, Int.reduceAdd, Int.reduceSub, Int.reduceMul, Int.reduceEq, Int.reduceLT, Int.reduceLE, Int.reduceToNat, Nat.reduceMul, Nat.reduceAdd, Nat.reduceSub, ←decide_not, k1, k2, kk1, c1, c2, kk2]
    obtain ⟨bb, oo, rfl, hlt2, c3, c4⟩ := gn_at (G'.nr.ext0 F) hj'
    simp (disch := (first | omega | decide | (simp only [rsD] <;> omega) | fail)) only [↓rsC, rsK, rsL, ↓rsEqg3_0, tick_eq, tickV_eq, ne_eq, Int.reduceAdd, Int.reduceSub, Int.reduceMul, Int.reduceEq, Int.reduceLT, Int.reduceLE, Int.reduceToNat, Nat.reduceMul, Nat.reduceAdd, Nat.reduceSub, ←decide_not, k1, k2, kk1, c1, c2, kk2, c3, c4]
    have hq3 : (ns[j].p = ns'[j].p ∧ ns[j].d = ns'[j].d) → ∀ i (hi : i < ns.length) (hi' : i < ns'.length), i < j + 1 → ns[i].p = ns'[i].p ∧ ns[i].d = ns'[i].d := fun he i hi hi' h3 => by
      by_cases ei : i = j
      · subst ei; exact he
      · exact hq2 i hi hi' (by omega)
    generalize ns[j] = x at *
    generalize ns'[j] = y at *
    have B3 : Blk (w1.alloc (.cells #[.slice x.pa x.p.length x.pc, .slice x.da x.d.length x.dc] 60)) w1.heap.size 60 [.slice x.pa x.p.length x.pc, .slice x.da x.d.length x.dc] := Blk.at rfl
    have X3 : Ext [] w1 (w1.alloc (.cells #[.slice x.pa x.p.length x.pc, .slice x.da x.d.length x.dc] 60)) := Ext.alloc _ _ _
    generalize w1.alloc (.cells #[.slice x.pa x.p.length x.pc, .slice x.da x.d.length x.dc] 60) = y3 at *
    generalize w1.heap.size = g3 at *
    have B4 : Blk (y3.alloc (.cells #[.slice y.pa y.p.length y.pc, .slice y.da y.d.length y.dc] 60)) y3.heap.size 60 [.slice y.pa y.p.length y.pc, .slice y.da y.d.length y.dc] := Blk.at rfl
    have X4 : Ext [] y3 (y3.alloc (.cells #[.slice y.pa y.p.length y.pc, .slice y.da y.d.length y.dc] 60)) := Ext.alloc _ _ _
    generalize y3.alloc (.cells #[.slice y.pa y.p.length y.pc, .slice y.da y.d.length y.dc] 60) = y4 at *
    generalize y3.heap.size = g4 at *
    have X34 := X3.trans X4
    have F4 := F.trans X34
    have B34 := B3.ext X4 (by simp)
    have x1 := x1.ext0 X34
    have x2 := x2.ext0 X34
    have k3 := fun i => B34.cell (i := i)
    have k4 := fun i => B4.cell (i := i)
    by_cases hp : x.p.length = y.p.length
    case neg =>
      have hp' : ¬ ((x.p.length : Int) = y.p.length) := by omega
      simp (disch := (first | omega | decide | (simp only [rsD] <;> omega) | fail)) only [↓rsC, rsK, rsL, ↓rsEqg3_0, tick_eq, tickV_eq, ne_eq, Int.reduceAdd, Int.reduceSub, Int.reduceMul, Int.reduceEq, Int.reduceLT, Int.reduceLE, Int.reduceToNat, Nat.reduceMul, Nat.reduceAdd, Nat.reduceSub, ←decide_not, k1, k2, kk1, c1, c2, kk2, c3, c4, hp']
      exact diff y4 F4 fun e => hp (by rw [e.1])
    have hp' : ((x.p.length : Int) = y.p.length) := by omega
    have hcv := fun (K : K1) => xConv_str (P := Try.prog) (w := y4) (s := 51) (d := 9) (e := 5) (a := x.da) (n := x.d.length) (c := x.dc) (l := x.d) (K := K) (by kernel_rfl) (by kernel_rfl) (by kernel_rfl) rfl x1.dr
    have hcv' := fun (K : K1) => xConv_str (P := Try.prog) (w := y4) (s := 51) (d := 9) (e := 5) (a := y.da) (n := y.d.length) (c := y.dc) (l := y.d) (K := K) (by kernel_rfl) (by kernel_rfl) (by kernel_rfl) rfl x2.dr
    by_cases hd : x.d = y.d
    case neg =>
      have hd' : ¬ (strOf x.d = strOf y.d) := fun e => hd (strOf_inj.1 e)
      simp (disch := (first | omega | decide | (simp only [rsD] <;> omega) | fail)) only [↓rsC, rsK, rsL, ↓rsEqg3_0, tick_eq, tickV_eq, ne_eq, Int.reduceAdd, Int.reduceSub, Int.reduceMul, Int.reduceEq, Int.reduceLT, Int.reduceLE, Int.reduceToNat, Nat.reduceMul, Nat.reduceAdd, Nat.reduceSub, ←decide_not, k1, k2, kk1, c1, c2, kk2, c3, c4, hp', k3, k4, hcv, hcv', hd']
      exact diff y4 F4 fun e => hd e.2
    have hd' : strOf x.d = strOf y.d := by rw [hd]
    simp (disch := (first | omega | decide | (simp only [rsD] <;> omega) | fail)) only [↓rsC, rsK, rsL, ↓rsEqg3_0, tick_eq, tickV_eq, ne_eq, Int.reduceAdd, Int.reduceSub, Int.reduceMul, Int.reduceEq, Int.reduceLT, Int.reduceLE, Int.reduceToNat, Nat.reduceMul, Nat.reduceAdd, Nat.reduceSub, ←decide_not, k1, k2, kk1, c1, c2, kk2, c3, c4, hp', k3, k4, hcv, hcv', hd']
    refine xLoop_n x.p.length (fun i => [i64 (i : Int)]) (fun k w' => Ext [] y4 w' ∧ ∀ i (hi : i < x.p.length) (hi' : i < y.p.length), i < k → x.p[i] = y.p[i]) rfl ⟨Ext.refl _ _, by intro i _ _ hi; omega⟩ ?_ ?_
    · rintro k hk u w5 hu ⟨F5, hq5⟩ nxt2 hn5
      simp only [List.map_cons, List.map_nil, List.cons.injEq, and_true] at hu
      rw [hu]
      have hk' : k < y.p.length := by omega
      have F5d := F5.trans (Ext.drew [] w5)
      have k3 := fun i => (B34.ext F5 (by simp)).cell (i := i)
      have k3d := fun i => (B34.ext F5d (by simp)).cell (i := i)
      have k4d := fun i => (B4.ext F5d (by simp)).cell (i := i)
      obtain ⟨ba, oa, ea, _, ca⟩ := its_at (x1.pr.ext0 F5) hk
      obtain ⟨bc, oc, ec, _, cc⟩ := its_at (x2.pr.ext0 F5) hk'
      have hq6 : x.p[k] = y.p[k] → ∀ i (hi : i < x.p.length) (hi' : i < y.p.length), i < k + 1 → x.p[i] = y.p[i] := fun he i hi hi' h3 => by
        by_cases ei : i = k
        · subst ei; exact he
        · exact hq5 i hi hi' (by omega)
      have hdf : ¬ x.p[k] = y.p[k] → ¬ (x.p = y.p ∧ x.d = y.d) := fun hne e => hne (by have := e.1; simp only [this])
      unfold loamref17_Equal_l2
      by_cases he : x.p[k] = y.p[k]
      case neg =>
        have hdf2 := hdf he
        generalize x.p[k] = xk at *
        generalize y.p[k] = yk at *
        simp (disch := (first | omega | decide | (simp only [rsD] <;> omega) | fail)) only [↓rsC, rsK, rsL, ↓rsEqg3_0, tick_eq, tickV_eq, ne_eq, Int.reduceAdd, Int.reduceSub, Int.reduceMul, Int.reduceEq, Int.reduceLT, Int.reduceLE, Int.reduceToNat, Nat.reduceMul, Nat.reduceAdd, Nat.reduceSub, ←decide_not, k1, k2, kk1, c1, c2, kk2, c3, c4, hp', k3, k4, hcv, hcv', hd', k3d, k4d, ea, ec, ca, cc, he]
        exact diff _ (F4.trans F5d) hdf2
      have hq7 := hq6 he
      rw [he] at ca
      generalize y.p[k] = yk at *
      simp (disch := (first | omega | decide | (simp only [rsD] <;> omega) | fail)) only [↓rsC, rsK, rsL, ↓rsEqg3_0, tick_eq, tickV_eq, ne_eq, Int.reduceAdd, Int.reduceSub, Int.reduceMul, Int.reduceEq, Int.reduceLT, Int.reduceLE, Int.reduceToNat, Nat.reduceMul, Nat.reduceAdd, Nat.reduceSub, ←decide_not, k1, k2, kk1, c1, c2, kk2, c3, c4, hp', k3, k4, hcv, hcv', hd', k3d, k4d, ea, ec, ca, cc]
      exact hn5 _ ⟨F5d, hq7⟩
    · rintro u w5 hu ⟨F5, hq5⟩ nxt2
      simp only [List.map_cons, List.map_nil, List.cons.injEq, and_true] at hu
      rw [hu]
      have k3 := fun i => (B34.ext F5 (by simp)).cell (i := i)
      have hxy : x.p = y.p := List.ext_getElem hp fun i h1 h2 => hq5 i h1 h2 h1
      unfold loamref17_Equal_l2
      simp (disch := (first | omega | decide | (simp only [rsD] <;> omega) | fail)) only [↓rsC, rsK, rsL, ↓rsEqg3_0, tick_eq, tickV_eq, ne_eq, Int.reduceAdd, Int.reduceSub, Int.reduceMul, Int.reduceEq, Int.reduceLT, Int.reduceLE, Int.reduceToNat, Nat.reduceMul, Nat.reduceAdd, Nat.reduceSub, ←decide_not, k1, k2, kk1, c1, c2, kk2, c3, c4, hp', k3, k4, hcv, hcv', hd']
      exact hn _ ⟨F4.trans F5, hq3 ⟨hxy, hd⟩⟩
  · rintro u w1 hu ⟨F, hq2⟩ nxt
    simp only [List.map_cons, List.map_nil, List.cons.injEq, and_true] at hu
    rw [hu]
    have hsn : SameN ns ns' := (sameN_at hnl).2 fun i h1 h2 => hq2 i h1 h2 h1
    have kk1 := fun i => (B12.ext F (by simp)).cell (i := i)
    unfold loamref17_Equal_l1
    simp (disch := (first | omega | decide | (simp only [rsD] <;> omega) | fail)) only [↓rsC, rsK, rsL, ↓rsEqg3_0, tick_eq, tickV_eq, ne_eq, Int.reduceAdd, Int.reduceSub, Int.reduceMul, Int.reduceEq, Int.reduceLT, Int.reduceLE, Int.reduceToNat, Nat.reduceMul, Nat.reduceAdd, Nat.reduceSub, ←decide_not, k1, k2, kk1]
    refine xLoop_n rs.length (fun j => [i64 (j : Int)]) (fun j w' => Ext [] y2 w' ∧ ∀ i (hi : i < rs.length) (hi' : i < rs'.length), i < j → rs[i].s = rs'[i].s ∧ rs[i].to = rs'[i].to) rfl ⟨F, by intro i _ _ hi; omega⟩ ?_ ?_
    · rintro j hj u w5 hu ⟨F5, hq5⟩ nxt2 hn5
      simp only [List.map_cons, List.map_nil, List.cons.injEq, and_true] at hu
      rw [hu]
      have hj' : j < rs'.length := by omega
      have F5d := F5.trans (Ext.drew [] w5)
      have k3 := fun i => (B12.ext F5 (by simp)).cell (i := i)
      have k3d := fun i => (B12.ext F5d (by simp)).cell (i := i)
      have k4d := fun i => (B2.ext F5d (by simp)).cell (i := i)
      obtain ⟨b, o, rfl, hlt, c1, c2⟩ := gr_at (G.rr.ext0 F5d) hj
      obtain ⟨bb, oo, rfl, hlt2, c3, c4⟩ := gr_at (G'.rr.ext0 F5d) hj'
      have diff : ∀ w' : World, Ext [] y2 w' → ¬ (rs[j].s = rs'[j].s ∧ rs[j].to = rs'[j].to) → BoolR (SameG ns rs ns' rs') w w' (.bool false) := fun w' F' hne => ⟨⟨false, rfl, by simp only [Bool.false_eq_true, false_iff]; exact fun e => hne (by have := e.2; subst this; exact ⟨rfl, rfl⟩)⟩, X12.trans F'⟩
      have hq6 : (rs[j].s = rs'[j].s ∧ rs[j].to = rs'[j].to) → ∀ i (hi : i < rs.length) (hi' : i < rs'.length), i < j + 1 → rs[i].s = rs'[i].s ∧ rs[i].to = rs'[i].to := fun he i hi hi' h3 => by
        by_cases ei : i = j
        · subst ei; exact he
        · exact hq5 i hi hi' (by omega)
      generalize rs[j] = x at *
      generalize rs'[j] = y at *
      unfold loamref17_Equal_l3
      by_cases hs : x.s = y.s
      case neg =>
        have hs' : ¬ (strOf x.s = strOf y.s) := fun e => hs (strOf_inj.1 e)
        simp (disch := (first | omega | decide | (simp only [rsD] <;> omega) | fail)) only [↓rsC, rsK, rsL, ↓rsEqg3_0, tick_eq, tickV_eq, ne_eq, Int.reduceAdd, Int.reduceSub, Int.reduceMul, Int.reduceEq, Int.reduceLT, Int.reduceLE, Int.reduceToNat, Nat.reduceMul, Nat.reduceAdd, Nat.reduceSub, ←decide_not, k1, k2, kk1, k3, k3d, k4d, c1, c3, hs']
        exact diff _ F5d fun e => hs e.1
      have hs' : strOf x.s = strOf y.s := by rw [hs]
      by_cases ht : x.to = y.to
      case neg =>
        simp (disch := (first | omega | decide | (simp only [rsD] <;> omega) | fail)) only [↓rsC, rsK, rsL, ↓rsEqg3_0, tick_eq, tickV_eq, ne_eq, Int.reduceAdd, Int.reduceSub, Int.reduceMul, Int.reduceEq, Int.reduceLT, Int.reduceLE, Int.reduceToNat, Nat.reduceMul, Nat.reduceAdd, Nat.reduceSub, ←decide_not, k1, k2, kk1, k3, k3d, k4d, c1, c2, c3, c4, hs', ht]
        exact diff _ F5d fun e => ht e.2
      simp (disch := (first | omega | decide | (simp only [rsD] <;> omega) | fail)) only [↓rsC, rsK, rsL, ↓rsEqg3_0, tick_eq, tickV_eq, ne_eq, Int.reduceAdd, Int.reduceSub, Int.reduceMul, Int.reduceEq, Int.reduceLT, Int.reduceLE, Int.reduceToNat, Nat.reduceMul, Nat.reduceAdd, Nat.reduceSub, ←decide_not, k1, k2, kk1, k3, k3d, k4d, c1, c2, c3, c4, hs', ht]
      exact hn5 _ ⟨F5d, hq6 ⟨hs, ht⟩⟩
    · rintro u w5 hu ⟨F5, hq5⟩ nxt2
      simp only [List.map_cons, List.map_nil, List.cons.injEq, and_true] at hu
      rw [hu]
      have k3 := fun i => (B12.ext F5 (by simp)).cell (i := i)
      have hrs : rs = rs' := rs_ext hrl fun i h1 h2 => hq5 i h1 h2 h1
      unfold loamref17_Equal_l3
      simp (disch := (first | omega | decide | (simp only [rsD] <;> omega) | fail)) only [↓rsC, rsK, rsL, ↓rsEqg3_0, tick_eq, tickV_eq, ne_eq, Int.reduceAdd, Int.reduceSub, Int.reduceMul, Int.reduceEq, Int.reduceLT, Int.reduceLE, Int.reduceToNat, Nat.reduceMul, Nat.reduceAdd, Nat.reduceSub, ←decide_not, k1, k2, kk1, k3]
      exact ⟨⟨true, rfl, by simp only [true_iff]; exact ⟨hsn, hrs⟩⟩, X12.trans F5⟩
end Go.Proofs.Ythhcmoknppljpaa
end
section
set_option linter.unusedVariables false
set_option linter.unusedSimpArgs false
set_option maxHeartbeats 4000000
namespace Go.Proofs.Ythhcmoknppljpaa
open Go.Sh Go.RowKit

theorem trim_few {ns ns' : List GN} {rs : List GR} {bs : List Bool} {fr : List Int} (R : RchOk ns fr bs) (hf : FewH ns rs) (h : ns'.map bare = trNs ns bs) : FewH ns' (trRs rs bs) := by
  have hl : ns'.length = bs.countP id := by
    have := congrArg List.length h
    rw [List.length_map] at this
    rw [this]
    exact sel_len _ _ _ R.len
  have hc := List.countP_le_length (p := id) (l := bs)
  have hlen := R.len
  refine ⟨by have := hf.n; omega, by simpa [trRs] using hf.r, fun x hx => ?_⟩
  have hm : bare x ∈ trNs ns bs := by rw [← h]; exact List.mem_map.2 ⟨x, hx, rfl⟩
  obtain ⟨y, hy, e⟩ := sel_mem _ _ _ _ hm
  have e1 : x.p.length = y.p.length := by
    have := congrArg (fun z => z.p.length) e
    simpa [bare, trN] using this
  have e2 : x.d.length = y.d.length := by
    have := congrArg (fun z => z.d.length) e
    simpa [bare, trN] using this
  rw [e1, e2]
  exact hf.x y hy
end Go.Proofs.Ythhcmoknppljpaa
end
section
set_option linter.unusedVariables false
set_option linter.unusedSimpArgs false
set_option maxHeartbeats 4000000
namespace Go.Proofs.Ythhcmoknppljpaa
open Go.Sh Go.RowKit

def hN (a b : Nat) : List GN := [⟨[2], some ⟨a, 0, none⟩, 1, [], none, 0⟩, ⟨[], none, 0, [120#8], some ⟨b, 0, none⟩, 1⟩, ⟨[], none, 0, [], none, 0⟩]
def hR : List GR := [⟨[97#8], 1⟩]
theorem h_good (a b : Nat) : GoodG (hN a b) hR := by
  refine ⟨fun x hx => ?_, by decide, fun r hr => ?_, fun i hi => ?_⟩
  · simp only [hN, List.mem_cons, List.not_mem_nil, or_false] at hx
    rcases hx with rfl | rfl | rfl <;> simp [hN]
  · simp only [hR, List.mem_cons, List.not_mem_nil, or_false] at hr
    subst hr
    simp [hN]
  · simp [hR] at hi
theorem h_gW (a b : Nat) : gW (hN a b) = 5 := by
  rw [← bare_gW, show (hN a b).map bare = (hN 0 0).map bare from rfl]
  decide
theorem rch_bs {ns : List GN} {fr : List Int} {bs : List Bool} (h : RchOk ns fr bs) : bs = (List.range ns.length).map fun (i : Nat) => decide (((i : Int) + 1) ∈ ordV ns fr) := by
  refine List.ext_getElem (by simp [h.len]) fun i h1 h2 => ?_
  rw [Bool.eq_iff_iff, h.iff i h1, ← ord_mem]
  simp
theorem h_ord1 (a b : Nat) : ordV (hN a b) [1] = [1, 2] := by rfl
theorem h_ord2 (a b : Nat) : ordV (hN a b) [2] = [2] := by rfl
theorem few_bare {ns ns' : List GN} {rs : List GR} (h : ns'.map bare = ns.map bare) (hf : FewH ns rs) : FewH ns' rs := by
  have hl : ns'.length = ns.length := by simpa using congrArg List.length h
  refine ⟨by have := hf.n; omega, hf.r, fun x hx => ?_⟩
  obtain ⟨i, hi, rfl⟩ := List.getElem_of_mem hx
  obtain ⟨e1, e2⟩ := (sameN_at hl).1 h i hi (by omega)
  rw [e1, e2]
  exact hf.x _ (List.getElem_mem _)
theorem boolTrue {p : Prop} {w w' : World} {u : Value} (h : BoolR p w w' u) (hp : p) : u = .bool true ∧ Ext [] w w' := by
  obtain ⟨⟨b, rfl, hb⟩, F⟩ := h
  rw [hb.2 hp]
  exact ⟨rfl, F⟩
theorem boolFalse {p : Prop} {w w' : World} {u : Value} (h : BoolR p w w' u) (hp : ¬ p) : u = .bool false ∧ Ext [] w w' := by
  obtain ⟨⟨b, rfl, hb⟩, F⟩ := h
  cases b with
  | true => exact absurd (hb.1 rfl) hp
  | false => exact ⟨rfl, F⟩
abbrev rsKn17_0 := (And.intro @xu8_com (And.intro @xu8_eql (And.intro @xu16_com (And.intro @xu16_eql (And.intro @xu32_com (And.intro @xu32_eql (And.intro @xu64_com (And.intro @xu64_eql (And.intro @xi64_eql (And.intro @ld_3 (And.intro @ld_4 (And.intro @ld_22 (And.intro @ld_25 (And.intro @fa_25_0 (And.intro @al_25 (And.intro @st_25 (And.intro @bd_25_0_1 
  (And.intro @bd_25_0 (And.intro @bd_25 (And.intro @bd_53_0 (And.intro @bd_53_0_1 (And.intro @bd_53_1 (And.intro @bd_53 (And.intro @bd_58_0_1 (And.intro @ia_26 (And.intro @ia_37 (And.intro @ln_22 (And.intro @ln_26 (And.intro @ln_37 (And.intro @bs_22_1 (And.intro @bs_22_3 (And.intro @bs_23_0 (And.intro @bs_23_1 (And.intro @bs_26_0 (And.intro @bs_26_1 (And.intro @bs_51_0 
  (And.intro @bs_51_1 @bs_51_2)))))))))))))))))))))))))))))))))))))
theorem known17_spec (w : World) : Gives Try.prog n_loamlaw17_known #[] w (.bool true) := by
  refine loamlaw17_known_of ?_
  unfold loamlaw17_known
  simp (disch := (first | omega | decide | (simp only [rsD] <;> omega) | fail)) only [↓rsC, rsK, rsL, ↓rsKn17_0, tick_eq, tickV_eq, ne_eq, Int.reduceAdd, Int.reduceSub, Int.reduceMul, Int.reduceEq, Int.reduceLT, Int.reduceLE, Int.reduceToNat, Nat.reduceMul, Nat.reduceAdd, Nat.reduceSub, ←decide_not, eq_self]
  have B1 : Blk (w.alloc (.cells #[i64 2] 3)) w.heap.size 3 [i64 2] := Blk.at rfl
  have X1 : Ext [] w (w.alloc (.cells #[i64 2] 3)) := Ext.alloc _ _ _
  have zs1 : (w.alloc (.cells #[i64 2] 3)).heap.size = w.heap.size + 1 := World.size_alloc _ _
  generalize w.alloc (.cells #[i64 2] 3) = y1 at *
  rw [← zs1]
  refine xConv_bytes (cs := bys [120#8]) (by kernel_rfl) (by kernel_rfl) fun y2 X2 R2 z2 => ?_
  have R1 := B1.row.ext0 X2
  generalize w.heap.size = g1 at *
  generalize y1.heap.size = g2 at *
  simp (disch := (first | omega | decide | (simp only [rsD] <;> omega) | fail)) only [↓rsC, rsK, rsL, ↓rsKn17_0, tick_eq, tickV_eq, ne_eq, Int.reduceAdd, Int.reduceSub, Int.reduceMul, Int.reduceEq, Int.reduceLT, Int.reduceLE, Int.reduceToNat, Nat.reduceMul, Nat.reduceAdd, Nat.reduceSub, ←decide_not, eq_self]
  have zs3 : (y2.alloc (.cells #[.slice (some ⟨g1, 0, none⟩) 1 1, .slice none 0 0, .slice none 0 0, .slice (some ⟨g2, 0, none⟩) 1 1, .slice none 0 0, .slice none 0 0] 53)).heap.size = y2.heap.size + 1 := World.size_alloc _ _
  have B3 : Blk (y2.alloc (.cells #[.slice (some ⟨g1, 0, none⟩) 1 1, .slice none 0 0, .slice none 0 0, .slice (some ⟨g2, 0, none⟩) 1 1, .slice none 0 0, .slice none 0 0] 53)) y2.heap.size 53 [.slice (some ⟨g1, 0, none⟩) 1 1, .slice none 0 0, .slice none 0 0, .slice (some ⟨g2, 0, none⟩) 1 1, .slice none 0 0, .slice none 0 0] := Blk.at rfl
  have X3 : Ext [] y2 (y2.alloc (.cells #[.slice (some ⟨g1, 0, none⟩) 1 1, .slice none 0 0, .slice none 0 0, .slice (some ⟨g2, 0, none⟩) 1 1, .slice none 0 0, .slice none 0 0] 53)) := Ext.alloc _ _ _
  generalize y2.alloc (.cells #[.slice (some ⟨g1, 0, none⟩) 1 1, .slice none 0 0, .slice none 0 0, .slice (some ⟨g2, 0, none⟩) 1 1, .slice none 0 0, .slice none 0 0] 53) = y3 at *
  rw [← zs3]
  generalize y2.heap.size = g3 at *
  have B4 : Blk (y3.alloc (.cells #[.string ⟨#[97]⟩, i64 1] 58)) y3.heap.size 58 [.string ⟨#[97]⟩, i64 1] := Blk.at rfl
  have X4 : Ext [] y3 (y3.alloc (.cells #[.string ⟨#[97]⟩, i64 1] 58)) := Ext.alloc _ _ _
  have zs4 : (y3.alloc (.cells #[.string ⟨#[97]⟩, i64 1] 58)).heap.size = y3.heap.size + 1 := World.size_alloc _ _
  generalize y3.alloc (.cells #[.string ⟨#[97]⟩, i64 1] 58) = y4 at *
  generalize y3.heap.size = g4 at *
  have B5 : Blk (y4.alloc (.cells #[.slice (some ⟨g3, 0, none⟩) 3 3, .slice (some ⟨g4, 0, none⟩) 1 1] 25)) y4.heap.size 25 [.slice (some ⟨g3, 0, none⟩) 3 3, .slice (some ⟨g4, 0, none⟩) 1 1] := Blk.at rfl
  have X5 : Ext [] y4 (y4.alloc (.cells #[.slice (some ⟨g3, 0, none⟩) 3 3, .slice (some ⟨g4, 0, none⟩) 1 1] 25)) := Ext.alloc _ _ _
  generalize y4.alloc (.cells #[.slice (some ⟨g3, 0, none⟩) 3 3, .slice (some ⟨g4, 0, none⟩) 1 1] 25) = y5 at *
  try rw [← zs4]
  obtain ⟨g5, hg5⟩ : ∃ g, g = y4.heap.size := ⟨_, rfl⟩
  try rw [← hg5] at B5 ⊢
  have cA : ({ data := #[97] } : ByteArray) = strOf [97#8] := by decide +kernel
  have X25 := X3.trans (X4.trans X5)
  have Xw : Ext [] w y5 := X1.trans (X2.trans X25)
  have G : GIs y5 (some ⟨g3, 0, none⟩) 3 (some ⟨g4, 0, none⟩) 1 (hN g1 g2) hR := by
    refine ⟨(B3.ext (X4.trans X5) (by simp)).row, Nat.le_refl _, fun e => (by cases e), ?_, Nat.le_refl _, fun e => (by cases e), fun x hx => ?_⟩
    · have := (B4.ext X5 (by simp)).row
      rw [cA] at this
      exact this
    · simp only [hN, List.mem_cons, List.not_mem_nil, or_false] at hx
      rcases hx with rfl | rfl | rfl
      · exact ⟨R1.ext0 X25, Nat.le_refl _, fun e => (by cases e), .nil, Nat.le_refl _, fun _ => rfl⟩
      · exact ⟨.nil, Nat.le_refl _, fun _ => rfl, R2.ext0 X25, Nat.le_refl _, fun e => (by cases e)⟩
      · exact ⟨.nil, Nat.le_refl _, fun _ => rfl, .nil, Nat.le_refl _, fun _ => rfl⟩
  have hf : FewH (hN g1 g2) hR := ⟨by simp [hN], by simp [hR], fun x hx => by
    simp only [hN, List.mem_cons, List.not_mem_nil, or_false] at hx
    rcases hx with rfl | rfl | rfl <;> simp⟩
  have hT : Yld Try.prog n_graph_Trim #[.agg #[.slice (some ⟨g3, 0, none⟩) 3 3, .slice (some ⟨g4, 0, none⟩) 1 1], .slice none 0 0] y5 fun u w' => TrimR y5 (hN g1 g2) hR [] u w' := Trim_spec (keep := []) (a := none) (c := 0) G hf .nil (Nat.le_refl _) (fun _ => rfl) (by simp)
  refine graph_Trim_call (Yld.mono hT ?_)
  rintro u y6 ⟨F6, bs, na', nc', ra', rc', ns', v, hbs, hns, rfl, G6, av, cv, rfl, hcv, R6⟩
  have ebs := rch_bs hbs
  rw [show tosL hR ++ [] = [1] from rfl, h_ord1] at ebs
  replace ebs : bs = [true, true, false] := ebs
  subst ebs
  have hn2 : ns'.length = 2 := (by simpa using congrArg List.length hns : ns'.length = (trNs (hN g1 g2) [true, true, false]).length).trans rfl
  simp (disch := (first | omega | decide | (simp only [rsD] <;> omega) | fail)) only [↓rsC, rsK, rsL, ↓rsKn17_0, tick_eq, tickV_eq, ne_eq, Int.reduceAdd, Int.reduceSub, Int.reduceMul, Int.reduceEq, Int.reduceLT, Int.reduceLE, Int.reduceToNat, Nat.reduceMul, Nat.reduceAdd, Nat.reduceSub, ←decide_not, eq_self]
  have B7 : Blk (y6.alloc (.cells #[.slice na' ns'.length nc', .slice ra' (trRs hR [true, true, false]).length rc'] 25)) y6.heap.size 25 [.slice na' ns'.length nc', .slice ra' (trRs hR [true, true, false]).length rc'] := Blk.at rfl
  have X7 : Ext [] y6 (y6.alloc (.cells #[.slice na' ns'.length nc', .slice ra' (trRs hR [true, true, false]).length rc'] 25)) := Ext.alloc _ _ _
  generalize y6.alloc (.cells #[.slice na' ns'.length nc', .slice ra' (trRs hR [true, true, false]).length rc'] 25) = y7 at *
  generalize y6.heap.size = g7 at *
  have c5 := fun i => (B5.ext (F6.trans X7) (by simp)).cell (i := i)
  simp (disch := (first | omega | decide | (simp only [rsD] <;> omega) | fail)) only [↓rsC, rsK, rsL, ↓rsKn17_0, tick_eq, tickV_eq, ne_eq, Int.reduceAdd, Int.reduceSub, Int.reduceMul, Int.reduceEq, Int.reduceLT, Int.reduceLE, Int.reduceToNat, Nat.reduceMul, Nat.reduceAdd, Nat.reduceSub, ←decide_not, c5]
  have B8 : Blk (y7.alloc (.cells #[i64 2] 3)) y7.heap.size 3 [i64 2] := Blk.at rfl
  have X8 : Ext [] y7 (y7.alloc (.cells #[i64 2] 3)) := Ext.alloc _ _ _
  generalize y7.alloc (.cells #[i64 2] 3) = y8 at *
  generalize y7.heap.size = g8 at *
  have E58 := F6.trans (X7.trans X8)
  have hR2 : Yld Try.prog n_graph_Reach #[.agg #[.slice (some ⟨g3, 0, none⟩) 3 3, .slice (some ⟨g4, 0, none⟩) 1 1], .slice (some ⟨g8, 0, none⟩) 1 1] y8 fun u w' => ∃ bs, RchOk (hN g1 g2) [2] bs ∧ NewR 4 1 y8 w' u bs.length (bls bs) := Reach_spec (fr := [2]) (G.ext0 E58) hf B8.row (fun e => (by cases e)) (by simp)
  refine graph_Reach_call (Yld.mono hR2 ?_)
  rintro u y9 ⟨bs, hbs2, N9⟩
  have ebs := rch_bs hbs2
  rw [h_ord2] at ebs
  replace ebs : bs = [false, true, false] := ebs
  subst ebs
  obtain ⟨r9, k9, rfl, _, _, _, R9, _⟩ := N9.2.1.slice
  have E9 := N9.1
  have c59 := fun i => (B5.ext (F6.trans (X7.trans (X8.trans E9))) (by simp)).cell (i := i)
  simp (disch := (first | omega | decide | (simp only [rsD] <;> omega) | fail)) only [↓rsC, rsK, rsL, ↓rsKn17_0, tick_eq, tickV_eq, ne_eq, Int.reduceAdd, Int.reduceSub, Int.reduceMul, Int.reduceEq, Int.reduceLT, Int.reduceLE, Int.reduceToNat, Nat.reduceMul, Nat.reduceAdd, Nat.reduceSub, ←decide_not, c5, c59]
  obtain ⟨b6, o6, rfl, _, c6⟩ := R6.get (by simp [its, noL])
  obtain ⟨b9, o9, rfl, _, c9⟩ := R9.get (by simp [bls])
  have R6w := fun {w' : World} (E : Ext [] y6 w') => (R6.ext0 E)
  have Ed : Ext [] y9 y9.drew := Ext.drew _ _
  generalize y9.drew = y10 at *
  have E610 := X7.trans (X8.trans (E9.trans Ed))
  have E510 := F6.trans E610
  have c510 := fun i => (B5.ext E510 (by simp)).cell (i := i)
  have c710 := fun i => (B7.ext (X8.trans (E9.trans Ed)) (by simp)).cell (i := i)
  have c6b : y10.cell? ⟨b6, o6 + 1, none⟩ = some (i64 2) := by
    obtain ⟨_, _, h1, _, h2⟩ := (R6.ext0 E610).get (by simp [its, noL])
    cases h1
    exact h2 1 _ rfl
  have c6c : y10.cell? ⟨b6, o6 + 2, none⟩ = some (i64 0) := by
    obtain ⟨_, _, h1, _, h2⟩ := (R6.ext0 E610).get (by simp [its, noL])
    cases h1
    exact h2 2 _ rfl
  have c9a : y10.cell? ⟨b9, o9, none⟩ = some (.bool false) := by
    obtain ⟨_, _, h1, _, h2⟩ := (R9.ext0 Ed).get (by simp [bls])
    cases h1
    exact h2 0 _ rfl
  have c9b : y10.cell? ⟨b9, o9 + 1, none⟩ = some (.bool true) := by
    obtain ⟨_, _, h1, _, h2⟩ := (R9.ext0 Ed).get (by simp [bls])
    cases h1
    exact h2 1 _ rfl
  have hg := h_good g1 g2
  have hC : Gives Try.prog n_graph_Check #[.agg #[.slice (some ⟨g3, 0, none⟩) 3 3, .slice (some ⟨g4, 0, none⟩) 1 1]] y10 (i64 0) := by
    have := gcheck_spec (G.ext0 E510) hf
    rw [chk_zero.2 hg] at this
    exact this
  refine graph_Check_call (Gives.to hC fun y11 F11 => ?_)
  have c511 := fun i => (B5.ext (E510.trans F11) (by simp)).cell (i := i)
  simp (disch := (first | omega | decide | (simp only [rsD] <;> omega) | fail)) only [↓rsC, rsK, rsL, ↓rsKn17_0, tick_eq, tickV_eq, ne_eq, Int.reduceAdd, Int.reduceSub, Int.reduceMul, Int.reduceEq, Int.reduceLT, Int.reduceLE, Int.reduceToNat, Nat.reduceMul, Nat.reduceAdd, Nat.reduceSub, ←decide_not, c5, c59, c511]
  have hW : Gives Try.prog n_graph_Words #[.agg #[.slice (some ⟨g3, 0, none⟩) 3 3, .slice (some ⟨g4, 0, none⟩) 1 1]] y11 (i64 5) := by
    have := gwords_spec (G.ext0 (E510.trans F11)) hf hg
    rw [h_gW] at this
    exact this
  refine graph_Words_call (Gives.to hW fun y12 F12 => ?_)
  have e3 : (hN g1 g2).length = 3 := rfl
  have E1012 := F11.trans F12
  have up : ∀ {a : Addr} {v : Value} {w' : World}, Ext [] y10 w' → y10.cell? a = some v → w'.cell? a = some v := fun {a v w'} E h => by
    have hlt : a.block < y10.heap.size := Nat.lt_of_not_le fun hn => by
      have : y10.heap[a.block]? = none := Array.getElem?_eq_none hn
      unfold World.cell? at h
      rw [this] at h
      cases h
    rw [E.cell hlt (by simp)]
    exact h
  have c512 := fun i => (B5.ext (E510.trans E1012) (by simp)).cell (i := i)
  have c712 := fun i => (B7.ext ((X8.trans (E9.trans Ed)).trans E1012) (by simp)).cell (i := i)
  have d6b := up E1012 c6b
  have d6c := up E1012 c6c
  have d9a := up E1012 c9a
  have d9b := up E1012 c9b
  have e4 : [false, true, false].length = 3 := rfl
  simp (disch := (first | omega | decide | (simp only [rsD] <;> omega) | fail)) only [↓rsC, rsK, rsL, ↓rsKn17_0, tick_eq, tickV_eq, ne_eq, Int.reduceAdd, Int.reduceSub, Int.reduceMul, Int.reduceEq, Int.reduceLT, Int.reduceLE, Int.reduceToNat, Nat.reduceMul, Nat.reduceAdd, Nat.reduceSub, ←decide_not, c5, c59, c511, c512, c712, d6b, d6c, d9a, d9b, e3, e4, hn2]
  have hNs := Named_spec (G.ext0 (E510.trans E1012)) hf.r
  refine graph_Named_call (Yld.mono hNs ?_)
  rintro u y13 ⟨F13, a13, rfl, _⟩
  have E1013 := E1012.trans F13
  have c513 := fun i => (B5.ext (E510.trans E1013) (by simp)).cell (i := i)
  have e1 : hR.length = 1 := rfl
  simp (disch := (first | omega | decide | (simp only [rsD] <;> omega) | fail)) only [↓rsC, rsK, rsL, ↓rsKn17_0, tick_eq, tickV_eq, ne_eq, Int.reduceAdd, Int.reduceSub, Int.reduceMul, Int.reduceEq, Int.reduceLT, Int.reduceLE, Int.reduceToNat, Nat.reduceMul, Nat.reduceAdd, Nat.reduceSub, ←decide_not, c5, c59, c511, c512, c712, d6b, d6c, d9a, d9b, e3, e4, hn2, c513, e1]
  have hTw := GTwin_spec (G.ext0 (E510.trans E1013)) hf
  refine graph_Twin_call (Yld.mono hTw ?_)
  rintro u y14 ⟨F14, na2, nc2, ra2, rc2, ns2, hns2, rfl, G14, _, _⟩
  have E1014 := E1013.trans F14
  have c514 := fun i => (B5.ext (E510.trans E1014) (by simp)).cell (i := i)
  simp (disch := (first | omega | decide | (simp only [rsD] <;> omega) | fail)) only [↓rsC, rsK, rsL, ↓rsKn17_0, tick_eq, tickV_eq, ne_eq, Int.reduceAdd, Int.reduceSub, Int.reduceMul, Int.reduceEq, Int.reduceLT, Int.reduceLE, Int.reduceToNat, Nat.reduceMul, Nat.reduceAdd, Nat.reduceSub, ←decide_not, c5, c59, c511, c512, c712, d6b, d6c, d9a, d9b, e3, e4, hn2, c513, e1, c514]
  have hE1 := GEqual_spec G14 (G.ext0 (E510.trans E1014)) (few_bare hns2 hf) hf
  refine graph_Equal_call (Yld.mono hE1 ?_)
  rintro u y15 hu
  obtain ⟨rfl, F15⟩ := boolTrue hu ⟨hns2, rfl⟩
  have E1015 := E1014.trans F15
  have c515 := fun i => (B5.ext (E510.trans E1015) (by simp)).cell (i := i)
  have c715 := fun i => (B7.ext ((X8.trans (E9.trans Ed)).trans E1015) (by simp)).cell (i := i)
  simp (disch := (first | omega | decide | (simp only [rsD] <;> omega) | fail)) only [↓rsC, rsK, rsL, ↓rsKn17_0, tick_eq, tickV_eq, ne_eq, Int.reduceAdd, Int.reduceSub, Int.reduceMul, Int.reduceEq, Int.reduceLT, Int.reduceLE, Int.reduceToNat, Nat.reduceMul, Nat.reduceAdd, Nat.reduceSub, ←decide_not, c5, c59, c511, c512, c712, d6b, d6c, d9a, d9b, e3, e4, hn2, c513, e1, c514, c515, c715]
  have hf3 := trim_few hbs hf hns
  have hE2 := GEqual_spec (G6.ext0 (E610.trans E1015)) (G.ext0 (E510.trans E1015)) hf3 hf
  unfold gV at hE2
  rw [hn2] at hE2
  refine graph_Equal_call (Yld.mono hE2 ?_)
  rintro u y16 hu
  obtain ⟨rfl, F16⟩ := boolFalse hu (fun h => by
    have h2 := congrArg List.length h.1
    rw [List.length_map, List.length_map, hn2] at h2
    cases h2)
  simp (disch := (first | omega | decide | (simp only [rsD] <;> omega) | fail)) only [↓rsC, rsK, rsL, ↓rsKn17_0, tick_eq, tickV_eq, ne_eq, Int.reduceAdd, Int.reduceSub, Int.reduceMul, Int.reduceEq, Int.reduceLT, Int.reduceLE, Int.reduceToNat, Nat.reduceMul, Nat.reduceAdd, Nat.reduceSub, ←decide_not, c5, c59, c511, c512, c712, d6b, d6c, d9a, d9b, e3, e4, hn2, c513, e1, c514, c515, c715]
  exact ⟨trivial, Ext.trans Xw (E510.trans (E1015.trans F16))⟩
end Go.Proofs.Ythhcmoknppljpaa
end
section
set_option linter.unusedVariables false
set_option linter.unusedSimpArgs false
set_option maxHeartbeats 4000000
namespace Go.Proofs.Ythhcmoknppljpaa
open Go.Sh Go.RowKit

/-- the blocks of a node's rows that are not empty -/
def wbk (x : GN) : List Nat := (if x.p = [] then [] else x.pa.toList.map (·.block)) ++ (if x.d = [] then [] else x.da.toList.map (·.block))
theorem wbk_p {x : GN} {y : Addr} (h : x.pa = some y) (hp : x.p ≠ []) : y.block ∈ wbk x := by
  unfold wbk
  rw [if_neg hp, h]
  simp
theorem wbk_d {x : GN} {y : Addr} (h : x.da = some y) (hd : x.d ≠ []) : y.block ∈ wbk x := by
  unfold wbk
  rw [if_neg hd, h]
  simp
theorem mem_wbk {x : GN} {b : Nat} (h : b ∈ wbk x) : (∃ y, x.pa = some y ∧ x.p ≠ [] ∧ y.block = b) ∨ ∃ y, x.da = some y ∧ x.d ≠ [] ∧ y.block = b := by
  unfold wbk at h
  rcases List.mem_append.1 h with h | h
  · by_cases e : x.p = []
    · rw [if_pos e] at h; cases h
    · rw [if_neg e] at h
      obtain ⟨y, hy, rfl⟩ := List.mem_map.1 h
      exact .inl ⟨y, by simpa using hy, e, rfl⟩
  · by_cases e : x.d = []
    · rw [if_pos e] at h; cases h
    · rw [if_neg e] at h
      obtain ⟨y, hy, rfl⟩ := List.mem_map.1 h
      exact .inr ⟨y, by simpa using hy, e, rfl⟩
theorem wbk_nbk {x : GN} {b : Nat} (h : b ∈ wbk x) : b ∈ nbk x := by
  rcases mem_wbk h with ⟨y, h1, _, h2⟩ | ⟨y, h1, _, h2⟩
  · exact mem_nbk.2 (.inl ⟨y, h1, h2⟩)
  · exact mem_nbk.2 (.inr ⟨y, h1, h2⟩)
theorem Apt.wbk {M : List Nat} {x : GN} (h : Apt M x) : ∀ b ∈ wbk x, b ∉ M := by
  intro b hb
  rcases mem_wbk hb with ⟨y, h1, h2, rfl⟩ | ⟨y, h1, h2, rfl⟩
  · exact h.p y h1 h2
  · exact h.d y h1 h2
theorem NBl.lt {w : World} {x : GN} (h : NBl w x) : ∀ b ∈ wbk x, b < w.heap.size := by
  intro b hb
  rcases mem_wbk hb with ⟨y, h1, h2, rfl⟩ | ⟨y, h1, h2, rfl⟩
  · rcases h.p with e | ⟨g, rest, e1, e2⟩
    · exact absurd e h2
    · rw [e1] at h1
      cases h1
      exact e2.lt
  · rcases h.d with e | ⟨g, rest, e1, e2⟩
    · exact absurd e h2
    · rw [e1] at h1
      cases h1
      exact e2.lt
theorem bysR_set {l : List (BitVec 8)} {rest : List Value} {k : Nat} (h : k < l.length) (v : BitVec 8) : (bys l ++ rest).set k (u8 v) = bys (l.set k v) ++ rest := by
  rw [List.set_append, if_pos (by simpa using h)]
  simp [bys]
theorem itsR_set {l : List Int} {rest : List Value} {k : Nat} (h : k < l.length) (v : Int) : (its l ++ rest).set k (i64 v) = its (l.set k v) ++ rest := by
  rw [List.set_append, if_pos (by simpa using h)]
  simp [its]
/-- what stands while a twin's nodes are written -/
structure TwS (y w' : World) (ns : List GN) (g5 : Nat) (na : Option Addr) (j : Nat) : Prop where
  F : Ext (ns.flatMap wbk) y w'
  B : ∀ i (h : i < ns.length), j ≤ i → NBl w' ns[i]
abbrev rsTwo1_0 := (And.intro @xu8_add (And.intro @xu8_lss (And.intro @xu16_add (And.intro @xu16_lss (And.intro @xu32_add (And.intro @xu32_lss (And.intro @xu64_add (And.intro @xu64_lss (And.intro @xi64_lss (And.intro @ld_5 (And.intro @ld_22 (And.intro @ld_26 (And.intro @ld_51 (And.intro @fa_25_0 (And.intro @fa_53_0 (And.intro @fa_53_1 (And.intro @st_3 
  (And.intro @st_5 (And.intro @ia_22 (And.intro @ia_26 (And.intro @ia_51 (And.intro @ln_26 @ln_51))))))))))))))))))))))
theorem two_node {K : K1} {nxt : List Value → World → Prop} {y w' : World} {ns : List GN} {rs : List GR} {g5 nc rc j : Nat} {na ra : Option Addr} (S : TwS y w' ns g5 na j) (hj : j < ns.length)
    (hB5 : Blk y g5 25 [.slice na ns.length nc, .slice ra rs.length rc]) (hR : RowAt y na (ns.flatMap gnC)) (h5 : g5 ∉ ns.flatMap wbk) (hna : ∀ b o, na = some ⟨b, o, none⟩ → b ∉ ns.flatMap wbk) (hl : ns.length ≤ 9000) (hx : ns[j].p.length ≤ 9000 ∧ ns[j].d.length ≤ 9000)
    (hQ : ∀ i (h : i < ns.length), j < i → ∀ b ∈ wbk ns[j], b ∉ wbk ns[i]) (hnx : ∀ w'', TwS y w'' ns g5 na (j + 1) → nxt [i64 ((j + 1 : Nat) : Int)] w'') :
    xLoop [i64 0] w' [8] fun u w nxt2 => loamlaw17_GraphTwo_l2 K nxt nxt2 (ptr g5) (i64 (j : Int)) (u 8) w := by
  have hmem : ∀ b ∈ wbk ns[j], b ∈ ns.flatMap wbk := fun b hb => List.mem_flatMap.2 ⟨ns[j], List.getElem_mem hj, hb⟩
  have up : ∀ {w'' : World}, Ext (wbk ns[j]) w' w'' → Ext (ns.flatMap wbk) y w'' := fun F => S.F.trans (F.more hmem)
  have others : ∀ {w'' : World}, Ext (wbk ns[j]) w' w'' → ∀ i (h : i < ns.length), j + 1 ≤ i → NBl w'' ns[i] := fun F i h hi => by
    refine (S.B i h (by omega)).ext F ⟨fun z hz hn hm => ?_, fun z hz hn hm => ?_⟩
    · exact hQ i h (by omega) _ hm (wbk_p hz hn)
    · exact hQ i h (by omega) _ hm (wbk_d hz hn)
  have k5 := fun {w'' : World} (F : Ext (ns.flatMap wbk) y w'') (i : Nat) => (hB5.ext F h5).cell (i := i)
  have row := fun {w'' : World} (F : Ext (ns.flatMap wbk) y w'') => gn_at (hR.ext F hna) hj
  obtain ⟨bn, on, ena, _, _, _⟩ := row S.F
  have rowc : ∀ {w'' : World}, Ext (ns.flatMap wbk) y w'' → w''.cell? ⟨bn, on + j * 2, none⟩ = some (.slice ns[j].pa ns[j].p.length ns[j].pc) ∧ w''.cell? ⟨bn, on + j * 2 + 1, none⟩ = some (.slice ns[j].da ns[j].d.length ns[j].dc) := fun F => by
    obtain ⟨_, _, e1, _, c1, c2⟩ := row F
    rw [ena] at e1
    cases e1
    exact ⟨c1, c2⟩
  have hN := S.B j hj (Nat.le_refl _)
  clear row
  generalize ns[j] = x at *
  subst ena
  have sep : ∀ {w'' : World} {g g' : Nat} {l : List (BitVec 8)} {r r' : List Value}, x.p ≠ [] → l ≠ [] → ∀ q : List Int, q ≠ [] → Blk w'' g 5 (bys l ++ r) → Blk w'' g' 3 (its q ++ r') → g ≠ g' := by
    rintro w'' g g' l r r' _ hl q hq B1 B2 rfl
    have h1 := B1.cell (i := 0)
    have h2 := B2.cell (i := 0)
    rw [h1] at h2
    cases l with
    | nil => exact hl rfl
    | cons a l => cases q with
      | nil => exact hq rfl
      | cons b q => simp at h2
  refine xLoop_n x.d.length (fun k => [i64 (k : Int)]) (fun k w'' => Ext (wbk x) w' w'' ∧ (x.d = [] ∨ ∃ g rest l, x.da = some ⟨g, 0, none⟩ ∧ l.length = x.d.length ∧ Blk w'' g 5 (bys l ++ rest)) ∧ (x.p = [] ∨ ∃ g rest, x.pa = some ⟨g, 0, none⟩ ∧ Blk w'' g 3 (its x.p ++ rest))) rfl ⟨Ext.refl _ _, ?_, hN.p⟩ ?_ ?_
  · rcases hN.d with h | ⟨g, rest, h1, h2⟩
    · exact .inl h
    · exact .inr ⟨g, rest, x.d, h1, rfl, h2⟩
  · rintro k hk u x1 hu ⟨F, D, P⟩ nxt2 hnx2
    simp only [List.map_cons, List.map_nil, List.cons.injEq, and_true] at hu
    rw [hu]
    rcases D with h | ⟨g, rest, l, h1, h2, B⟩
    · rw [h] at hk; simp at hk
    have hd : x.d ≠ [] := fun h => by rw [h] at hk; simp at hk
    have hln : l ≠ [] := fun h => by rw [h] at h2; simp at h2; omega
    have hgm : g ∈ wbk x := wbk_d h1 hd
    have Fd := F.trans ((Ext.drew [] x1).more (by simp))
    have kb5 := k5 (up F)
    have kb5d := k5 (up Fd)
    obtain ⟨c1, c2⟩ := rowc (up F)
    obtain ⟨c1d, c2d⟩ := rowc (up Fd)
    have hkl : k < l.length := by omega
    have kd := (B.ext (Ext.drew [] x1) (by simp)).cell (i := k)
    rw [List.getElem?_append_left (by simpa using hkl), List.getElem?_map, List.getElem?_eq_getElem hkl, Option.map_some] at kd
    have fd := fun i => B.frozen (i := i)
    have Bd := B.ext (Ext.drew [] x1) (by simp)
    have hst := bysR_set (rest := rest) hkl (l[k] + 1#8)
    have hll : (l.set k (l[k] + 1#8)).length = x.d.length := by rw [List.length_set, h2]
    have hln2 : l.set k (l[k] + 1#8) ≠ [] := fun h => by rw [h] at hll; simp at hll; omega
    generalize l[k] = b at *
    unfold loamlaw17_GraphTwo_l2
    rw [h1] at c2 c2d
    simp (disch := (first | omega | decide | (simp only [rsD] <;> omega) | fail)) only [↓rsC, rsK, rsL, ↓rsTwo1_0, tick_eq, tickV_eq, ne_eq, Int.reduceAdd, Int.reduceSub, Int.reduceMul, Int.reduceEq, Int.reduceLT, Int.reduceLE, Int.reduceToNat, Nat.reduceMul, Nat.reduceAdd, Nat.reduceSub, ←decide_not, kb5, kb5d, c2, c2d, kd, fd]
    have B2 := Bd.set (i := k) (v := u8 (b + 1#8))
    rw [hst] at B2
    refine hnx2 _ ⟨Fd.set' (.inl hgm), .inr ⟨g, rest, _, h1, hll, B2⟩, ?_⟩
    rcases P with h | ⟨g', rest', e1, e2⟩
    · exact .inl h
    · by_cases hp : x.p = []
      · exact .inl hp
      · have e2d := e2.ext (Ext.drew [] x1) (by simp)
        have hne := sep hp hln x.p hp Bd e2d
        exact .inr ⟨g', rest', e1, e2d.ext (Ext.set (b := g)) (by simp only [List.mem_singleton]; exact fun h => hne h.symm)⟩
  rintro u x1 hu ⟨F, D, P⟩ nxt2
  simp only [List.map_cons, List.map_nil, List.cons.injEq, and_true] at hu
  rw [hu]
  have kb5 := k5 (up F)
  obtain ⟨c1, c2⟩ := rowc (up F)
  unfold loamlaw17_GraphTwo_l2
  simp (disch := (first | omega | decide | (simp only [rsD] <;> omega) | fail)) only [↓rsC, rsK, rsL, ↓rsTwo1_0, tick_eq, tickV_eq, ne_eq, Int.reduceAdd, Int.reduceSub, Int.reduceMul, Int.reduceEq, Int.reduceLT, Int.reduceLE, Int.reduceToNat, Nat.reduceMul, Nat.reduceAdd, Nat.reduceSub, ←decide_not, kb5, c2]
  refine xLoop_n x.p.length (fun k => [i64 (k : Int)]) (fun k w'' => Ext (wbk x) w' w'' ∧ (x.p = [] ∨ ∃ g rest l, x.pa = some ⟨g, 0, none⟩ ∧ l.length = x.p.length ∧ Blk w'' g 3 (its l ++ rest))) rfl ⟨F, ?_⟩ ?_ ?_
  · rcases P with h | ⟨g, rest, h1, h2⟩
    · exact .inl h
    · exact .inr ⟨g, rest, x.p, h1, rfl, h2⟩
  · rintro k hk u x2 hu ⟨F2, P2⟩ nxt3 hnx3
    simp only [List.map_cons, List.map_nil, List.cons.injEq, and_true] at hu
    rw [hu]
    rcases P2 with h | ⟨g, rest, l, h1, h2, B⟩
    · rw [h] at hk; simp at hk
    have hp : x.p ≠ [] := fun h => by rw [h] at hk; simp at hk
    have hgm : g ∈ wbk x := wbk_p h1 hp
    have kb5 := k5 (up F2)
    obtain ⟨c1, c2⟩ := rowc (up F2)
    have hkl : k < l.length := by omega
    have kd := B.cell (i := k)
    rw [List.getElem?_append_left (by simpa using hkl), List.getElem?_map, List.getElem?_eq_getElem hkl, Option.map_some] at kd
    have fd := fun i => B.frozen (i := i)
    have hst := itsR_set (rest := rest) hkl (-7)
    have hll : (l.set k (-7)).length = x.p.length := by rw [List.length_set, h2]
    generalize l[k] = b at *
    unfold loamlaw17_GraphTwo_l3
    rw [h1] at c1
    simp (disch := (first | omega | decide | (simp only [rsD] <;> omega) | fail)) only [↓rsC, rsK, rsL, ↓rsTwo1_0, tick_eq, tickV_eq, ne_eq, Int.reduceAdd, Int.reduceSub, Int.reduceMul, Int.reduceEq, Int.reduceLT, Int.reduceLE, Int.reduceToNat, Nat.reduceMul, Nat.reduceAdd, Nat.reduceSub, ←decide_not, kb5, c2, c1, kd, fd]
    have B2 := B.set (i := k) (v := i64 (-7))
    rw [hst] at B2
    exact hnx3 _ ⟨F2.set' (.inl hgm), .inr ⟨g, rest, _, h1, hll, B2⟩⟩
  rintro u x2 hu ⟨F2, P2⟩ nxt3
  simp only [List.map_cons, List.map_nil, List.cons.injEq, and_true] at hu
  rw [hu]
  have kb6 := k5 (up F2)
  obtain ⟨c1, c2⟩ := rowc (up F2)
  have hjn : (j : Int) ≤ 9000 := by omega
  unfold loamlaw17_GraphTwo_l3
  simp (disch := (first | omega | decide | (simp only [rsD] <;> omega) | fail)) only [↓rsC, rsK, rsL, ↓rsTwo1_0, tick_eq, tickV_eq, ne_eq, Int.reduceAdd, Int.reduceSub, Int.reduceMul, Int.reduceEq, Int.reduceLT, Int.reduceLE, Int.reduceToNat, Nat.reduceMul, Nat.reduceAdd, Nat.reduceSub, ←decide_not, kb5, c2, kb6, c1]
  exact hnx _ ⟨up F2, others F2⟩
end Go.Proofs.Ythhcmoknppljpaa
end
section
set_option linter.unusedVariables false
set_option linter.unusedSimpArgs false
set_option maxHeartbeats 4000000
namespace Go.Proofs.Ythhcmoknppljpaa
open Go.Sh Go.RowKit

theorem same_comm {ns ns' : List GN} {rs rs' : List GR} : SameG ns rs ns' rs' ↔ SameG ns' rs' ns rs := ⟨fun h => ⟨h.1.symm, h.2.symm⟩, fun h => ⟨h.1.symm, h.2.symm⟩⟩
theorem bool_same {p q : Prop} {w w1 w2 w3 : World} {u v : Value} (h : BoolR p w w1 u) (h' : BoolR q w2 w3 v) (hpq : p ↔ q) : ∃ b : Bool, u = .bool b ∧ v = .bool b := by
  obtain ⟨⟨b, rfl, hb⟩, _⟩ := h
  obtain ⟨⟨b', rfl, hb'⟩, _⟩ := h'
  have : b = b' := by
    rw [Bool.eq_iff_iff, hb, hb', hpq]
  exact ⟨b, rfl, by rw [this]⟩
abbrev rsTwo2_0 := (And.intro @xu8_com (And.intro @xu8_eql (And.intro @xu8_lss (And.intro @xu16_com (And.intro @xu16_eql (And.intro @xu16_lss (And.intro @xu32_com (And.intro @xu32_eql (And.intro @xu32_lss (And.intro @xu64_com (And.intro @xu64_eql (And.intro @xu64_lss (And.intro @xi64_lss (And.intro @xi64_eql (And.intro @ld_22 (And.intro @ld_25 
  (And.intro @fa_25_0 (And.intro @al_25 (And.intro @st_25 (And.intro @eb_4 (And.intro @nb_4 @ln_22)))))))))))))))))))))
theorem GraphTwo_walk (na ra : Option Addr) (nc rc : Nat) (ns : List GN) (rs : List GR) (ma sa : Option Addr) (mc sc : Nat) (ms : List GN) (ss : List GR) (w : World) (h : GIs w na nc ra rc ns rs) (h' : GIs w ma mc sa sc ms ss) : Gives Try.prog n_loamlaw17_GraphTwo #[gV na nc ra rc ns rs, gV ma mc sa sc ms ss] w (.bool true) := by
  refine loamlaw17_GraphTwo_of ?_
  unfold loamlaw17_GraphTwo
  have gbox : ∀ (y : World) (K : K1) (na : Option Addr) (nc : Nat) (ra : Option Addr) (rc : Nat) (ns : List GN) (rs : List GR), xBox Try.prog 25 (gV na nc ra rc ns rs) y K = K (ptr y.heap.size) (y.alloc (.cells #[.slice na ns.length nc, .slice ra rs.length rc] 25)) := fun y K _ _ _ _ _ _ => xBox_r
  rw [gbox, gbox]
  have B1 : Blk (w.alloc (.cells #[.slice na ns.length nc, .slice ra rs.length rc] 25)) w.heap.size 25 [.slice na ns.length nc, .slice ra rs.length rc] := Blk.at rfl
  have X1 : Ext [] w (w.alloc (.cells #[.slice na ns.length nc, .slice ra rs.length rc] 25)) := Ext.alloc _ _ _
  generalize w.alloc (.cells #[.slice na ns.length nc, .slice ra rs.length rc] 25) = y1 at *
  generalize w.heap.size = g1 at *
  have B2 : Blk (y1.alloc (.cells #[.slice ma ms.length mc, .slice sa ss.length sc] 25)) y1.heap.size 25 [.slice ma ms.length mc, .slice sa ss.length sc] := Blk.at rfl
  have X2 : Ext [] y1 (y1.alloc (.cells #[.slice ma ms.length mc, .slice sa ss.length sc] 25)) := Ext.alloc _ _ _
  have B12 := B1.ext X2 (by simp)
  have G := h.ext0 (X1.trans X2)
  have H := h'.ext0 (X1.trans X2)
  have X02 := X1.trans X2
  generalize y1.alloc (.cells #[.slice ma ms.length mc, .slice sa ss.length sc] 25) = y2 at *
  generalize y1.heap.size = g2 at *
  refine loamlaw17_known_call (Gives.to (known17_spec y2) fun y3 F3 => ?_)
  have k3 := fun i => (B12.ext F3 (by simp)).cell (i := i)
  simp (disch := (first | omega | decide | (simp only [rsD] <;> omega) | fail)) only [↓rsC, rsK, rsL, ↓rsTwo2_0, tick_eq, tickV_eq, ne_eq, Int.reduceAdd, Int.reduceSub, Int.reduceMul, Int.reduceEq, Int.reduceLT, Int.reduceLE, Int.reduceToNat, Nat.reduceMul, Nat.reduceAdd, Nat.reduceSub, ←decide_not, k3]
  refine loamlaw17_Few_call (Yld.mono (Few_spec (G.ext0 F3)) ?_)
  rintro u y4 ⟨⟨b, rfl, hb⟩, F4⟩
  have F24 := F3.trans F4
  cases b with
  | false =>
    simp (disch := (first | omega | decide | (simp only [rsD] <;> omega) | fail)) only [↓rsC, rsK, rsL, ↓rsTwo2_0, tick_eq, tickV_eq, ne_eq, Int.reduceAdd, Int.reduceSub, Int.reduceMul, Int.reduceEq, Int.reduceLT, Int.reduceLE, Int.reduceToNat, Nat.reduceMul, Nat.reduceAdd, Nat.reduceSub, ←decide_not, k3]
    exact ⟨by trivial, X02.trans F24⟩
  | true =>
  have hf := (hb rfl).h
  have k4 := fun i => (B2.ext F24 (by simp)).cell (i := i)
  simp (disch := (first | omega | decide | (simp only [rsD] <;> omega) | fail)) only [↓rsC, rsK, rsL, ↓rsTwo2_0, tick_eq, tickV_eq, ne_eq, Int.reduceAdd, Int.reduceSub, Int.reduceMul, Int.reduceEq, Int.reduceLT, Int.reduceLE, Int.reduceToNat, Nat.reduceMul, Nat.reduceAdd, Nat.reduceSub, ←decide_not, k3, k4]
  refine loamlaw17_Few_call (Yld.mono (Few_spec (H.ext0 F24)) ?_)
  rintro u y5 ⟨⟨b, rfl, hb'⟩, F5⟩
  have F25 := F24.trans F5
  cases b with
  | false =>
    simp (disch := (first | omega | decide | (simp only [rsD] <;> omega) | fail)) only [↓rsC, rsK, rsL, ↓rsTwo2_0, tick_eq, tickV_eq, ne_eq, Int.reduceAdd, Int.reduceSub, Int.reduceMul, Int.reduceEq, Int.reduceLT, Int.reduceLE, Int.reduceToNat, Nat.reduceMul, Nat.reduceAdd, Nat.reduceSub, ←decide_not, k3, k4]
    exact ⟨by trivial, X02.trans F25⟩
  | true =>
  have hf' := (hb' rfl).h
  have hfn := hf.n
  have hfr := hf.r
  have hfn' := hf'.n
  have hfr' := hf'.r
  have k5 := fun i => (B12.ext F25 (by simp)).cell (i := i)
  simp (disch := (first | omega | decide | (simp only [rsD] <;> omega) | fail)) only [↓rsC, rsK, rsL, ↓rsTwo2_0, tick_eq, tickV_eq, ne_eq, Int.reduceAdd, Int.reduceSub, Int.reduceMul, Int.reduceEq, Int.reduceLT, Int.reduceLE, Int.reduceToNat, Nat.reduceMul, Nat.reduceAdd, Nat.reduceSub, ←decide_not, k3, k4, k5]
  refine graph_Twin_call (Yld.mono (GTwin_spec (G.ext0 F25) hf) ?_)
  rintro u y7 ⟨F7, na', nc', ra', rc', ns', hns, rfl, G7, hown, hpw⟩
  have hln : ns'.length = ns.length := by simpa using congrArg List.length hns
  have hf7 := few_bare hns hf
  have F27 := F25.trans F7
  have zb1 := (B12.ext F27 (by simp)).lt
  have zb2 := (B2.ext F27 (by simp)).lt
  have k7 := fun i => (B12.ext F27 (by simp)).cell (i := i)
  simp (disch := (first | omega | decide | (simp only [rsD] <;> omega) | fail)) only [↓rsC, rsK, rsL, ↓rsTwo2_0, tick_eq, tickV_eq, ne_eq, Int.reduceAdd, Int.reduceSub, Int.reduceMul, Int.reduceEq, Int.reduceLT, Int.reduceLE, Int.reduceToNat, Nat.reduceMul, Nat.reduceAdd, Nat.reduceSub, ←decide_not, k3, k4, k5, k7]
  have B8 : Blk (y7.alloc (.cells #[.slice na' ns'.length nc', .slice ra' rs.length rc'] 25)) y7.heap.size 25 [.slice na' ns'.length nc', .slice ra' rs.length rc'] := Blk.at rfl
  have X8 : Ext [] y7 (y7.alloc (.cells #[.slice na' ns'.length nc', .slice ra' rs.length rc'] 25)) := Ext.alloc _ _ _
  have B9 := B8.ext (Ext.drew [] _) (by simp)
  have X9 := X8.trans (Ext.drew [] _)
  generalize (y7.alloc (.cells #[.slice na' ns'.length nc', .slice ra' rs.length rc'] 25)).drew = y9 at *
  obtain ⟨g5, hg5⟩ : ∃ g, g = y7.heap.size := ⟨_, rfl⟩
  rw [← hg5] at B9 ⊢
  have F29 := F27.trans X9
  refine loamlaw17_Of_call (Yld.mono (Of_spec17 (G.ext0 F29) (by omega) (by omega)) ?_)
  rintro u y10 ⟨F10, na3, nc3, ra3, rc3, rfl, G10⟩
  have k10 := fun i => (B9.ext F10 (by simp)).cell (i := i)
  simp (disch := (first | omega | decide | (simp only [rsD] <;> omega) | fail)) only [↓rsC, rsK, rsL, ↓rsTwo2_0, tick_eq, tickV_eq, ne_eq, Int.reduceAdd, Int.reduceSub, Int.reduceMul, Int.reduceEq, Int.reduceLT, Int.reduceLE, Int.reduceToNat, Nat.reduceMul, Nat.reduceAdd, Nat.reduceSub, ←decide_not, k3, k4, k5, k7, k10]
  refine loamlaw17_Of_call (Yld.mono (Of_spec17 (G7.ext0 (X9.trans F10)) (by omega) (by omega)) ?_)
  rintro u y11 ⟨F11, na4, nc4, ra4, rc4, rfl, G11⟩
  simp (disch := (first | omega | decide | (simp only [rsD] <;> omega) | fail)) only [↓rsC, rsK, rsL, ↓rsTwo2_0, tick_eq, tickV_eq, ne_eq, Int.reduceAdd, Int.reduceSub, Int.reduceMul, Int.reduceEq, Int.reduceLT, Int.reduceLE, Int.reduceToNat, Nat.reduceMul, Nat.reduceAdd, Nat.reduceSub, ←decide_not, k3, k4, k5, k7, k10]
  refine loamref17_Equal_call (Yld.mono (REqual_spec (G10.ext0 F11) G11 hf hf7) ?_)
  rintro u y12 hu
  obtain ⟨rfl, F12⟩ := boolTrue hu ⟨hns.symm, rfl⟩
  have X912 := F10.trans (F11.trans F12)
  have X712 := X9.trans X912
  have B512 := B9.ext X912 (by simp)
  have F212 := F27.trans X712
  simp (disch := (first | omega | decide | (simp only [rsD] <;> omega) | fail)) only [↓rsC, rsK, rsL, ↓rsTwo2_0, tick_eq, tickV_eq, ne_eq, Int.reduceAdd, Int.reduceSub, Int.reduceMul, Int.reduceEq, Int.reduceLT, Int.reduceLE, Int.reduceToNat, Nat.reduceMul, Nat.reduceAdd, Nat.reduceSub, ←decide_not, k3, k4, k5, k7, k10]
  have hLf : ∀ b ∈ ns'.flatMap wbk, y5.heap.size ≤ b ∧ b < g5 := fun b hb => by
    obtain ⟨x, hx, hbx⟩ := List.mem_flatMap.1 hb
    refine ⟨(hown x hx).fr b (wbk_nbk hbx), ?_⟩
    rw [hg5]
    exact (hown x hx).bl.lt b hbx
  have hLn : ∀ b o, na' = some ⟨b, o, none⟩ → b ∉ ns'.flatMap wbk := fun b o hbo hm => by
    obtain ⟨x, hx, hbx⟩ := List.mem_flatMap.1 hm
    exact (hown x hx).ap.wbk b hbx (by rw [hbo]; simp)
  have h5L : g5 ∉ ns'.flatMap wbk := fun hm => by have := (hLf _ hm).2; omega
  have hB0 : TwS y12 y12 ns' g5 na' 0 := ⟨Ext.refl _ _, fun i hi _ => (hown _ (List.getElem_mem hi)).bl.ext X712 ⟨by simp, by simp⟩⟩
  have hRn := G7.nr.ext0 X712
  have hxl : ∀ i (hi : i < ns'.length), ns'[i].p.length ≤ 9000 ∧ ns'[i].d.length ≤ 9000 := fun i hi => hf7.x _ (List.getElem_mem hi)
  have hQ : ∀ j (hj : j < ns'.length) i (hi : i < ns'.length), j < i → ∀ b ∈ wbk ns'[j], b ∉ wbk ns'[i] := fun j hj i hi hji b hb hm => (List.pairwise_iff_getElem.1 hpw j i hj hi hji).wbk b hb (wbk_nbk hm)
  refine xLoop_n ns'.length (fun j => [i64 (j : Int)]) (fun j w' => TwS y12 w' ns' g5 na' j) rfl hB0 ?_ ?_
  · rintro j hj u x1 hu S nxt hnx
    simp only [List.map_cons, List.map_nil, List.cons.injEq, and_true] at hu
    rw [hu]
    have kb := fun i => (B512.ext S.F h5L).cell (i := i)
    unfold loamlaw17_GraphTwo_l1
    simp (disch := (first | omega | decide | (simp only [rsD] <;> omega) | fail)) only [↓rsC, rsK, rsL, ↓rsTwo2_0, tick_eq, tickV_eq, ne_eq, Int.reduceAdd, Int.reduceSub, Int.reduceMul, Int.reduceEq, Int.reduceLT, Int.reduceLE, Int.reduceToNat, Nat.reduceMul, Nat.reduceAdd, Nat.reduceSub, ←decide_not, k3, k4, k5, k7, k10, kb]
    exact two_node S hj B512 hRn h5L hLn (by omega) (hxl j hj) (hQ j hj) hnx
  rintro u x1 hu S nxt
  simp only [List.map_cons, List.map_nil, List.cons.injEq, and_true] at hu
  rw [hu]
  have F5x : Ext [] y5 x1 := (F7.trans X712).new S.F fun b hb => (hLf b hb).1
  have F2x := F25.trans F5x
  have kb := fun i => (B512.ext S.F h5L).cell (i := i)
  have ka := fun i => (B12.ext F2x (by simp)).cell (i := i)
  unfold loamlaw17_GraphTwo_l1
  simp (disch := (first | omega | decide | (simp only [rsD] <;> omega) | fail)) only [↓rsC, rsK, rsL, ↓rsTwo2_0, tick_eq, tickV_eq, ne_eq, Int.reduceAdd, Int.reduceSub, Int.reduceMul, Int.reduceEq, Int.reduceLT, Int.reduceLE, Int.reduceToNat, Nat.reduceMul, Nat.reduceAdd, Nat.reduceSub, ←decide_not, k3, k4, k5, k7, k10, kb, ka]
  refine graph_Twin_call (Yld.mono (GTwin_spec (G.ext0 F2x) hf) ?_)
  rintro u y13 ⟨F13, na6, nc6, ra6, rc6, ns6, hns6, rfl, G13, _, _⟩
  have hf6 := few_bare hns6 hf
  have F213 := F2x.trans F13
  have zb13 := (B12.ext F213 (by simp)).lt
  have zb23 := (B2.ext F213 (by simp)).lt
  have k13 := fun i => (B12.ext F213 (by simp)).cell (i := i)
  have k13b := fun i => (B2.ext F213 (by simp)).cell (i := i)
  simp (disch := (first | omega | decide | (simp only [rsD] <;> omega) | fail)) only [↓rsC, rsK, rsL, ↓rsTwo2_0, tick_eq, tickV_eq, ne_eq, Int.reduceAdd, Int.reduceSub, Int.reduceMul, Int.reduceEq, Int.reduceLT, Int.reduceLE, Int.reduceToNat, Nat.reduceMul, Nat.reduceAdd, Nat.reduceSub, ←decide_not, k3, k4, k5, k7, k10, kb, ka, k13, k13b]
  have B14 : Blk (y13.alloc (.cells #[.slice na6 ns6.length nc6, .slice ra6 rs.length rc6] 25)) y13.heap.size 25 [.slice na6 ns6.length nc6, .slice ra6 rs.length rc6] := Blk.at rfl
  have X14 : Ext [] y13 (y13.alloc (.cells #[.slice na6 ns6.length nc6, .slice ra6 rs.length rc6] 25)) := Ext.alloc _ _ _
  have B15 := B14.ext (Ext.drew [] _) (by simp)
  have X15 := X14.trans (Ext.drew [] _)
  generalize (y13.alloc (.cells #[.slice na6 ns6.length nc6, .slice ra6 rs.length rc6] 25)).drew = y15 at *
  generalize y13.heap.size = g6 at *
  have F215 := F213.trans X15
  refine graph_Equal_call (Yld.mono (GEqual_spec (G.ext0 F215) (H.ext0 F215) hf hf') ?_)
  rintro u16 y16 hu16
  have F16 := hu16.2
  have F216 := F215.trans F16
  have k16 := fun i => (B12.ext F216 (by simp)).cell (i := i)
  have k16b := fun i => (B2.ext F216 (by simp)).cell (i := i)
  simp (disch := (first | omega | decide | (simp only [rsD] <;> omega) | fail)) only [↓rsC, rsK, rsL, ↓rsTwo2_0, tick_eq, tickV_eq, ne_eq, Int.reduceAdd, Int.reduceSub, Int.reduceMul, Int.reduceEq, Int.reduceLT, Int.reduceLE, Int.reduceToNat, Nat.reduceMul, Nat.reduceAdd, Nat.reduceSub, ←decide_not, k3, k4, k5, k7, k10, kb, ka, k13, k13b, k16, k16b]
  refine loamlaw17_Of_call (Yld.mono (Of_spec17 (G.ext0 F216) (by omega) (by omega)) ?_)
  rintro u y17 ⟨F17, na7, nc7, ra7, rc7, rfl, G17⟩
  have F217 := F216.trans F17
  have k17b := fun i => (B2.ext F217 (by simp)).cell (i := i)
  simp (disch := (first | omega | decide | (simp only [rsD] <;> omega) | fail)) only [↓rsC, rsK, rsL, ↓rsTwo2_0, tick_eq, tickV_eq, ne_eq, Int.reduceAdd, Int.reduceSub, Int.reduceMul, Int.reduceEq, Int.reduceLT, Int.reduceLE, Int.reduceToNat, Nat.reduceMul, Nat.reduceAdd, Nat.reduceSub, ←decide_not, k3, k4, k5, k7, k10, kb, ka, k13, k13b, k16, k16b, k17b]
  refine loamlaw17_Of_call (Yld.mono (Of_spec17 (H.ext0 F217) (by omega) (by omega)) ?_)
  rintro u y18 ⟨F18, na8, nc8, ra8, rc8, rfl, G18⟩
  simp (disch := (first | omega | decide | (simp only [rsD] <;> omega) | fail)) only [↓rsC, rsK, rsL, ↓rsTwo2_0, tick_eq, tickV_eq, ne_eq, Int.reduceAdd, Int.reduceSub, Int.reduceMul, Int.reduceEq, Int.reduceLT, Int.reduceLE, Int.reduceToNat, Nat.reduceMul, Nat.reduceAdd, Nat.reduceSub, ←decide_not, k3, k4, k5, k7, k10, kb, ka, k13, k13b, k16, k16b, k17b]
  refine loamref17_Equal_call (Yld.mono (REqual_spec (G17.ext0 F18) G18 hf hf') ?_)
  rintro u19 y19 hu19
  have F19 := hu19.2
  have F219 := F217.trans (F18.trans F19)
  obtain ⟨b1, rfl, rfl⟩ := bool_same hu16 hu19 Iff.rfl
  have k19 := fun i => (B12.ext F219 (by simp)).cell (i := i)
  have k19b := fun i => (B2.ext F219 (by simp)).cell (i := i)
  have eb1 : (b1 == b1) = true := by simp
  simp (disch := (first | omega | decide | (simp only [rsD] <;> omega) | fail)) only [↓rsC, rsK, rsL, ↓rsTwo2_0, tick_eq, tickV_eq, ne_eq, Int.reduceAdd, Int.reduceSub, Int.reduceMul, Int.reduceEq, Int.reduceLT, Int.reduceLE, Int.reduceToNat, Nat.reduceMul, Nat.reduceAdd, Nat.reduceSub, ←decide_not, k3, k4, k5, k7, k10, kb, ka, k13, k13b, k16, k16b, k17b, k19, k19b, eb1]
  refine graph_Equal_call (Yld.mono (GEqual_spec (H.ext0 F219) (G.ext0 F219) hf' hf) ?_)
  rintro u20 y20 hu20
  have F20 := hu20.2
  have F220 := F219.trans F20
  have k20 := fun i => (B12.ext F220 (by simp)).cell (i := i)
  have k20b := fun i => (B2.ext F220 (by simp)).cell (i := i)
  simp (disch := (first | omega | decide | (simp only [rsD] <;> omega) | fail)) only [↓rsC, rsK, rsL, ↓rsTwo2_0, tick_eq, tickV_eq, ne_eq, Int.reduceAdd, Int.reduceSub, Int.reduceMul, Int.reduceEq, Int.reduceLT, Int.reduceLE, Int.reduceToNat, Nat.reduceMul, Nat.reduceAdd, Nat.reduceSub, ←decide_not, k3, k4, k5, k7, k10, kb, ka, k13, k13b, k16, k16b, k17b, k19, k19b, eb1, k20, k20b]
  refine graph_Equal_call (Yld.mono (GEqual_spec (G.ext0 F220) (H.ext0 F220) hf hf') ?_)
  rintro u21 y21 hu21
  have F21 := hu21.2
  have F221 := F220.trans F21
  obtain ⟨b2, rfl, rfl⟩ := bool_same hu20 hu21 same_comm
  have X1521 := F16.trans (F17.trans (F18.trans (F19.trans (F20.trans F21))))
  have k21 := fun i => (B12.ext F221 (by simp)).cell (i := i)
  have k21d := fun i => (B15.ext X1521 (by simp)).cell (i := i)
  have eb2 : (b2 == b2) = true := by simp
  simp (disch := (first | omega | decide | (simp only [rsD] <;> omega) | fail)) only [↓rsC, rsK, rsL, ↓rsTwo2_0, tick_eq, tickV_eq, ne_eq, Int.reduceAdd, Int.reduceSub, Int.reduceMul, Int.reduceEq, Int.reduceLT, Int.reduceLE, Int.reduceToNat, Nat.reduceMul, Nat.reduceAdd, Nat.reduceSub, ←decide_not, k3, k4, k5, k7, k10, kb, ka, k13, k13b, k16, k16b, k17b, k19, k19b, eb1, k20, k20b, k21, k21d, eb2]
  refine graph_Equal_call (Yld.mono (GEqual_spec (G13.ext0 (X15.trans X1521)) (G.ext0 F221) hf6 hf) ?_)
  rintro u y22 hu
  obtain ⟨rfl, F22⟩ := boolTrue hu ⟨hns6, rfl⟩
  have F222 := F221.trans F22
  have k22 := fun i => (B12.ext F222 (by simp)).cell (i := i)
  simp (disch := (first | omega | decide | (simp only [rsD] <;> omega) | fail)) only [↓rsC, rsK, rsL, ↓rsTwo2_0, tick_eq, tickV_eq, ne_eq, Int.reduceAdd, Int.reduceSub, Int.reduceMul, Int.reduceEq, Int.reduceLT, Int.reduceLE, Int.reduceToNat, Nat.reduceMul, Nat.reduceAdd, Nat.reduceSub, ←decide_not, k3, k4, k5, k7, k10, kb, ka, k13, k13b, k16, k16b, k17b, k19, k19b, eb1, k20, k20b, k21, k21d, eb2, k22]
  refine graph_Equal_call (Yld.mono (GEqual_spec (G.ext0 F222) (G.ext0 F222) hf hf) ?_)
  rintro u y23 hu
  obtain ⟨rfl, F23⟩ := boolTrue hu ⟨rfl, rfl⟩
  simp (disch := (first | omega | decide | (simp only [rsD] <;> omega) | fail)) only [↓rsC, rsK, rsL, ↓rsTwo2_0, tick_eq, tickV_eq, ne_eq, Int.reduceAdd, Int.reduceSub, Int.reduceMul, Int.reduceEq, Int.reduceLT, Int.reduceLE, Int.reduceToNat, Nat.reduceMul, Nat.reduceAdd, Nat.reduceSub, ←decide_not, k3, k4, k5, k7, k10, kb, ka, k13, k13b, k16, k16b, k17b, k19, k19b, eb1, k20, k20b, k21, k21d, eb2, k22]
  exact ⟨by trivial, X02.trans (F222.trans F23)⟩
theorem GraphTwo_spec (a b : GP) (w : World) (h : GIs w a.na a.nc a.ra a.rc a.ns a.rs) (h' : GIs w b.na b.nc b.ra b.rc b.ns b.rs) : Gives Try.prog n_loamlaw17_GraphTwo #[gPV a, gPV b] w (.bool true) := by
  obtain ⟨na, nc, ra, rc, ns, rs⟩ := a
  obtain ⟨ma, mc, sa, sc, ms, ss⟩ := b
  exact GraphTwo_walk na ra nc rc ns rs ma sa mc sc ms ss w h h'
end Go.Proofs.Ythhcmoknppljpaa
end
