/- Two graphs are equal, by the program and by the document (sq). Two graphs are equal, by the document (sq). What the statements on images begin with (sq). The statements ImageUnlike and ImageBack walked (sq). The statement ImageBack walked (sq). -/
import Derived.Test.YtdpmidgeipibbaaPk2
section
set_option linter.unusedVariables false
set_option linter.unusedSimpArgs false
set_option maxHeartbeats 4000000
namespace Go.Proofs.Ytdpmidgeipibbaa
open Go.Sh Go.RowKit

theorem rs_ext {rs rs' : List GR} (hl : rs.length = rs'.length) (h : ∀ i (h1 : i < rs.length) (h2 : i < rs'.length), rs[i].s = rs'[i].s ∧ rs[i].to = rs'[i].to) : rs = rs' := by
  refine List.ext_getElem hl fun i h1 h2 => ?_
  obtain ⟨e1, e2⟩ := h i h1 h2
  generalize rs[i] = x at *
  generalize rs'[i] = y at *
  cases x
  cases y
  simp only at e1 e2
  rw [e1, e2]
abbrev rsEqg2_0 := (And.intro @xu8_add (And.intro @xu8_neq (And.intro @xu8_lss (And.intro @xu16_add (And.intro @xu16_neq (And.intro @xu16_lss (And.intro @xu32_add (And.intro @xu32_neq (And.intro @xu32_lss (And.intro @xu64_add (And.intro @xu64_neq (And.intro @xu64_lss (And.intro @xi64_lss (And.intro @xi64_neq (And.intro @xi64_neg (And.intro @ld_74 
  (And.intro @ns_74 (And.intro @ia_23 @ln_23))))))))))))))))))
theorem eqRs_spec {w : World} {rs rs' : List GR} {ra ra' : Option Addr} {rc rc' : Nat} (h : RowAt w ra (rs.flatMap grC)) (h' : RowAt w ra' (rs'.flatMap grC)) (hf : rs.length ≤ 100000) (hf' : rs'.length ≤ 100000) :
    Yld Try.prog n_slices_Equal_graph_Root_graph_Root #[.slice ra rs.length rc, .slice ra' rs'.length rc'] w fun u w' => BoolR (rs = rs') w w' u := by
  refine slices_Equal_graph_Root_graph_Root_of ?_
  unfold slices_Equal_graph_Root_graph_Root
  by_cases hne : rs.length = rs'.length
  case neg =>
    have : ¬ ((rs.length : Int) = rs'.length) := by omega
    simp (disch := (first | omega | decide | (simp only [rsD] <;> omega) | fail)) only [↓rsC, rsK, rsL, ↓rsEqg2_0, tick_eq, tickV_eq, ne_eq, Int.reduceAdd, Int.reduceSub, Int.reduceMul, Int.reduceEq, Int.reduceLT, Int.reduceLE, Int.reduceToNat, Nat.reduceMul, Nat.reduceAdd, Nat.reduceSub, ←decide_not, eq_self]
    exact ⟨⟨false, rfl, by simp; intro h; exact hne (by rw [h])⟩, Ext.refl _ _⟩
  have : ((rs.length : Int) = rs'.length) := by omega
  simp (disch := (first | omega | decide | (simp only [rsD] <;> omega) | fail)) only [↓rsC, rsK, rsL, ↓rsEqg2_0, tick_eq, tickV_eq, ne_eq, Int.reduceAdd, Int.reduceSub, Int.reduceMul, Int.reduceEq, Int.reduceLT, Int.reduceLE, Int.reduceToNat, Nat.reduceMul, Nat.reduceAdd, Nat.reduceSub, ←decide_not, eq_self]
  refine xLoop_n rs.length (fun j => [i64 (j : Int)]) (fun j w' => Ext [] w w' ∧ ∀ i (hi : i < rs.length) (hi' : i < rs'.length), i < j → rs[i].s = rs'[i].s ∧ rs[i].to = rs'[i].to) rfl ⟨Ext.refl _ _, by intro i _ _ hi; omega⟩ ?_ ?_
  · rintro j hj u w1 hu ⟨F, hq2⟩ nxt hn
    simp only [List.map_cons, List.map_nil, List.cons.injEq, and_true] at hu
    rw [hu]
    have hj' : j < rs'.length := by omega
    have F1 := F.trans (Ext.drew [] w1)
    obtain ⟨b, o, rfl, hlt, c1, c2⟩ := gr_at (h.ext0 F1) hj
    obtain ⟨bb, oo, rfl, hlt2, c3, c4⟩ := gr_at (h'.ext0 F1) hj'
    unfold slices_Equal_graph_Root_graph_Root_l1
    by_cases he : rs[j].s = rs'[j].s ∧ rs[j].to = rs'[j].to
    · have hnx : ∀ i (hi : i < rs.length) (hi' : i < rs'.length), i < j + 1 → rs[i].s = rs'[i].s ∧ rs[i].to = rs'[i].to := fun i hi hi' h3 => by
        by_cases ei : i = j
        · subst ei; exact he
        · exact hq2 i hi hi' (by omega)
      rw [he.1] at c1
      rw [he.2] at c2
      generalize rs'[j] = y at *
      simp (disch := (first | omega | decide | (simp only [rsD] <;> omega) | fail)) only [↓rsC, rsK, rsL, ↓rsEqg2_0, tick_eq, tickV_eq, ne_eq, Int.reduceAdd, Int.reduceSub, Int.reduceMul, Int.reduceEq, Int.reduceLT, Int.reduceLE, Int.reduceToNat, Nat.reduceMul, Nat.reduceAdd, Nat.reduceSub, ←decide_not, c1, c2, c3, c4]
      exact hn _ ⟨F1, hnx⟩
    · have hno : ¬ rs = rs' := fun e2 => he (by subst e2; exact ⟨rfl, rfl⟩)
      have hb : (decide (strOf rs[j].s = strOf rs'[j].s) && decide (rs[j].to = rs'[j].to)) = false := by
        rw [Bool.and_eq_false_iff, decide_eq_false_iff_not, decide_eq_false_iff_not, strOf_inj]
        exact Classical.not_and_iff_not_or_not.1 he
      simp (disch := (first | omega | decide | (simp only [rsD] <;> omega) | fail)) only [↓rsC, rsK, rsL, ↓rsEqg2_0, tick_eq, tickV_eq, ne_eq, Int.reduceAdd, Int.reduceSub, Int.reduceMul, Int.reduceEq, Int.reduceLT, Int.reduceLE, Int.reduceToNat, Nat.reduceMul, Nat.reduceAdd, Nat.reduceSub, ←decide_not, c1, c2, c3, c4, hb]
      exact ⟨⟨false, rfl, by simpa using hno⟩, F1⟩
  · rintro u w1 hu ⟨F, hq2⟩ nxt
    simp only [List.map_cons, List.map_nil, List.cons.injEq, and_true] at hu
    rw [hu]
    unfold slices_Equal_graph_Root_graph_Root_l1
    simp (disch := (first | omega | decide | (simp only [rsD] <;> omega) | fail)) only [↓rsC, rsK, rsL, ↓rsEqg2_0, tick_eq, tickV_eq, ne_eq, Int.reduceAdd, Int.reduceSub, Int.reduceMul, Int.reduceEq, Int.reduceLT, Int.reduceLE, Int.reduceToNat, Nat.reduceMul, Nat.reduceAdd, Nat.reduceSub, ←decide_not, eq_self]
    exact ⟨⟨true, rfl, by simp only [true_iff]; exact rs_ext hne fun i h1 h2 => hq2 i h1 h2 h1⟩, F⟩
abbrev rsEqg2_1 := (And.intro @ld_22 (And.intro @ld_23 (And.intro @fa_25_0 @fa_25_1)))
theorem GEqual_spec {w : World} {ns ns' : List GN} {rs rs' : List GR} {na na' ra ra' : Option Addr} {nc nc' rc rc' : Nat} (h : GIs w na nc ra rc ns rs) (h' : GIs w na' nc' ra' rc' ns' rs') (hf : FewH ns rs) (hf' : FewH ns' rs') :
    Yld Try.prog n_graph_Equal #[gV na nc ra rc ns rs, gV na' nc' ra' rc' ns' rs'] w fun u w' => BoolR (SameG ns rs ns' rs') w w' u := by
  have few : ∀ {ns : List GN} {rs : List GR}, FewH ns rs → ns.length ≤ 100000 ∧ ∀ x ∈ ns, x.p.length ≤ 1000000 ∧ x.d.length ≤ 1000000 := fun hf => ⟨by have := hf.n; omega, fun x hx => by have := hf.x x hx; omega⟩
  refine graph_Equal_of ?_
  unfold graph_Equal
  have bx : ∀ (na : Option Addr) (nc : Nat) (ra : Option Addr) (rc : Nat) (ns : List GN) (rs : List GR) (y : World) (K : K1), xBox Try.prog 25 (gV na nc ra rc ns rs) y K = K (ptr y.heap.size) (y.alloc (.cells #[.slice na ns.length nc, .slice ra rs.length rc] 25)) := fun _ _ _ _ _ _ y K => xBox_r
  rw [bx, bx]
  have B1 : Blk (w.alloc (.cells #[.slice na ns.length nc, .slice ra rs.length rc] 25)) w.heap.size 25 [.slice na ns.length nc, .slice ra rs.length rc] := Blk.at rfl
  have X1 : Ext [] w (w.alloc (.cells #[.slice na ns.length nc, .slice ra rs.length rc] 25)) := Ext.alloc _ _ _
  generalize w.alloc (.cells #[.slice na ns.length nc, .slice ra rs.length rc] 25) = y1 at *
  generalize w.heap.size = g1 at *
  have B2 : Blk (y1.alloc (.cells #[.slice na' ns'.length nc', .slice ra' rs'.length rc'] 25)) y1.heap.size 25 [.slice na' ns'.length nc', .slice ra' rs'.length rc'] := Blk.at rfl
  have X2 : Ext [] y1 (y1.alloc (.cells #[.slice na' ns'.length nc', .slice ra' rs'.length rc'] 25)) := Ext.alloc _ _ _
  generalize y1.alloc (.cells #[.slice na' ns'.length nc', .slice ra' rs'.length rc'] 25) = y2 at *
  generalize y1.heap.size = g2 at *
  have X12 := X1.trans X2
  have B12 := B1.ext X2 (by simp)
  have g := h.ext0 X12
  have g' := h'.ext0 X12
  have k1 := fun i => B12.cell (i := i)
  have k2 := fun i => B2.cell (i := i)
  simp (disch := (first | omega | decide | (simp only [rsD] <;> omega) | fail)) only [↓rsC, rsK, rsL, ↓rsEqg2_1, tick_eq, tickV_eq, ne_eq, Int.reduceAdd, Int.reduceSub, Int.reduceMul, Int.reduceEq, Int.reduceLT, Int.reduceLE, Int.reduceToNat, Nat.reduceMul, Nat.reduceAdd, Nat.reduceSub, ←decide_not, k1, k2]
  refine slices_EqualFunc_graph_Node_graph_Node_graph_Node_graph_Node_call (Yld.mono (eqNs_spec g.nr g'.nr g.ok g'.ok (few hf) (few hf')) ?_)
  rintro u y3 ⟨⟨b, rfl, hb⟩, F3⟩
  have k3 := fun i => (B12.ext F3 (by simp)).cell (i := i)
  have k4 := fun i => (B2.ext F3 (by simp)).cell (i := i)
  cases b with
  | false =>
    simp (disch := (first | omega | decide | (simp only [rsD] <;> omega) | fail)) only [↓rsC, rsK, rsL, ↓rsEqg2_1, tick_eq, tickV_eq, ne_eq, Int.reduceAdd, Int.reduceSub, Int.reduceMul, Int.reduceEq, Int.reduceLT, Int.reduceLE, Int.reduceToNat, Nat.reduceMul, Nat.reduceAdd, Nat.reduceSub, ←decide_not, k1, k2]
    exact ⟨⟨false, rfl, by simp only [Bool.false_eq_true, false_iff]; exact fun h => by have := hb.2 h.1; cases this⟩, X12.trans F3⟩
  | true =>
    simp (disch := (first | omega | decide | (simp only [rsD] <;> omega) | fail)) only [↓rsC, rsK, rsL, ↓rsEqg2_1, tick_eq, tickV_eq, ne_eq, Int.reduceAdd, Int.reduceSub, Int.reduceMul, Int.reduceEq, Int.reduceLT, Int.reduceLE, Int.reduceToNat, Nat.reduceMul, Nat.reduceAdd, Nat.reduceSub, ←decide_not, k1, k2, k3, k4]
    refine slices_Equal_graph_Root_graph_Root_call (Yld.mono (eqRs_spec (g.rr.ext0 F3) (g'.rr.ext0 F3) (by have := hf.r; omega) (by have := hf'.r; omega)) ?_)
    rintro u y4 ⟨⟨b, rfl, hb2⟩, F4⟩
    simp (disch := (first | omega | decide | (simp only [rsD] <;> omega) | fail)) only [↓rsC, rsK, rsL, ↓rsEqg2_1, tick_eq, tickV_eq, ne_eq, Int.reduceAdd, Int.reduceSub, Int.reduceMul, Int.reduceEq, Int.reduceLT, Int.reduceLE, Int.reduceToNat, Nat.reduceMul, Nat.reduceAdd, Nat.reduceSub, ←decide_not, k1, k2, k3, k4]
    exact ⟨⟨b, rfl, ⟨fun h => ⟨hb.1 rfl, hb2.1 h⟩, fun h => hb2.2 h.2⟩⟩, X12.trans (F3.trans F4)⟩
abbrev rsEqg2_2 := (And.intro @xu8_add (And.intro @xu8_neq (And.intro @xu8_lss (And.intro @xu16_add (And.intro @xu16_neq (And.intro @xu16_lss (And.intro @xu32_add (And.intro @xu32_neq (And.intro @xu32_lss (And.intro @xu64_add (And.intro @xu64_neq (And.intro @xu64_lss (And.intro @xi64_lss (And.intro @xi64_neq (And.intro @xi64_neg (And.intro @ld_69 
  (And.intro @ia_28 @ln_28)))))))))))))))))
theorem w23_spec {w : World} {p q : List (BitVec 64)} {a a' : Option Addr} {c c' : Nat} (h : RowAt w a (wrds p)) (h' : RowAt w a' (wrds q)) (hp : p.length ≤ 1000000) (hq : q.length ≤ 1000000) : Gives Try.prog n_loamlaw23_words #[.slice a p.length c, .slice a' q.length c'] w (.bool (decide (p = q))) := by
  refine loamlaw23_words_of ?_
  unfold loamlaw23_words
  by_cases hne : p.length = q.length
  case neg =>
    have : ¬ ((p.length : Int) = q.length) := by omega
    simp (disch := (first | omega | decide | (simp only [rsD] <;> omega) | fail)) only [↓rsC, rsK, rsL, ↓rsEqg2_2, tick_eq, tickV_eq, ne_eq, Int.reduceAdd, Int.reduceSub, Int.reduceMul, Int.reduceEq, Int.reduceLT, Int.reduceLE, Int.reduceToNat, Nat.reduceMul, Nat.reduceAdd, Nat.reduceSub, ←decide_not, eq_self]
    exact ⟨by rw [decide_eq_false (fun e => hne (by rw [e]))], Ext.refl _ _⟩
  have : ((p.length : Int) = q.length) := by omega
  simp (disch := (first | omega | decide | (simp only [rsD] <;> omega) | fail)) only [↓rsC, rsK, rsL, ↓rsEqg2_2, tick_eq, tickV_eq, ne_eq, Int.reduceAdd, Int.reduceSub, Int.reduceMul, Int.reduceEq, Int.reduceLT, Int.reduceLE, Int.reduceToNat, Nat.reduceMul, Nat.reduceAdd, Nat.reduceSub, ←decide_not, eq_self]
  refine xLoop_n p.length (fun j => [i64 (j : Int)]) (fun j w' => Ext [] w w' ∧ ∀ i, i < j → wat p i = wat q i) rfl ⟨Ext.refl _ _, by intro i hi; omega⟩ ?_ ?_
  · rintro j hj u w1 hu ⟨F, hq2⟩ nxt hn
    simp only [List.map_cons, List.map_nil, List.cons.injEq, and_true] at hu
    rw [hu]
    unfold loamlaw23_words_l1
    have F1 := F.trans (Ext.drew [] w1)
    obtain ⟨b, o, rfl, hlt, hc⟩ := row_w (h.ext0 F1) (i := j) (by omega)
    obtain ⟨b', o', rfl, hlt', hc'⟩ := row_w (h'.ext0 F1) (i := j) (by omega)
    by_cases e : wat p j = wat q j
    · rw [e] at hc
      simp (disch := (first | omega | decide | (simp only [rsD] <;> omega) | fail)) only [↓rsC, rsK, rsL, ↓rsEqg2_2, tick_eq, tickV_eq, ne_eq, Int.reduceAdd, Int.reduceSub, Int.reduceMul, Int.reduceEq, Int.reduceLT, Int.reduceLE, Int.reduceToNat, Nat.reduceMul, Nat.reduceAdd, Nat.reduceSub, ←decide_not, hc, hc']
      exact hn _ ⟨F1, fun i hi => by
        by_cases ei : i = j
        · subst ei; exact e
        · exact hq2 i (by omega)⟩
    · simp (disch := (first | omega | decide | (simp only [rsD] <;> omega) | fail)) only [↓rsC, rsK, rsL, ↓rsEqg2_2, tick_eq, tickV_eq, ne_eq, Int.reduceAdd, Int.reduceSub, Int.reduceMul, Int.reduceEq, Int.reduceLT, Int.reduceLE, Int.reduceToNat, Nat.reduceMul, Nat.reduceAdd, Nat.reduceSub, ←decide_not, hc, hc', e]
      exact ⟨by rw [decide_eq_false (fun e2 => e (by rw [e2]))], F1⟩
  · rintro u w1 hu ⟨F, hq2⟩ nxt
    simp only [List.map_cons, List.map_nil, List.cons.injEq, and_true] at hu
    rw [hu]
    unfold loamlaw23_words_l1
    simp (disch := (first | omega | decide | (simp only [rsD] <;> omega) | fail)) only [↓rsC, rsK, rsL, ↓rsEqg2_2, tick_eq, tickV_eq, ne_eq, Int.reduceAdd, Int.reduceSub, Int.reduceMul, Int.reduceEq, Int.reduceLT, Int.reduceLE, Int.reduceToNat, Nat.reduceMul, Nat.reduceAdd, Nat.reduceSub, ←decide_not, eq_self]
    refine ⟨?_, F⟩
    rw [decide_eq_true]
    refine List.ext_getElem hne fun i h1 h2 => ?_
    have := hq2 i h1
    unfold wat at this
    simpa [List.getD_eq_getElem?_getD, List.getElem?_eq_getElem h1, List.getElem?_eq_getElem h2] using this
end Go.Proofs.Ytdpmidgeipibbaa
end
section
set_option linter.unusedVariables false
set_option linter.unusedSimpArgs false
set_option maxHeartbeats 4000000
namespace Go.Proofs.Ytdpmidgeipibbaa
open Go.Sh Go.RowKit

end Go.Proofs.Ytdpmidgeipibbaa
end
section
set_option linter.unusedVariables false
set_option linter.unusedSimpArgs false
set_option maxHeartbeats 4000000
namespace Go.Proofs.Ytdpmidgeipibbaa
open Go.Sh Go.RowKit

def kN (a b : Nat) : GN := ⟨[1], some ⟨a, 0, none⟩, 1, [120#8], some ⟨b, 0, none⟩, 1⟩
def kR : GR := ⟨[97#8], 1⟩
def kW : List (BitVec 64) := [1296125772#64, 655361#64, 97#64, 0#64, 0#64, 0#64, 8#64, packW 1 1 false 0, 8#64, 120#64]
theorem k_bare (a b : Nat) : [kN a b].map bare = [⟨[1], none, 0, [120#8], none, 0⟩] := rfl
theorem k_enc (a b : Nat) : encW [kN a b] [kR] = kW := by
  rw [← bare_enc, k_bare]
  decide +kernel
theorem k_good (a b : Nat) : GoodG [kN a b] [kR] := by
  rw [← bare_good, k_bare]
  refine ⟨fun x hx => ?_, by decide, fun r hr => ?_, fun i hi => ?_⟩
  · rw [List.mem_singleton] at hx
    subst hx
    refine ⟨fun p hp => ?_, by decide, by decide⟩
    rw [List.mem_singleton] at hp
    subst hp
    decide
  · rw [List.mem_singleton] at hr
    subst hr
    decide
  · simp at hi
theorem k_need (a b : Nat) : 2 + 5 * [kR].length + gW [kN a b] = 10 := by
  rw [← bare_gW, k_bare]
  decide
theorem k_encC (a b : Nat) : encC [kN a b] [kR] = 0 := by
  unfold encC
  rw [chk_zero.2 (k_good a b), k_need]
  decide
theorem noDec : ∀ os, ¬ DecOk [] os := fun os D => by have := D.two; simp at this
/-- a graph's words, decoded: that graph -/
theorem decR_enc {w' : World} {ns : List GN} {rs : List GR} {u : Value} (hg : GoodG ns rs) (hN : 2 + 5 * rs.length + gW ns ≤ 8192) (D : DecR w' (encW ns rs) u) : ∃ na nc ra rc ns', SameN ns' ns ∧ u = .tuple #[gV na nc ra rc ns' rs, i64 0] ∧ GIs w' na nc ra rc ns' rs := by
  have h0 := dec_ok hg hN
  rcases D with ⟨os, na, nc, ra, rc, ns', DO, hb, rfl, G⟩ | ⟨hno, _⟩
  · obtain ⟨rfl, _⟩ := DO.sc.uniq h0.sc
    obtain ⟨e1, e2⟩ := dec_enc hg hN
    rw [e2] at G ⊢
    exact ⟨na, nc, ra, rc, ns', hb.trans e1, rfl, G⟩
  · exact absurd h0 (hno _)
theorem few_same {ns ns' : List GN} {rs : List GR} (h : SameN ns' ns) (hf : FewH ns rs) : FewH ns' rs := by
  have hl : ns'.length = ns.length := by simpa using congrArg List.length h
  refine ⟨by have := hf.n; omega, hf.r, fun x hx => ?_⟩
  obtain ⟨i, hi, rfl⟩ := List.getElem_of_mem hx
  obtain ⟨e1, e2⟩ := (sameN_at hl).1 h i hi (by omega)
  rw [e1, e2]
  exact hf.x _ (List.getElem_mem _)
theorem boolR_true {p : Prop} {w w' : World} {u : Value} (h : BoolR p w w' u) (hp : p) : u = .bool true ∧ Ext [] w w' := by
  obtain ⟨⟨b, rfl, hb⟩, F⟩ := h
  rw [hb.2 hp]
  exact ⟨rfl, F⟩
abbrev rsImg3_0 := (And.intro @xu8_add (And.intro @xu8_eql (And.intro @xu16_add (And.intro @xu16_eql (And.intro @xu32_add (And.intro @xu32_eql (And.intro @xu64_add (And.intro @xu64_eql (And.intro @xi64_eql (And.intro @ld_25 (And.intro @ld_69 (And.intro @al_25 (And.intro @st_25 (And.intro @bd_25_0_1 (And.intro @bd_25 (And.intro @bd_72_0_1 (And.intro @bd_72_1 
  (And.intro @bd_74_0_1 (And.intro @ia_28 (And.intro @ln_28 (And.intro @bs_22_1 (And.intro @bs_23_1 (And.intro @bs_66_0 (And.intro @bs_66_1 (And.intro @bs_70_0 @bs_70_1)))))))))))))))))))))))))
theorem known23_spec (w : World) : Gives Try.prog n_loamlaw23_known #[] w (.bool true) := by
  refine loamlaw23_known_of ?_
  unfold loamlaw23_known
  simp (disch := (first | omega | decide | (simp only [rsD] <;> omega) | fail)) only [↓rsC, rsK, rsL, ↓rsImg3_0, tick_eq, tickV_eq, ne_eq, Int.reduceAdd, Int.reduceSub, Int.reduceMul, Int.reduceEq, Int.reduceLT, Int.reduceLE, Int.reduceToNat, Nat.reduceMul, Nat.reduceAdd, Nat.reduceSub, ←decide_not, eq_self]
  have B1 : Blk (w.alloc (.cells #[i64 1] 3)) w.heap.size 3 [i64 1] := Blk.at rfl
  have X1 : Ext [] w (w.alloc (.cells #[i64 1] 3)) := Ext.alloc _ _ _
  have zs1 : (w.alloc (.cells #[i64 1] 3)).heap.size = w.heap.size + 1 := World.size_alloc _ _
  generalize w.alloc (.cells #[i64 1] 3) = y1 at *
  rw [← zs1]
  refine xConv_bytes (cs := bys [120#8]) (by kernel_rfl) (by kernel_rfl) fun y2 X2 R2 z2 => ?_
  have R1 := B1.row.ext0 X2
  generalize w.heap.size = g1 at *
  generalize y1.heap.size = g2 at *
  simp (disch := (first | omega | decide | (simp only [rsD] <;> omega) | fail)) only [↓rsC, rsK, rsL, ↓rsImg3_0, tick_eq, tickV_eq, ne_eq, Int.reduceAdd, Int.reduceSub, Int.reduceMul, Int.reduceEq, Int.reduceLT, Int.reduceLE, Int.reduceToNat, Nat.reduceMul, Nat.reduceAdd, Nat.reduceSub, ←decide_not, eq_self]
  have B3 : Blk (y2.alloc (.cells #[.slice (some ⟨g1, 0, none⟩) 1 1, .slice (some ⟨g2, 0, none⟩) 1 1] 72)) y2.heap.size 72 [.slice (some ⟨g1, 0, none⟩) 1 1, .slice (some ⟨g2, 0, none⟩) 1 1] := Blk.at rfl
  have X3 : Ext [] y2 (y2.alloc (.cells #[.slice (some ⟨g1, 0, none⟩) 1 1, .slice (some ⟨g2, 0, none⟩) 1 1] 72)) := Ext.alloc _ _ _
  have zs3 : (y2.alloc (.cells #[.slice (some ⟨g1, 0, none⟩) 1 1, .slice (some ⟨g2, 0, none⟩) 1 1] 72)).heap.size = y2.heap.size + 1 := World.size_alloc _ _
  generalize y2.alloc (.cells #[.slice (some ⟨g1, 0, none⟩) 1 1, .slice (some ⟨g2, 0, none⟩) 1 1] 72) = y3 at *
  rw [← zs3]
  generalize y2.heap.size = g3 at *
  have B4 : Blk (y3.alloc (.cells #[.string ⟨#[97]⟩, i64 1] 74)) y3.heap.size 74 [.string ⟨#[97]⟩, i64 1] := Blk.at rfl
  have X4 : Ext [] y3 (y3.alloc (.cells #[.string ⟨#[97]⟩, i64 1] 74)) := Ext.alloc _ _ _
  generalize y3.alloc (.cells #[.string ⟨#[97]⟩, i64 1] 74) = y4 at *
  generalize y3.heap.size = g4 at *
  have B5 : Blk (y4.alloc (.cells #[.slice (some ⟨g3, 0, none⟩) 1 1, .slice (some ⟨g4, 0, none⟩) 1 1] 25)) y4.heap.size 25 [.slice (some ⟨g3, 0, none⟩) 1 1, .slice (some ⟨g4, 0, none⟩) 1 1] := Blk.at rfl
  have X5 : Ext [] y4 (y4.alloc (.cells #[.slice (some ⟨g3, 0, none⟩) 1 1, .slice (some ⟨g4, 0, none⟩) 1 1] 25)) := Ext.alloc _ _ _
  generalize y4.alloc (.cells #[.slice (some ⟨g3, 0, none⟩) 1 1, .slice (some ⟨g4, 0, none⟩) 1 1] 25) = y5 at *
  generalize y4.heap.size = g5 at *
  have cA : ({ data := #[97] } : ByteArray) = strOf [97#8] := by decide +kernel
  have X25 := X3.trans (X4.trans X5)
  have Xw : Ext [] w y5 := X1.trans (X2.trans X25)
  have G : GIs y5 (some ⟨g3, 0, none⟩) 1 (some ⟨g4, 0, none⟩) 1 [kN g1 g2] [kR] := by
    refine ⟨(B3.ext (X4.trans X5) (by simp)).row, Nat.le_refl _, fun e => (by cases e), ?_, Nat.le_refl _, fun e => (by cases e), fun x hx => ?_⟩
    · have := (B4.ext X5 (by simp)).row
      rw [cA] at this
      exact this
    · rw [List.mem_singleton] at hx
      subst hx
      exact ⟨R1.ext0 X25, Nat.le_refl _, fun e => (by cases e), R2.ext0 X25, Nat.le_refl _, fun e => (by cases e)⟩
  have hf : FewH [kN g1 g2] [kR] := ⟨by simp, by simp, fun x hx => by rw [List.mem_singleton] at hx; subst hx; simp [kN]⟩
  have hneed := k_need g1 g2
  have hE : Yld Try.prog n_image_Encode #[.agg #[.slice (some ⟨g3, 0, none⟩) 1 1, .slice (some ⟨g4, 0, none⟩) 1 1]] y5 fun u w' => EncR y5 w' [kN g1 g2] [kR] u := iEncode_spec G hf
  refine image_Encode_call (Yld.mono hE ?_)
  rintro u y6 (⟨hne, _⟩ | ⟨_, _, _, ae, ce, rfl, hce, hae, R6, F6⟩)
  · exact absurd (k_encC g1 g2) hne
  have hD6 : ∀ {w' u}, DecR w' kW u → DecR w' (encW [kN g1 g2] [kR]) u := fun h => by rw [k_enc]; exact h
  rw [k_enc] at hce R6 ⊢
  simp (disch := (first | omega | decide | (simp only [rsD] <;> omega) | fail)) only [↓rsC, rsK, rsL, ↓rsImg3_0, tick_eq, tickV_eq, ne_eq, Int.reduceAdd, Int.reduceSub, Int.reduceMul, Int.reduceEq, Int.reduceLT, Int.reduceLE, Int.reduceToNat, Nat.reduceMul, Nat.reduceAdd, Nat.reduceSub, ←decide_not, eq_self]
  refine image_Decode_call (Yld.mono (iDecode_spec R6 hce hae (by decide)) ?_)
  rintro u y7 ⟨F7, D7⟩
  obtain ⟨na, nc, ra, rc, ns', hsame, rfl, G7⟩ := decR_enc (k_good g1 g2) (by omega) (hD6 D7)
  have hf7 := few_same hsame hf
  have hnl : ns'.length = 1 := by simpa using congrArg List.length hsame
  simp (disch := (first | omega | decide | (simp only [rsD] <;> omega) | fail)) only [↓rsC, rsK, rsL, ↓rsImg3_0, tick_eq, tickV_eq, ne_eq, Int.reduceAdd, Int.reduceSub, Int.reduceMul, Int.reduceEq, Int.reduceLT, Int.reduceLE, Int.reduceToNat, Nat.reduceMul, Nat.reduceAdd, Nat.reduceSub, ←decide_not, eq_self]
  have B8 : Blk (y7.alloc (.cells #[.slice na ns'.length nc, .slice ra [kR].length rc] 25)) y7.heap.size 25 [.slice na ns'.length nc, .slice ra [kR].length rc] := Blk.at rfl
  have X8 : Ext [] y7 (y7.alloc (.cells #[.slice na ns'.length nc, .slice ra [kR].length rc] 25)) := Ext.alloc _ _ _
  generalize y7.alloc (.cells #[.slice na ns'.length nc, .slice ra [kR].length rc] 25) = y8 at *
  generalize y7.heap.size = g8 at *
  refine image_Decode_call (Yld.mono (iDecode_spec (l := []) (a := none) (c := 0) .nil (Nat.le_refl _) (fun _ => rfl) (by decide)) ?_)
  rintro u y9 ⟨F9, D9⟩
  rcases D9 with ⟨os, _, _, _, _, _, DO, _⟩ | ⟨_, rfl⟩
  · exact absurd DO (noDec os)
  simp (disch := (first | omega | decide | (simp only [rsD] <;> omega) | fail)) only [↓rsC, rsK, rsL, ↓rsImg3_0, tick_eq, tickV_eq, ne_eq, Int.reduceAdd, Int.reduceSub, Int.reduceMul, Int.reduceEq, Int.reduceLT, Int.reduceLE, Int.reduceToNat, Nat.reduceMul, Nat.reduceAdd, Nat.reduceSub, ←decide_not, eq_self]
  have X10 : Ext [] y9 (y9.alloc (.cells #[.slice none 0 0, .slice none 0 0] 25)) := Ext.alloc _ _ _
  generalize y9.alloc (.cells #[.slice none 0 0, .slice none 0 0] 25) = y10 at *
  have F610 := F7.trans (X8.trans (F9.trans X10))
  have R10 := R6.ext0 F610
  have G10 := G.ext0 (F6.trans F610)
  have G10' := G7.ext0 (X8.trans (F9.trans X10))
  have B5x := (B5.ext (F6.trans F610) (by simp))
  have B8x := (B8.ext (F9.trans X10) (by simp))
  have hkw : ∀ i, i < kW.length → ∃ b o, ae = some ⟨b, o, none⟩ ∧ y10.cell? ⟨b, o + i, none⟩ = some (u64 (wat kW i)) := fun i hi => by
    obtain ⟨b, o, h1, _, h2⟩ := row_w R10 hi
    exact ⟨b, o, h1, h2⟩
  obtain ⟨bw, ow, rfl, c0⟩ := hkw 0 (by decide)
  have hkw : ∀ i, i < kW.length → y10.cell? ⟨bw, ow + i, none⟩ = some (u64 (wat kW i)) := fun i hi => by
    obtain ⟨b, o, h1, h2⟩ := hkw i hi
    cases h1
    exact h2
  rw [Nat.add_zero] at c0
  have c1 := hkw 1 (by decide)
  have c2 := hkw 2 (by decide)
  have c6 := hkw 6 (by decide)
  have c8 := hkw 8 (by decide)
  have c9 := hkw 9 (by decide)
  have e0 : wat kW 0 = BitVec.ofNat 64 1296125772 := rfl
  have e1 : wat kW 1 = BitVec.ofNat 64 655361 := rfl
  have e2 : wat kW 2 = BitVec.ofNat 64 97 := rfl
  have e6 : wat kW 6 = BitVec.ofNat 64 8 := rfl
  have e8 : wat kW 8 = BitVec.ofNat 64 8 := rfl
  have e9 : wat kW 9 = BitVec.ofNat 64 120 := rfl
  rw [e0] at c0
  rw [e1] at c1
  rw [e2] at c2
  rw [e6] at c6
  rw [e8] at c8
  rw [e9] at c9
  have k8 := fun i => B8x.cell (i := i)
  have k5 := fun i => B5x.cell (i := i)
  simp (disch := (first | omega | decide | (simp only [rsD] <;> omega) | fail)) only [↓rsC, rsK, rsL, ↓rsImg3_0, tick_eq, tickV_eq, ne_eq, Int.reduceAdd, Int.reduceSub, Int.reduceMul, Int.reduceEq, Int.reduceLT, Int.reduceLE, Int.reduceToNat, Nat.reduceMul, Nat.reduceAdd, Nat.reduceSub, ←decide_not, c0, c1, c2, c6, c8, c9, k8, k5]
  have hQ : Yld Try.prog n_graph_Equal #[.agg #[.slice na ns'.length nc, .slice ra [kR].length rc], .agg #[.slice (some ⟨g3, 0, none⟩) 1 1, .slice (some ⟨g4, 0, none⟩) 1 1]] y10 fun u w' => BoolR (SameG ns' [kR] [kN g1 g2] [kR]) y10 w' u := GEqual_spec G10' G10 hf7 hf
  refine graph_Equal_call (Yld.mono hQ ?_)
  intro u y11 hb
  obtain ⟨rfl, F11⟩ := boolR_true hb ⟨hsame, rfl⟩
  have k11 := fun i => (B5x.ext F11 (by simp)).cell (i := i)
  simp (disch := (first | omega | decide | (simp only [rsD] <;> omega) | fail)) only [↓rsC, rsK, rsL, ↓rsImg3_0, tick_eq, tickV_eq, ne_eq, Int.reduceAdd, Int.reduceSub, Int.reduceMul, Int.reduceEq, Int.reduceLT, Int.reduceLE, Int.reduceToNat, Nat.reduceMul, Nat.reduceAdd, Nat.reduceSub, ←decide_not, c0, c1, c2, c6, c8, c9, k8, k5, k11]
  have hNd : Gives Try.prog n_image_Need #[.agg #[.slice (some ⟨g3, 0, none⟩) 1 1, .slice (some ⟨g4, 0, none⟩) 1 1]] y11 (i64 ((10 : Nat) : Int)) := by
    have := gneed_spec (G10.ext0 F11) hf (k_good g1 g2)
    rw [hneed] at this
    exact this
  refine image_Need_call (Gives.to hNd fun y12 F12 => ?_)
  simp (disch := (first | omega | decide | (simp only [rsD] <;> omega) | fail)) only [↓rsC, rsK, rsL, ↓rsImg3_0, tick_eq, tickV_eq, ne_eq, Int.reduceAdd, Int.reduceSub, Int.reduceMul, Int.reduceEq, Int.reduceLT, Int.reduceLE, Int.reduceToNat, Nat.reduceMul, Nat.reduceAdd, Nat.reduceSub, ←decide_not, c0, c1, c2, c6, c8, c9, k8, k5, k11]
  exact ⟨by trivial, Xw.trans (F6.trans (F610.trans (F11.trans F12)))⟩
end Go.Proofs.Ytdpmidgeipibbaa
end
section
set_option linter.unusedVariables false
set_option linter.unusedSimpArgs false
set_option maxHeartbeats 4000000
namespace Go.Proofs.Ytdpmidgeipibbaa
open Go.Sh Go.RowKit

theorem gbox (na : Option Addr) (nc : Nat) (ra : Option Addr) (rc : Nat) (ns : List GN) (rs : List GR) (y : World) (K : K1) : xBox Try.prog 25 (gV na nc ra rc ns rs) y K = K (ptr y.heap.size) (y.alloc (.cells #[.slice na ns.length nc, .slice ra rs.length rc] 25)) := xBox_r
end Go.Proofs.Ytdpmidgeipibbaa
end
section
set_option linter.unusedVariables false
set_option linter.unusedSimpArgs false
set_option maxHeartbeats 4000000
namespace Go.Proofs.Ytdpmidgeipibbaa
open Go.Sh Go.RowKit

abbrev rsImg5_0 := (And.intro @xu8_com (And.intro @xu8_eql (And.intro @xu8_neq (And.intro @xu16_com (And.intro @xu16_eql (And.intro @xu16_neq (And.intro @xu32_com (And.intro @xu32_eql (And.intro @xu32_neq (And.intro @xu64_com (And.intro @xu64_eql (And.intro @xu64_neq (And.intro @xi64_eql (And.intro @xi64_neq (And.intro @xi64_neg (And.intro @ld_25 
  (And.intro @ld_34 (And.intro @al_25 (And.intro @al_34 (And.intro @st_25 (And.intro @st_34 @ln_28)))))))))))))))))))))
theorem ImageBack_walk (na ra : Option Addr) (nc rc : Nat) (ns : List GN) (rs : List GR) (w : World) (h : GIs w na nc ra rc ns rs) : Gives Try.prog n_loamlaw23_ImageBack #[gV na nc ra rc ns rs] w (.bool true) := by
  refine loamlaw23_ImageBack_of ?_
  unfold loamlaw23_ImageBack
  rw [gbox]
  have B1 : Blk (w.alloc (.cells #[.slice na ns.length nc, .slice ra rs.length rc] 25)) w.heap.size 25 [.slice na ns.length nc, .slice ra rs.length rc] := Blk.at rfl
  have X1 : Ext [] w (w.alloc (.cells #[.slice na ns.length nc, .slice ra rs.length rc] 25)) := Ext.alloc _ _ _
  have G := h.ext0 X1
  generalize w.alloc (.cells #[.slice na ns.length nc, .slice ra rs.length rc] 25) = y1 at *
  generalize w.heap.size = g1 at *
  refine loamlaw23_known_call (Gives.to (known23_spec y1) fun y3 F3 => ?_)
  have k3 := fun i => (B1.ext F3 (by simp)).cell (i := i)
  simp (disch := (first | omega | decide | (simp only [rsD] <;> omega) | fail)) only [↓rsC, rsK, rsL, ↓rsImg5_0, tick_eq, tickV_eq, ne_eq, Int.reduceAdd, Int.reduceSub, Int.reduceMul, Int.reduceEq, Int.reduceLT, Int.reduceLE, Int.reduceToNat, Nat.reduceMul, Nat.reduceAdd, Nat.reduceSub, ←decide_not, k3]
  refine loamlaw17_Few_call (Yld.mono (Few_spec (G.ext0 F3)) ?_)
  rintro u y4 ⟨⟨b, rfl, hb⟩, F4⟩
  have F14 := F3.trans F4
  cases b with
  | false =>
    simp (disch := (first | omega | decide | (simp only [rsD] <;> omega) | fail)) only [↓rsC, rsK, rsL, ↓rsImg5_0, tick_eq, tickV_eq, ne_eq, Int.reduceAdd, Int.reduceSub, Int.reduceMul, Int.reduceEq, Int.reduceLT, Int.reduceLE, Int.reduceToNat, Nat.reduceMul, Nat.reduceAdd, Nat.reduceSub, ←decide_not, k3]
    exact ⟨by trivial, X1.trans F14⟩
  | true =>
  have hf := hb rfl
  have k4 := fun i => (B1.ext F14 (by simp)).cell (i := i)
  simp (disch := (first | omega | decide | (simp only [rsD] <;> omega) | fail)) only [↓rsC, rsK, rsL, ↓rsImg5_0, tick_eq, tickV_eq, ne_eq, Int.reduceAdd, Int.reduceSub, Int.reduceMul, Int.reduceEq, Int.reduceLT, Int.reduceLE, Int.reduceToNat, Nat.reduceMul, Nat.reduceAdd, Nat.reduceSub, ←decide_not, k3, k4]
  refine loamlaw17_Of_call (Yld.mono (Of_spec17 (G.ext0 F14) (by have := hf.n; omega) (by have := hf.r; omega)) ?_)
  rintro u y5 ⟨F5, na5, nc5, ra5, rc5, rfl, G5⟩
  simp (disch := (first | omega | decide | (simp only [rsD] <;> omega) | fail)) only [↓rsC, rsK, rsL, ↓rsImg5_0, tick_eq, tickV_eq, ne_eq, Int.reduceAdd, Int.reduceSub, Int.reduceMul, Int.reduceEq, Int.reduceLT, Int.reduceLE, Int.reduceToNat, Nat.reduceMul, Nat.reduceAdd, Nat.reduceSub, ←decide_not, k3, k4]
  have B6 : Blk (y5.alloc (.cells #[.slice na5 ns.length nc5, .slice ra5 rs.length rc5] 34)) y5.heap.size 34 [.slice na5 ns.length nc5, .slice ra5 rs.length rc5] := Blk.at rfl
  have X6 : Ext [] y5 (y5.alloc (.cells #[.slice na5 ns.length nc5, .slice ra5 rs.length rc5] 34)) := Ext.alloc _ _ _
  generalize y5.alloc (.cells #[.slice na5 ns.length nc5, .slice ra5 rs.length rc5] 34) = y6 at *
  generalize y5.heap.size = g6 at *
  have F16 := F14.trans (F5.trans X6)
  have k6 := fun i => (B1.ext F16 (by simp)).cell (i := i)
  simp (disch := (first | omega | decide | (simp only [rsD] <;> omega) | fail)) only [↓rsC, rsK, rsL, ↓rsImg5_0, tick_eq, tickV_eq, ne_eq, Int.reduceAdd, Int.reduceSub, Int.reduceMul, Int.reduceEq, Int.reduceLT, Int.reduceLE, Int.reduceToNat, Nat.reduceMul, Nat.reduceAdd, Nat.reduceSub, ←decide_not, k3, k4, k6]
  refine image_Encode_call (Yld.mono (iEncode_spec (G.ext0 F16) hf.h) ?_)
  intro u y7 E7
  have E7x : ∃ a c n, u = .tuple #[.slice a n c, i64 (encC ns rs)] ∧ Ext [] y6 y7 ∧ (encC ns rs ≠ 0 → a = none ∧ n = 0 ∧ c = 0) ∧ (encC ns rs = 0 → n = (encW ns rs).length ∧ n ≤ c ∧ (a = none → c = 0) ∧ GoodG ns rs ∧ 2 + 5 * rs.length + gW ns ≤ 8192 ∧ RowAt y7 a (wrds (encW ns rs))) := by
    rcases E7 with ⟨hne, rfl, F7⟩ | ⟨h0, hg, hN, a7, c7, rfl, hc, hn, R7, F7⟩
    · exact ⟨none, 0, 0, rfl, F7, fun _ => ⟨rfl, rfl, rfl⟩, fun h => absurd h hne⟩
    · exact ⟨a7, c7, _, by rw [h0], F7, fun h => absurd h0 h, fun _ => ⟨rfl, hc, hn, hg, hN, R7⟩⟩
  obtain ⟨a7, c7, n7, rfl, F7, N7, H7⟩ := E7x
  have B67 := B6.ext F7 (by simp)
  have k7 := fun i => B67.cell (i := i)
  simp (disch := (first | omega | decide | (simp only [rsD] <;> omega) | fail)) only [↓rsC, rsK, rsL, ↓rsImg5_0, tick_eq, tickV_eq, ne_eq, Int.reduceAdd, Int.reduceSub, Int.reduceMul, Int.reduceEq, Int.reduceLT, Int.reduceLE, Int.reduceToNat, Nat.reduceMul, Nat.reduceAdd, Nat.reduceSub, ←decide_not, k3, k4, k6, k7]
  refine loamref17_Encode_call (Yld.mono (EncodeX_spec ((G5.ext0 X6).ext0 F7) hf) ?_)
  intro u y8 E8
  have E8x : ∃ a c n, u = .tuple #[.slice a n c, i64 (encC ns rs)] ∧ Ext [] y7 y8 ∧ (encC ns rs ≠ 0 → a = none ∧ n = 0 ∧ c = 0) ∧ (encC ns rs = 0 → n = (encW ns rs).length ∧ RowAt y8 a (wrds (encW ns rs))) := by
    rcases E8 with ⟨hne, rfl, F8⟩ | ⟨h0, hg, hN, a8, c8, rfl, _, _, R8, F8⟩
    · exact ⟨none, 0, 0, rfl, F8, fun _ => ⟨rfl, rfl, rfl⟩, fun h => absurd h hne⟩
    · exact ⟨a8, c8, _, by rw [h0], F8, fun h => absurd h0 h, fun _ => ⟨rfl, R8⟩⟩
  obtain ⟨a8, c8, n8, rfl, F8, N8, H8⟩ := E8x
  have F18 := F16.trans (F7.trans F8)
  have B68 := B67.ext F8 (by simp)
  have B18 := B1.ext F18 (by simp)
  by_cases hz : encC ns rs = 0
  case neg =>
    obtain ⟨rfl, rfl, rfl⟩ := N7 hz
    obtain ⟨rfl, rfl, rfl⟩ := N8 hz
    have hw := w23_spec (w := y8) (p := []) (q := []) (a := none) (a' := none) (c := 0) (c' := 0) .nil .nil (by simp) (by simp)
    simp (disch := (first | omega | decide | (simp only [rsD] <;> omega) | fail)) only [↓rsC, rsK, rsL, ↓rsImg5_0, tick_eq, tickV_eq, ne_eq, Int.reduceAdd, Int.reduceSub, Int.reduceMul, Int.reduceEq, Int.reduceLT, Int.reduceLE, Int.reduceToNat, Nat.reduceMul, Nat.reduceAdd, Nat.reduceSub, ←decide_not, k3, k4, k6, k7]
    refine loamlaw23_words_call (Gives.to hw fun y9 F9 => ?_)
    have Fd := F9.trans (Ext.drew [] y9)
    have kd := fun i => (B18.ext Fd (by simp)).cell (i := i)
    have kd6 := fun i => (B68.ext Fd (by simp)).cell (i := i)
    by_cases h3 : encC ns rs = 3
    case neg =>
      simp (disch := (first | omega | decide | (simp only [rsD] <;> omega) | fail)) only [↓rsC, rsK, rsL, ↓rsImg5_0, tick_eq, tickV_eq, ne_eq, Int.reduceAdd, Int.reduceSub, Int.reduceMul, Int.reduceEq, Int.reduceLT, Int.reduceLE, Int.reduceToNat, Nat.reduceMul, Nat.reduceAdd, Nat.reduceSub, ←decide_not, k3, k4, k6, k7, hz, h3, kd, kd6]
      exact ⟨by trivial, X1.trans (F18.trans Fd)⟩
    have z3 : ¬ ((3 : Int) = 0) := by decide
    have Gd := ((G5.ext0 X6).ext0 F7).ext0 (F8.trans Fd)
    rw [h3]
    simp (disch := (first | omega | decide | (simp only [rsD] <;> omega) | fail)) only [↓rsC, rsK, rsL, ↓rsImg5_0, tick_eq, tickV_eq, ne_eq, Int.reduceAdd, Int.reduceSub, Int.reduceMul, Int.reduceEq, Int.reduceLT, Int.reduceLE, Int.reduceToNat, Nat.reduceMul, Nat.reduceAdd, Nat.reduceSub, ←decide_not, k3, k4, k6, k7, kd, kd6]
    refine loamref17_Check_call (Yld.mono (GCheckX_spec Gd hf) ?_)
    rintro u y10 ⟨rfl, F10⟩
    by_cases hc : chkV ns rs = 0
    case neg =>
      simp (disch := (first | omega | decide | (simp only [rsD] <;> omega) | fail)) only [↓rsC, rsK, rsL, ↓rsImg5_0, tick_eq, tickV_eq, ne_eq, Int.reduceAdd, Int.reduceSub, Int.reduceMul, Int.reduceEq, Int.reduceLT, Int.reduceLE, Int.reduceToNat, Nat.reduceMul, Nat.reduceAdd, Nat.reduceSub, ←decide_not, k3, k4, k6, k7, kd, kd6, hc]
      exact ⟨by trivial, X1.trans (F18.trans (Fd.trans F10))⟩
    have hg := chk_zero.1 hc
    have Fe := Fd.trans F10
    have ke := fun i => (B18.ext Fe (by simp)).cell (i := i)
    have ke6 := fun i => (B68.ext Fe (by simp)).cell (i := i)
    simp (disch := (first | omega | decide | (simp only [rsD] <;> omega) | fail)) only [↓rsC, rsK, rsL, ↓rsImg5_0, tick_eq, tickV_eq, ne_eq, Int.reduceAdd, Int.reduceSub, Int.reduceMul, Int.reduceEq, Int.reduceLT, Int.reduceLE, Int.reduceToNat, Nat.reduceMul, Nat.reduceAdd, Nat.reduceSub, ←decide_not, k3, k4, k6, k7, kd, kd6, hc, ke, ke6]
    refine image_Need_call (Gives.to (gneed_spec (G.ext0 (F18.trans Fe)) hf.h hg) fun y11 F11 => ?_)
    have Ff := Fe.trans F11
    have kf6 := fun i => (B68.ext Ff (by simp)).cell (i := i)
    simp (disch := (first | omega | decide | (simp only [rsD] <;> omega) | fail)) only [↓rsC, rsK, rsL, ↓rsImg5_0, tick_eq, tickV_eq, ne_eq, Int.reduceAdd, Int.reduceSub, Int.reduceMul, Int.reduceEq, Int.reduceLT, Int.reduceLE, Int.reduceToNat, Nat.reduceMul, Nat.reduceAdd, Nat.reduceSub, ←decide_not, k3, k4, k6, k7, kd, kd6, hc, ke, ke6, kf6]
    refine loamref17_Need_call (Gives.to (GNeed_spec (Gd.ext0 (F10.trans F11)) hf hg) fun y12 F12 => ?_)
    simp (disch := (first | omega | decide | (simp only [rsD] <;> omega) | fail)) only [↓rsC, rsK, rsL, ↓rsImg5_0, tick_eq, tickV_eq, ne_eq, Int.reduceAdd, Int.reduceSub, Int.reduceMul, Int.reduceEq, Int.reduceLT, Int.reduceLE, Int.reduceToNat, Nat.reduceMul, Nat.reduceAdd, Nat.reduceSub, ←decide_not, k3, k4, k6, k7, kd, kd6, hc, ke, ke6, kf6]
    exact ⟨by trivial, X1.trans (F18.trans (Ff.trans F12))⟩
  obtain ⟨rfl, hc7, hn7, hg, hN, R7⟩ := H7 hz
  obtain ⟨rfl, R8⟩ := H8 hz
  have hlen := enc_len hg
  rw [hz]
  simp (disch := (first | omega | decide | (simp only [rsD] <;> omega) | fail)) only [↓rsC, rsK, rsL, ↓rsImg5_0, tick_eq, tickV_eq, ne_eq, Int.reduceAdd, Int.reduceSub, Int.reduceMul, Int.reduceEq, Int.reduceLT, Int.reduceLE, Int.reduceToNat, Nat.reduceMul, Nat.reduceAdd, Nat.reduceSub, ←decide_not, k3, k4, k6, k7]
  refine loamlaw23_words_call (Gives.to (w23_spec (R7.ext0 F8) R8 (by omega) (by omega)) fun y9 F9 => ?_)
  rw [decide_eq_true rfl]
  simp (disch := (first | omega | decide | (simp only [rsD] <;> omega) | fail)) only [↓rsC, rsK, rsL, ↓rsImg5_0, tick_eq, tickV_eq, ne_eq, Int.reduceAdd, Int.reduceSub, Int.reduceMul, Int.reduceEq, Int.reduceLT, Int.reduceLE, Int.reduceToNat, Nat.reduceMul, Nat.reduceAdd, Nat.reduceSub, ←decide_not, k3, k4, k6, k7]
  refine image_Decode_call (Yld.mono (iDecode_spec ((R7.ext0 F8).ext0 F9) hc7 hn7 (by omega)) ?_)
  rintro u y10 ⟨F10, D⟩
  obtain ⟨na1, nc1, ra1, rc1, ns1, hsame, rfl, G1⟩ := decR_enc hg hN D
  have hf1 := few_same hsame hf.h
  simp (disch := (first | omega | decide | (simp only [rsD] <;> omega) | fail)) only [↓rsC, rsK, rsL, ↓rsImg5_0, tick_eq, tickV_eq, ne_eq, Int.reduceAdd, Int.reduceSub, Int.reduceMul, Int.reduceEq, Int.reduceLT, Int.reduceLE, Int.reduceToNat, Nat.reduceMul, Nat.reduceAdd, Nat.reduceSub, ←decide_not, k3, k4, k6, k7]
  have Ba : Blk (y10.alloc (.cells #[.slice na1 ns1.length nc1, .slice ra1 rs.length rc1] 25)) y10.heap.size 25 [.slice na1 ns1.length nc1, .slice ra1 rs.length rc1] := Blk.at rfl
  have Xa : Ext [] y10 (y10.alloc (.cells #[.slice na1 ns1.length nc1, .slice ra1 rs.length rc1] 25)) := Ext.alloc _ _ _
  generalize y10.alloc (.cells #[.slice na1 ns1.length nc1, .slice ra1 rs.length rc1] 25) = ya at *
  generalize y10.heap.size = ga at *
  have Fa := F9.trans (F10.trans Xa)
  have ka := fun i => Ba.cell (i := i)
  have k1a := fun i => (B18.ext Fa (by simp)).cell (i := i)
  simp (disch := (first | omega | decide | (simp only [rsD] <;> omega) | fail)) only [↓rsC, rsK, rsL, ↓rsImg5_0, tick_eq, tickV_eq, ne_eq, Int.reduceAdd, Int.reduceSub, Int.reduceMul, Int.reduceEq, Int.reduceLT, Int.reduceLE, Int.reduceToNat, Nat.reduceMul, Nat.reduceAdd, Nat.reduceSub, ←decide_not, k3, k4, k6, k7, ka, k1a]
  refine graph_Equal_call (Yld.mono (GEqual_spec (G1.ext0 Xa) (G.ext0 (F18.trans Fa)) hf1 hf.h) ?_)
  intro u yb hb
  obtain ⟨rfl, Fb⟩ := boolR_true hb ⟨hsame, rfl⟩
  have k1b := fun i => (B18.ext (Fa.trans Fb) (by simp)).cell (i := i)
  simp (disch := (first | omega | decide | (simp only [rsD] <;> omega) | fail)) only [↓rsC, rsK, rsL, ↓rsImg5_0, tick_eq, tickV_eq, ne_eq, Int.reduceAdd, Int.reduceSub, Int.reduceMul, Int.reduceEq, Int.reduceLT, Int.reduceLE, Int.reduceToNat, Nat.reduceMul, Nat.reduceAdd, Nat.reduceSub, ←decide_not, k3, k4, k6, k7, ka, k1a, k1b]
  refine image_Need_call (Gives.to (gneed_spec (G.ext0 (F18.trans (Fa.trans Fb))) hf.h hg) fun yc Fc => ?_)
  rw [hlen]
  simp (disch := (first | omega | decide | (simp only [rsD] <;> omega) | fail)) only [↓rsC, rsK, rsL, ↓rsImg5_0, tick_eq, tickV_eq, ne_eq, Int.reduceAdd, Int.reduceSub, Int.reduceMul, Int.reduceEq, Int.reduceLT, Int.reduceLE, Int.reduceToNat, Nat.reduceMul, Nat.reduceAdd, Nat.reduceSub, ←decide_not, k3, k4, k6, k7, ka, k1a, k1b]
  exact ⟨by trivial, X1.trans (F18.trans (Fa.trans (Fb.trans Fc)))⟩
theorem ImageBack_spec (a : GP) (w : World) (h : GIs w a.na a.nc a.ra a.rc a.ns a.rs) : Gives Try.prog n_loamlaw23_ImageBack #[gPV a] w (.bool true) := by
  obtain ⟨na, nc, ra, rc, ns, rs⟩ := a
  exact ImageBack_walk na ra nc rc ns rs w h
end Go.Proofs.Ytdpmidgeipibbaa
end
