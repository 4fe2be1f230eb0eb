/- Two graphs are equal, by the program (sq). Two graphs are equal, by the program and by the document (sq). Two graphs are equal, by the document (sq). Orders and canons over bare nodes; a trimmed graph is few. What the statements on graphs begin with (sq). The order in which nodes come, by the program (sq). The document's Named and Walk (sq). A node put behind others. The document's Pick: where nodes go (sq). The document's Canon (sq). The document's Trim (sq). The statement GraphAny walked (sq). A trimmed graph trimmed again. A graph numbered as its nodes come, by the program (sq). Two graphs are the same but for their numbers, by the program (sq). The statement GraphTrims walked (sq). -/
import Derived.Test.YthhcmoknppljpaaPk1
section
set_option linter.unusedVariables false
set_option linter.unusedSimpArgs false
set_option maxHeartbeats 4000000
namespace Go.Proofs.Ythhcmoknppljpaa
open Go.Sh Go.RowKit

theorem strOf_inj {p q : List (BitVec 8)} : strOf p = strOf q ↔ p = q := by
  constructor
  · intro h
    have h2 : (strOf p).toList = (strOf q).toList := by rw [h]
    rw [strOf_list, strOf_list] at h2
    have := congrArg (List.map UInt8.toBitVec) h2
    rw [List.map_map, List.map_map] at this
    have e : (UInt8.toBitVec ∘ UInt8.ofBitVec) = id := rfl
    rw [e, List.map_id, List.map_id] at this
    exact this
  · intro h; rw [h]
abbrev rsEqg1_0 := (And.intro @xu8_add (And.intro @xu8_neq (And.intro @xu8_lss (And.intro @xu16_add (And.intro @xu16_neq (And.intro @xu16_lss (And.intro @xu32_add (And.intro @xu32_neq (And.intro @xu32_lss (And.intro @xu64_add (And.intro @xu64_neq (And.intro @xu64_lss (And.intro @xi64_lss (And.intro @xi64_neq (And.intro @xi64_neg (And.intro @ld_3 
  (And.intro @ia_26 @ln_26)))))))))))))))))
theorem EqualI_spec {w : World} {p q : List Int} {a a' : Option Addr} {c c' : Nat} (h : RowAt w a (its p)) (h' : RowAt w a' (its q)) (hp : p.length ≤ 1000000) (hq : q.length ≤ 1000000) : Gives Try.prog n_slices_Equal_int_int #[.slice a p.length c, .slice a' q.length c'] w (.bool (decide (p = q))) := by
  refine slices_Equal_int_int_of ?_
  unfold slices_Equal_int_int
  by_cases hne : p.length = q.length
  case neg =>
    have : ¬ ((p.length : Int) = q.length) := by omega
    simp (disch := (first | omega | decide | (simp only [rsD] <;> omega) | fail)) only [↓rsC, rsK, rsL, ↓rsEqg1_0, tick_eq, tickV_eq, ne_eq, Int.reduceAdd, Int.reduceSub, Int.reduceMul, Int.reduceEq, Int.reduceLT, Int.reduceLE, Int.reduceToNat, Nat.reduceMul, Nat.reduceAdd, Nat.reduceSub, ←decide_not, eq_self]
    exact ⟨by rw [decide_eq_false (fun e => hne (by rw [e]))], Ext.refl _ _⟩
  have : ((p.length : Int) = q.length) := by omega
  simp (disch := (first | omega | decide | (simp only [rsD] <;> omega) | fail)) only [↓rsC, rsK, rsL, ↓rsEqg1_0, tick_eq, tickV_eq, ne_eq, Int.reduceAdd, Int.reduceSub, Int.reduceMul, Int.reduceEq, Int.reduceLT, Int.reduceLE, Int.reduceToNat, Nat.reduceMul, Nat.reduceAdd, Nat.reduceSub, ←decide_not, eq_self]
  refine xLoop_n p.length (fun j => [i64 (j : Int)]) (fun j w' => Ext [] w w' ∧ ∀ i (hi : i < p.length) (hi' : i < q.length), i < j → p[i] = q[i]) rfl ⟨Ext.refl _ _, by intro i _ _ hi; omega⟩ ?_ ?_
  · rintro j hj u w1 hu ⟨F, hq2⟩ nxt hn
    simp only [List.map_cons, List.map_nil, List.cons.injEq, and_true] at hu
    rw [hu]
    unfold slices_Equal_int_int_l1
    have F1 := F.trans (Ext.drew [] w1)
    have hj' : j < q.length := by omega
    obtain ⟨b, o, rfl, hlt, hc⟩ := its_at (h.ext0 F1) hj
    obtain ⟨b', o', rfl, hlt', hc'⟩ := its_at (h'.ext0 F1) hj'
    by_cases e : p[j] = q[j]
    · have hnx : Ext [] w w1.drew ∧ ∀ i (hi : i < p.length) (hi' : i < q.length), i < j + 1 → p[i] = q[i] := ⟨F1, fun i hi hi' h3 => by
        by_cases ei : i = j
        · subst ei; exact e
        · exact hq2 i hi hi' (by omega)⟩
      rw [e] at hc
      generalize q[j] = z at *
      simp (disch := (first | omega | decide | (simp only [rsD] <;> omega) | fail)) only [↓rsC, rsK, rsL, ↓rsEqg1_0, tick_eq, tickV_eq, ne_eq, Int.reduceAdd, Int.reduceSub, Int.reduceMul, Int.reduceEq, Int.reduceLT, Int.reduceLE, Int.reduceToNat, Nat.reduceMul, Nat.reduceAdd, Nat.reduceSub, ←decide_not, hc, hc']
      exact hn _ hnx
    · have hno : ¬ p = q := fun e2 => e (by subst e2; rfl)
      generalize q[j] = z at *
      generalize p[j] = y at *
      simp (disch := (first | omega | decide | (simp only [rsD] <;> omega) | fail)) only [↓rsC, rsK, rsL, ↓rsEqg1_0, tick_eq, tickV_eq, ne_eq, Int.reduceAdd, Int.reduceSub, Int.reduceMul, Int.reduceEq, Int.reduceLT, Int.reduceLE, Int.reduceToNat, Nat.reduceMul, Nat.reduceAdd, Nat.reduceSub, ←decide_not, hc, hc', e]
      exact ⟨by rw [decide_eq_false hno], F1⟩
  · rintro u w1 hu ⟨F, hq2⟩ nxt
    simp only [List.map_cons, List.map_nil, List.cons.injEq, and_true] at hu
    rw [hu]
    unfold slices_Equal_int_int_l1
    simp (disch := (first | omega | decide | (simp only [rsD] <;> omega) | fail)) only [↓rsC, rsK, rsL, ↓rsEqg1_0, tick_eq, tickV_eq, ne_eq, Int.reduceAdd, Int.reduceSub, Int.reduceMul, Int.reduceEq, Int.reduceLT, Int.reduceLE, Int.reduceToNat, Nat.reduceMul, Nat.reduceAdd, Nat.reduceSub, ←decide_not, eq_self]
    refine ⟨?_, F⟩
    rw [decide_eq_true]
    exact List.ext_getElem hne fun i h1 h2 => hq2 i h1 h2 h1
abbrev rsEqg1_1 := (And.intro @xu8_eql (And.intro @xu16_eql (And.intro @xu32_eql (And.intro @xu64_eql @xi64_eql))))
theorem EqualB_spec {w : World} {p q : List (BitVec 8)} {a a' : Option Addr} {c c' : Nat} (h : RowAt w a (bys p)) (h' : RowAt w a' (bys q)) (hp : p.length ≤ 1000000) (hq : q.length ≤ 1000000) : Gives Try.prog n_bytes_Equal #[.slice a p.length c, .slice a' q.length c'] w (.bool (decide (p = q))) := by
  refine bytes_Equal_of ?_
  unfold bytes_Equal
  have hcv := fun (K : K1) => xConv_str (P := Try.prog) (w := w) (s := 51) (d := 9) (e := 5) (a := a) (n := p.length) (c := c) (l := p) (K := K) (by kernel_rfl) (by kernel_rfl) (by kernel_rfl) rfl h
  have hcv' := fun (K : K1) => xConv_str (P := Try.prog) (w := w) (s := 51) (d := 9) (e := 5) (a := a') (n := q.length) (c := c') (l := q) (K := K) (by kernel_rfl) (by kernel_rfl) (by kernel_rfl) rfl h'
  simp (disch := (first | omega | decide | (simp only [rsD] <;> omega) | fail)) only [↓rsC, rsK, rsL, ↓rsEqg1_1, tick_eq, tickV_eq, ne_eq, Int.reduceAdd, Int.reduceSub, Int.reduceMul, Int.reduceEq, Int.reduceLT, Int.reduceLE, Int.reduceToNat, Nat.reduceMul, Nat.reduceAdd, Nat.reduceSub, ←decide_not, hcv, hcv']
  exact ⟨by rw [decide_eq_decide.2 strOf_inj], Ext.refl _ _⟩
abbrev rsEqg1_2 := (And.intro @ld_26 (And.intro @ld_51 (And.intro @fa_53_0 @fa_53_1)))
theorem eqN_spec {w : World} {x y : GN} (hx : NOk w x) (hy : NOk w y) (lx : x.p.length ≤ 1000000 ∧ x.d.length ≤ 1000000) (ly : y.p.length ≤ 1000000 ∧ y.d.length ≤ 1000000) : Gives Try.prog n_graph_Equal_1 #[.agg (gnC x).toArray, .agg (gnC y).toArray] w (.bool (decide (x.p = y.p ∧ x.d = y.d))) := by
  refine graph_Equal_1_of ?_
  unfold graph_Equal_1
  have bx : ∀ (z : GN) (y : World) (K : K1), xBox Try.prog 53 (.agg (gnC z).toArray) y K = K (ptr y.heap.size) (y.alloc (.cells (gnC z).toArray 53)) := fun z y K => xBox_r
  rw [bx, bx]
  have B1 : Blk (w.alloc (.cells (gnC x).toArray 53)) w.heap.size 53 (gnC x) := Blk.at rfl
  have X1 : Ext [] w (w.alloc (.cells (gnC x).toArray 53)) := Ext.alloc _ _ _
  generalize w.alloc (.cells (gnC x).toArray 53) = y1 at *
  generalize w.heap.size = g1 at *
  have B2 : Blk (y1.alloc (.cells (gnC y).toArray 53)) y1.heap.size 53 (gnC y) := Blk.at rfl
  have X2 : Ext [] y1 (y1.alloc (.cells (gnC y).toArray 53)) := Ext.alloc _ _ _
  generalize y1.alloc (.cells (gnC y).toArray 53) = y2 at *
  generalize y1.heap.size = g2 at *
  have B12 := B1.ext X2 (by simp)
  have X12 := X1.trans X2
  have k1 := fun i => B12.cell (i := i)
  have k2 := fun i => B2.cell (i := i)
  have hx2 := hx.ext0 X12
  have hy2 := hy.ext0 X12
  simp (disch := (first | omega | decide | (simp only [rsD] <;> omega) | fail)) only [↓rsC, rsK, rsL, ↓rsEqg1_2, tick_eq, tickV_eq, ne_eq, Int.reduceAdd, Int.reduceSub, Int.reduceMul, Int.reduceEq, Int.reduceLT, Int.reduceLE, Int.reduceToNat, Nat.reduceMul, Nat.reduceAdd, Nat.reduceSub, ←decide_not, k1, k2]
  refine slices_Equal_int_int_call (Gives.to (EqualI_spec hx2.pr hy2.pr lx.1 ly.1) fun y3 F3 => ?_)
  have k3 := fun i => (B12.ext F3 (by simp)).cell (i := i)
  have k4 := fun i => (B2.ext F3 (by simp)).cell (i := i)
  by_cases hp : x.p = y.p
  · rw [decide_eq_true hp]
    simp (disch := (first | omega | decide | (simp only [rsD] <;> omega) | fail)) only [↓rsC, rsK, rsL, ↓rsEqg1_2, tick_eq, tickV_eq, ne_eq, Int.reduceAdd, Int.reduceSub, Int.reduceMul, Int.reduceEq, Int.reduceLT, Int.reduceLE, Int.reduceToNat, Nat.reduceMul, Nat.reduceAdd, Nat.reduceSub, ←decide_not, k1, k2, k3, k4]
    refine bytes_Equal_call (Gives.to (EqualB_spec (hx2.dr.ext0 F3) (hy2.dr.ext0 F3) lx.2 ly.2) fun y4 F4 => ?_)
    simp (disch := (first | omega | decide | (simp only [rsD] <;> omega) | fail)) only [↓rsC, rsK, rsL, ↓rsEqg1_2, tick_eq, tickV_eq, ne_eq, Int.reduceAdd, Int.reduceSub, Int.reduceMul, Int.reduceEq, Int.reduceLT, Int.reduceLE, Int.reduceToNat, Nat.reduceMul, Nat.reduceAdd, Nat.reduceSub, ←decide_not, k1, k2, k3, k4]
    have e : decide (x.d = y.d) = decide (x.p = y.p ∧ x.d = y.d) := decide_eq_decide.2 ⟨fun h => ⟨hp, h⟩, fun h => h.2⟩
    rw [e]
    exact ⟨rfl, X12.trans (F3.trans F4)⟩
  · rw [decide_eq_false hp]
    simp (disch := (first | omega | decide | (simp only [rsD] <;> omega) | fail)) only [↓rsC, rsK, rsL, ↓rsEqg1_2, tick_eq, tickV_eq, ne_eq, Int.reduceAdd, Int.reduceSub, Int.reduceMul, Int.reduceEq, Int.reduceLT, Int.reduceLE, Int.reduceToNat, Nat.reduceMul, Nat.reduceAdd, Nat.reduceSub, ←decide_not, k1, k2]
    exact ⟨by rw [decide_eq_false (fun h => hp h.1)], X12.trans F3⟩
abbrev SameN (ns ns' : List GN) : Prop := ns.map bare = ns'.map bare
abbrev SameG (ns : List GN) (rs : List GR) (ns' : List GN) (rs' : List GR) : Prop := SameN ns ns' ∧ rs = rs'
theorem bare_eq {x y : GN} : bare x = bare y ↔ x.p = y.p ∧ x.d = y.d := by
  constructor
  · intro h
    show (bare x).p = (bare y).p ∧ (bare x).d = (bare y).d
    rw [h]
    exact ⟨rfl, rfl⟩
  · rintro ⟨h1, h2⟩
    unfold bare
    rw [h1, h2]
theorem sameN_at {ns ns' : List GN} (hl : ns.length = ns'.length) : SameN ns ns' ↔ ∀ i (h : i < ns.length) (h' : i < ns'.length), ns[i].p = ns'[i].p ∧ ns[i].d = ns'[i].d := by
  constructor
  · intro h i h1 h2
    have : (ns.map bare)[i]? = (ns'.map bare)[i]? := by rw [h]
    rw [List.getElem?_map, List.getElem?_map, List.getElem?_eq_getElem h1, List.getElem?_eq_getElem h2] at this
    exact bare_eq.1 (Option.some.inj this)
  · intro h
    refine List.ext_getElem (by simpa using hl) fun i h1 h2 => ?_
    rw [List.getElem_map, List.getElem_map]
    exact bare_eq.2 (h i (by simpa using h1) (by simpa using h2))
abbrev BoolR (p : Prop) (w w' : World) (u : Value) : Prop := (∃ b : Bool, u = .bool b ∧ (b = true ↔ p)) ∧ Ext [] w w'
abbrev rsEqg1_3 := (And.intro @xu8_add (And.intro @xu8_com (And.intro @xu8_neq (And.intro @xu8_lss (And.intro @xu16_add (And.intro @xu16_com (And.intro @xu16_neq (And.intro @xu16_lss (And.intro @xu32_add (And.intro @xu32_com (And.intro @xu32_neq (And.intro @xu32_lss (And.intro @xu64_add (And.intro @xu64_com (And.intro @xu64_neq (And.intro @xu64_lss 
  (And.intro @xi64_lss (And.intro @xi64_neq (And.intro @xi64_neg (And.intro @ld_53 (And.intro @al_53 (And.intro @st_53 (And.intro @ia_22 @ln_22)))))))))))))))))))))))
theorem eqNs_spec {w : World} {ns ns' : List GN} {na na' : Option Addr} {nc nc' : Nat} (h : RowAt w na (ns.flatMap gnC)) (h' : RowAt w na' (ns'.flatMap gnC)) (hk : ∀ x ∈ ns, NOk w x) (hk' : ∀ x ∈ ns', NOk w x)
    (hf : ns.length ≤ 100000 ∧ ∀ x ∈ ns, x.p.length ≤ 1000000 ∧ x.d.length ≤ 1000000) (hf' : ns'.length ≤ 100000 ∧ ∀ x ∈ ns', x.p.length ≤ 1000000 ∧ x.d.length ≤ 1000000) :
    Yld Try.prog n_slices_EqualFunc_graph_Node_graph_Node_graph_Node_graph_Node #[.slice na ns.length nc, .slice na' ns'.length nc', .func (.func n_graph_Equal_1) #[] #[]] w fun u w' => BoolR (SameN ns ns') w w' u := by
  refine slices_EqualFunc_graph_Node_graph_Node_graph_Node_graph_Node_of ?_
  unfold slices_EqualFunc_graph_Node_graph_Node_graph_Node_graph_Node
  by_cases hne : ns.length = ns'.length
  case neg =>
    have : ¬ ((ns.length : Int) = ns'.length) := by omega
    simp (disch := (first | omega | decide | (simp only [rsD] <;> omega) | fail)) only [↓rsC, rsK, rsL, ↓rsEqg1_3, tick_eq, tickV_eq, ne_eq, Int.reduceAdd, Int.reduceSub, Int.reduceMul, Int.reduceEq, Int.reduceLT, Int.reduceLE, Int.reduceToNat, Nat.reduceMul, Nat.reduceAdd, Nat.reduceSub, ←decide_not, eq_self]
    exact ⟨⟨false, rfl, by simp; intro h; exact hne (by simpa using congrArg List.length h)⟩, Ext.refl _ _⟩
  have : ((ns.length : Int) = ns'.length) := by omega
  simp (disch := (first | omega | decide | (simp only [rsD] <;> omega) | fail)) only [↓rsC, rsK, rsL, ↓rsEqg1_3, tick_eq, tickV_eq, ne_eq, Int.reduceAdd, Int.reduceSub, Int.reduceMul, Int.reduceEq, Int.reduceLT, Int.reduceLE, Int.reduceToNat, Nat.reduceMul, Nat.reduceAdd, Nat.reduceSub, ←decide_not, eq_self]
  refine xLoop_n ns.length (fun j => [i64 (j : Int)]) (fun j w' => Ext [] w w' ∧ ∀ i (hi : i < ns.length) (hi' : i < ns'.length), i < j → ns[i].p = ns'[i].p ∧ ns[i].d = ns'[i].d) rfl ⟨Ext.refl _ _, by intro i _ _ hi; omega⟩ ?_ ?_
  · rintro j hj u w1 hu ⟨F, hq2⟩ nxt hn
    simp only [List.map_cons, List.map_nil, List.cons.injEq, and_true] at hu
    rw [hu]
    have hj' : j < ns'.length := by omega
    obtain ⟨b, o, rfl, hlt, c1, c2⟩ := gn_at (h.ext0 F) hj
    have m1 := List.getElem_mem hj
    have m2 := List.getElem_mem hj'
    have x1 := (hk _ m1).ext0 F
    have x2 := (hk' _ m2).ext0 F
    have l1 := hf.2 _ m1
    have l2 := hf'.2 _ m2
    unfold slices_EqualFunc_graph_Node_graph_Node_graph_Node_graph_Node_l1
    simp (disch := (first | omega | decide | (simp only [rsD] <;> omega) | fail)) only [↓rsC, rsK, rsL, ↓rsEqg1_3, tick_eq, tickV_eq, ne_eq, Int.reduceAdd, Int.reduceSub, Int.reduceMul, Int.reduceEq, Int.reduceLT, Int.reduceLE, Int.reduceToNat, Nat.reduceMul, Nat.reduceAdd, Nat.reduceSub, ←decide_not, c1, c2]
    have B1 : Blk (w1.alloc (.cells (gnC ns[j]).toArray 53)) w1.heap.size 53 (gnC ns[j]) := Blk.at rfl
    have X1 : Ext [] w1 (w1.alloc (.cells (gnC ns[j]).toArray 53)) := Ext.alloc _ _ _
    obtain ⟨bb, oo, rfl, hlt2, c3, c4⟩ := gn_at (h'.ext0 (F.trans X1)) hj'
    have x1 := x1.ext0 X1
    have x2 := x2.ext0 X1
    have F1 := F.trans X1
    generalize w1.alloc (.cells (gnC ns[j]).toArray 53) = y1 at *
    generalize w1.heap.size = g1 at *
    simp (disch := (first | omega | decide | (simp only [rsD] <;> omega) | fail)) only [↓rsC, rsK, rsL, ↓rsEqg1_3, tick_eq, tickV_eq, ne_eq, Int.reduceAdd, Int.reduceSub, Int.reduceMul, Int.reduceEq, Int.reduceLT, Int.reduceLE, Int.reduceToNat, Nat.reduceMul, Nat.reduceAdd, Nat.reduceSub, ←decide_not, c1, c2, c3, c4]
    have B2 : Blk (y1.alloc (.cells (gnC ns'[j]).toArray 53)) y1.heap.size 53 (gnC ns'[j]) := Blk.at rfl
    have X2 : Ext [] y1 (y1.alloc (.cells (gnC ns'[j]).toArray 53)) := Ext.alloc _ _ _
    have x1 := x1.ext0 X2
    have x2 := x2.ext0 X2
    have F2 := F1.trans X2
    have B12 := B1.ext X2 (by simp)
    generalize y1.alloc (.cells (gnC ns'[j]).toArray 53) = y2 at *
    generalize y1.heap.size = g2 at *
    have k1 := fun i => B12.cell (i := i)
    have k2 := fun i => B2.cell (i := i)
    simp (disch := (first | omega | decide | (simp only [rsD] <;> omega) | fail)) only [↓rsC, rsK, rsL, ↓rsEqg1_3, tick_eq, tickV_eq, ne_eq, Int.reduceAdd, Int.reduceSub, Int.reduceMul, Int.reduceEq, Int.reduceLT, Int.reduceLE, Int.reduceToNat, Nat.reduceMul, Nat.reduceAdd, Nat.reduceSub, ←decide_not, c1, c2, c3, c4, k1, k2]
    refine graph_Equal_1_call (Gives.to (eqN_spec x1 x2 l1 l2) fun y3 F3 => ?_)
    by_cases he : ns[j].p = ns'[j].p ∧ ns[j].d = ns'[j].d
    · rw [decide_eq_true he]
      simp (disch := (first | omega | decide | (simp only [rsD] <;> omega) | fail)) only [↓rsC, rsK, rsL, ↓rsEqg1_3, tick_eq, tickV_eq, ne_eq, Int.reduceAdd, Int.reduceSub, Int.reduceMul, Int.reduceEq, Int.reduceLT, Int.reduceLE, Int.reduceToNat, Nat.reduceMul, Nat.reduceAdd, Nat.reduceSub, ←decide_not, c1, c2, c3, c4, k1, k2]
      refine hn _ ⟨F2.trans F3, fun i hi hi' h3 => ?_⟩
      by_cases ei : i = j
      · subst ei; exact he
      · exact hq2 i hi hi' (by omega)
    · rw [decide_eq_false he]
      simp (disch := (first | omega | decide | (simp only [rsD] <;> omega) | fail)) only [↓rsC, rsK, rsL, ↓rsEqg1_3, tick_eq, tickV_eq, ne_eq, Int.reduceAdd, Int.reduceSub, Int.reduceMul, Int.reduceEq, Int.reduceLT, Int.reduceLE, Int.reduceToNat, Nat.reduceMul, Nat.reduceAdd, Nat.reduceSub, ←decide_not, c1, c2, c3, c4, k1, k2]
      exact ⟨⟨false, rfl, by simp only [Bool.false_eq_true, false_iff]; exact fun h => he ((sameN_at hne).1 h j hj hj')⟩, F2.trans F3⟩
  · rintro u w1 hu ⟨F, hq2⟩ nxt
    simp only [List.map_cons, List.map_nil, List.cons.injEq, and_true] at hu
    rw [hu]
    unfold slices_EqualFunc_graph_Node_graph_Node_graph_Node_graph_Node_l1
    simp (disch := (first | omega | decide | (simp only [rsD] <;> omega) | fail)) only [↓rsC, rsK, rsL, ↓rsEqg1_3, tick_eq, tickV_eq, ne_eq, Int.reduceAdd, Int.reduceSub, Int.reduceMul, Int.reduceEq, Int.reduceLT, Int.reduceLE, Int.reduceToNat, Nat.reduceMul, Nat.reduceAdd, Nat.reduceSub, ←decide_not, eq_self]
    exact ⟨⟨true, rfl, by simp only [true_iff]; exact (sameN_at hne).2 fun i h1 h2 => hq2 i h1 h2 h1⟩, F⟩
end Go.Proofs.Ythhcmoknppljpaa
end
section
set_option linter.unusedVariables false
set_option linter.unusedSimpArgs false
set_option maxHeartbeats 4000000
namespace Go.Proofs.Ythhcmoknppljpaa
open Go.Sh Go.RowKit

theorem rs_ext {rs rs' : List GR} (hl : rs.length = rs'.length) (h : ∀ i (h1 : i < rs.length) (h2 : i < rs'.length), rs[i].s = rs'[i].s ∧ rs[i].to = rs'[i].to) : rs = rs' := by
  refine List.ext_getElem hl fun i h1 h2 => ?_
  obtain ⟨e1, e2⟩ := h i h1 h2
  generalize rs[i] = x at *
  generalize rs'[i] = y at *
  cases x
  cases y
  simp only at e1 e2
  rw [e1, e2]
abbrev rsEqg2_0 := (And.intro @xu8_add (And.intro @xu8_neq (And.intro @xu8_lss (And.intro @xu16_add (And.intro @xu16_neq (And.intro @xu16_lss (And.intro @xu32_add (And.intro @xu32_neq (And.intro @xu32_lss (And.intro @xu64_add (And.intro @xu64_neq (And.intro @xu64_lss (And.intro @xi64_lss (And.intro @xi64_neq (And.intro @xi64_neg (And.intro @ld_58 
  (And.intro @ns_58 (And.intro @ia_23 @ln_23))))))))))))))))))
theorem eqRs_spec {w : World} {rs rs' : List GR} {ra ra' : Option Addr} {rc rc' : Nat} (h : RowAt w ra (rs.flatMap grC)) (h' : RowAt w ra' (rs'.flatMap grC)) (hf : rs.length ≤ 100000) (hf' : rs'.length ≤ 100000) :
    Yld Try.prog n_slices_Equal_graph_Root_graph_Root #[.slice ra rs.length rc, .slice ra' rs'.length rc'] w fun u w' => BoolR (rs = rs') w w' u := by
  refine slices_Equal_graph_Root_graph_Root_of ?_
  unfold slices_Equal_graph_Root_graph_Root
  by_cases hne : rs.length = rs'.length
  case neg =>
    have : ¬ ((rs.length : Int) = rs'.length) := by omega
    simp (disch := (first | omega | decide | (simp only [rsD] <;> omega) | fail)) only [↓rsC, rsK, rsL, ↓rsEqg2_0, tick_eq, tickV_eq, ne_eq, Int.reduceAdd, Int.reduceSub, Int.reduceMul, Int.reduceEq, Int.reduceLT, Int.reduceLE, Int.reduceToNat, Nat.reduceMul, Nat.reduceAdd, Nat.reduceSub, ←decide_not, eq_self]
    exact ⟨⟨false, rfl, by simp; intro h; exact hne (by rw [h])⟩, Ext.refl _ _⟩
  have : ((rs.length : Int) = rs'.length) := by omega
  simp (disch := (first | omega | decide | (simp only [rsD] <;> omega) | fail)) only [↓rsC, rsK, rsL, ↓rsEqg2_0, tick_eq, tickV_eq, ne_eq, Int.reduceAdd, Int.reduceSub, Int.reduceMul, Int.reduceEq, Int.reduceLT, Int.reduceLE, Int.reduceToNat, Nat.reduceMul, Nat.reduceAdd, Nat.reduceSub, ←decide_not, eq_self]
  refine xLoop_n rs.length (fun j => [i64 (j : Int)]) (fun j w' => Ext [] w w' ∧ ∀ i (hi : i < rs.length) (hi' : i < rs'.length), i < j → rs[i].s = rs'[i].s ∧ rs[i].to = rs'[i].to) rfl ⟨Ext.refl _ _, by intro i _ _ hi; omega⟩ ?_ ?_
  · rintro j hj u w1 hu ⟨F, hq2⟩ nxt hn
    simp only [List.map_cons, List.map_nil, List.cons.injEq, and_true] at hu
    rw [hu]
    have hj' : j < rs'.length := by omega
    have F1 := F.trans (Ext.drew [] w1)
    obtain ⟨b, o, rfl, hlt, c1, c2⟩ := gr_at (h.ext0 F1) hj
    obtain ⟨bb, oo, rfl, hlt2, c3, c4⟩ := gr_at (h'.ext0 F1) hj'
    unfold slices_Equal_graph_Root_graph_Root_l1
    by_cases he : rs[j].s = rs'[j].s ∧ rs[j].to = rs'[j].to
    · have hnx : ∀ i (hi : i < rs.length) (hi' : i < rs'.length), i < j + 1 → rs[i].s = rs'[i].s ∧ rs[i].to = rs'[i].to := fun i hi hi' h3 => by
        by_cases ei : i = j
        · subst ei; exact he
        · exact hq2 i hi hi' (by omega)
      rw [he.1] at c1
      rw [he.2] at c2
      generalize rs'[j] = y at *
      simp (disch := (first | omega | decide | (simp only [rsD] <;> omega) | fail)) only [↓rsC, rsK, rsL, ↓rsEqg2_0, tick_eq, tickV_eq, ne_eq, Int.reduceAdd, Int.reduceSub, Int.reduceMul, Int.reduceEq, Int.reduceLT, Int.reduceLE, Int.reduceToNat, Nat.reduceMul, Nat.reduceAdd, Nat.reduceSub, ←decide_not, c1, c2, c3, c4]
      exact hn _ ⟨F1, hnx⟩
    · have hno : ¬ rs = rs' := fun e2 => he (by subst e2; exact ⟨rfl, rfl⟩)
      have hb : (decide (strOf rs[j].s = strOf rs'[j].s) && decide (rs[j].to = rs'[j].to)) = false := by
        rw [Bool.and_eq_false_iff, decide_eq_false_iff_not, decide_eq_false_iff_not, strOf_inj]
        exact Classical.not_and_iff_not_or_not.1 he
      simp (disch := (first | omega | decide | (simp only [rsD] <;> omega) | fail)) only [↓rsC, rsK, rsL, ↓rsEqg2_0, tick_eq, tickV_eq, ne_eq, Int.reduceAdd, Int.reduceSub, Int.reduceMul, Int.reduceEq, Int.reduceLT, Int.reduceLE, Int.reduceToNat, Nat.reduceMul, Nat.reduceAdd, Nat.reduceSub, ←decide_not, c1, c2, c3, c4, hb]
      exact ⟨⟨false, rfl, by simpa using hno⟩, F1⟩
  · rintro u w1 hu ⟨F, hq2⟩ nxt
    simp only [List.map_cons, List.map_nil, List.cons.injEq, and_true] at hu
    rw [hu]
    unfold slices_Equal_graph_Root_graph_Root_l1
    simp (disch := (first | omega | decide | (simp only [rsD] <;> omega) | fail)) only [↓rsC, rsK, rsL, ↓rsEqg2_0, tick_eq, tickV_eq, ne_eq, Int.reduceAdd, Int.reduceSub, Int.reduceMul, Int.reduceEq, Int.reduceLT, Int.reduceLE, Int.reduceToNat, Nat.reduceMul, Nat.reduceAdd, Nat.reduceSub, ←decide_not, eq_self]
    exact ⟨⟨true, rfl, by simp only [true_iff]; exact rs_ext hne fun i h1 h2 => hq2 i h1 h2 h1⟩, F⟩
abbrev rsEqg2_1 := (And.intro @ld_22 (And.intro @ld_23 (And.intro @fa_25_0 @fa_25_1)))
theorem GEqual_spec {w : World} {ns ns' : List GN} {rs rs' : List GR} {na na' ra ra' : Option Addr} {nc nc' rc rc' : Nat} (h : GIs w na nc ra rc ns rs) (h' : GIs w na' nc' ra' rc' ns' rs') (hf : FewH ns rs) (hf' : FewH ns' rs') :
    Yld Try.prog n_graph_Equal #[gV na nc ra rc ns rs, gV na' nc' ra' rc' ns' rs'] w fun u w' => BoolR (SameG ns rs ns' rs') w w' u := by
  have few : ∀ {ns : List GN} {rs : List GR}, FewH ns rs → ns.length ≤ 100000 ∧ ∀ x ∈ ns, x.p.length ≤ 1000000 ∧ x.d.length ≤ 1000000 := fun hf => ⟨by have := hf.n; omega, fun x hx => by have := hf.x x hx; omega⟩
  refine graph_Equal_of ?_
  unfold graph_Equal
  have bx : ∀ (na : Option Addr) (nc : Nat) (ra : Option Addr) (rc : Nat) (ns : List GN) (rs : List GR) (y : World) (K : K1), xBox Try.prog 25 (gV na nc ra rc ns rs) y K = K (ptr y.heap.size) (y.alloc (.cells #[.slice na ns.length nc, .slice ra rs.length rc] 25)) := fun _ _ _ _ _ _ y K => xBox_r
  rw [bx, bx]
  have B1 : Blk (w.alloc (.cells #[.slice na ns.length nc, .slice ra rs.length rc] 25)) w.heap.size 25 [.slice na ns.length nc, .slice ra rs.length rc] := Blk.at rfl
  have X1 : Ext [] w (w.alloc (.cells #[.slice na ns.length nc, .slice ra rs.length rc] 25)) := Ext.alloc _ _ _
  generalize w.alloc (.cells #[.slice na ns.length nc, .slice ra rs.length rc] 25) = y1 at *
  generalize w.heap.size = g1 at *
  have B2 : Blk (y1.alloc (.cells #[.slice na' ns'.length nc', .slice ra' rs'.length rc'] 25)) y1.heap.size 25 [.slice na' ns'.length nc', .slice ra' rs'.length rc'] := Blk.at rfl
  have X2 : Ext [] y1 (y1.alloc (.cells #[.slice na' ns'.length nc', .slice ra' rs'.length rc'] 25)) := Ext.alloc _ _ _
  generalize y1.alloc (.cells #[.slice na' ns'.length nc', .slice ra' rs'.length rc'] 25) = y2 at *
  generalize y1.heap.size = g2 at *
  have X12 := X1.trans X2
  have B12 := B1.ext X2 (by simp)
  have g := h.ext0 X12
  have g' := h'.ext0 X12
  have k1 := fun i => B12.cell (i := i)
  have k2 := fun i => B2.cell (i := i)
  simp (disch := (first | omega | decide | (simp only [rsD] <;> omega) | fail)) only [↓rsC, rsK, rsL, ↓rsEqg2_1, tick_eq, tickV_eq, ne_eq, Int.reduceAdd, Int.reduceSub, Int.reduceMul, Int.reduceEq, Int.reduceLT, Int.reduceLE, Int.reduceToNat, Nat.reduceMul, Nat.reduceAdd, Nat.reduceSub, ←decide_not, k1, k2]
  refine slices_EqualFunc_graph_Node_graph_Node_graph_Node_graph_Node_call (Yld.mono (eqNs_spec g.nr g'.nr g.ok g'.ok (few hf) (few hf')) ?_)
  rintro u y3 ⟨⟨b, rfl, hb⟩, F3⟩
  have k3 := fun i => (B12.ext F3 (by simp)).cell (i := i)
  have k4 := fun i => (B2.ext F3 (by simp)).cell (i := i)
  cases b with
  | false =>
    simp (disch := (first | omega | decide | (simp only [rsD] <;> omega) | fail)) only [↓rsC, rsK, rsL, ↓rsEqg2_1, tick_eq, tickV_eq, ne_eq, Int.reduceAdd, Int.reduceSub, Int.reduceMul, Int.reduceEq, Int.reduceLT, Int.reduceLE, Int.reduceToNat, Nat.reduceMul, Nat.reduceAdd, Nat.reduceSub, ←decide_not, k1, k2]
    exact ⟨⟨false, rfl, by simp only [Bool.false_eq_true, false_iff]; exact fun h => by have := hb.2 h.1; cases this⟩, X12.trans F3⟩
  | true =>
    simp (disch := (first | omega | decide | (simp only [rsD] <;> omega) | fail)) only [↓rsC, rsK, rsL, ↓rsEqg2_1, tick_eq, tickV_eq, ne_eq, Int.reduceAdd, Int.reduceSub, Int.reduceMul, Int.reduceEq, Int.reduceLT, Int.reduceLE, Int.reduceToNat, Nat.reduceMul, Nat.reduceAdd, Nat.reduceSub, ←decide_not, k1, k2, k3, k4]
    refine slices_Equal_graph_Root_graph_Root_call (Yld.mono (eqRs_spec (g.rr.ext0 F3) (g'.rr.ext0 F3) (by have := hf.r; omega) (by have := hf'.r; omega)) ?_)
    rintro u y4 ⟨⟨b, rfl, hb2⟩, F4⟩
    simp (disch := (first | omega | decide | (simp only [rsD] <;> omega) | fail)) only [↓rsC, rsK, rsL, ↓rsEqg2_1, tick_eq, tickV_eq, ne_eq, Int.reduceAdd, Int.reduceSub, Int.reduceMul, Int.reduceEq, Int.reduceLT, Int.reduceLE, Int.reduceToNat, Nat.reduceMul, Nat.reduceAdd, Nat.reduceSub, ←decide_not, k1, k2, k3, k4]
    exact ⟨⟨b, rfl, ⟨fun h => ⟨hb.1 rfl, hb2.1 h⟩, fun h => hb2.2 h.2⟩⟩, X12.trans (F3.trans F4)⟩
end Go.Proofs.Ythhcmoknppljpaa
end
section
set_option linter.unusedVariables false
set_option linter.unusedSimpArgs false
set_option maxHeartbeats 4000000
namespace Go.Proofs.Ythhcmoknppljpaa
open Go.Sh Go.RowKit

abbrev rsEqg3_0 := (And.intro @xu8_add (And.intro @xu8_neq (And.intro @xu8_lss (And.intro @xu16_add (And.intro @xu16_neq (And.intro @xu16_lss (And.intro @xu32_add (And.intro @xu32_neq (And.intro @xu32_lss (And.intro @xu64_add (And.intro @xu64_neq (And.intro @xu64_lss (And.intro @xi64_lss (And.intro @xi64_neq (And.intro @xi64_neg (And.intro @ld_3 
  (And.intro @ld_9 (And.intro @ld_26 (And.intro @ld_29 (And.intro @ld_30 (And.intro @ld_51 (And.intro @ld_60 (And.intro @fa_32_0 (And.intro @fa_32_1 (And.intro @fa_60_0 (And.intro @fa_60_1 (And.intro @fa_61_0 (And.intro @fa_61_1 (And.intro @al_60 (And.intro @st_60 (And.intro @ia_26 (And.intro @ia_29 (And.intro @ia_30 (And.intro @ln_26 (And.intro @ln_29 @ln_30)))))))))))))))))))))))))))))))))))
theorem REqual_spec {w : World} {ns ns' : List GN} {rs rs' : List GR} {na na' ra ra' : Option Addr} {nc nc' rc rc' : Nat} (h : GIs w na nc ra rc ns rs) (h' : GIs w na' nc' ra' rc' ns' rs') (hf : FewH ns rs) (hf' : FewH ns' rs') :
    Yld Try.prog n_loamref17_Equal #[gV na nc ra rc ns rs, gV na' nc' ra' rc' ns' rs'] w fun u w' => BoolR (SameG ns rs ns' rs') w w' u := by
  have hn1 := hf.n
  have hn2 := hf'.n
  have hr1 := hf.r
  have hr2 := hf'.r
  refine loamref17_Equal_of ?_
  unfold loamref17_Equal
  have bx : ∀ (na : Option Addr) (nc : Nat) (ra : Option Addr) (rc : Nat) (ns : List GN) (rs : List GR) (y : World) (K : K1), xBox Try.prog 32 (gV na nc ra rc ns rs) y K = K (ptr y.heap.size) (y.alloc (.cells #[.slice na ns.length nc, .slice ra rs.length rc] 32)) := fun _ _ _ _ _ _ y K => xBox_r
  rw [bx, bx]
  have B1 : Blk (w.alloc (.cells #[.slice na ns.length nc, .slice ra rs.length rc] 32)) w.heap.size 32 [.slice na ns.length nc, .slice ra rs.length rc] := Blk.at rfl
  have X1 : Ext [] w (w.alloc (.cells #[.slice na ns.length nc, .slice ra rs.length rc] 32)) := Ext.alloc _ _ _
  generalize w.alloc (.cells #[.slice na ns.length nc, .slice ra rs.length rc] 32) = y1 at *
  generalize w.heap.size = g1 at *
  have B2 : Blk (y1.alloc (.cells #[.slice na' ns'.length nc', .slice ra' rs'.length rc'] 32)) y1.heap.size 32 [.slice na' ns'.length nc', .slice ra' rs'.length rc'] := Blk.at rfl
  have X2 : Ext [] y1 (y1.alloc (.cells #[.slice na' ns'.length nc', .slice ra' rs'.length rc'] 32)) := Ext.alloc _ _ _
  generalize y1.alloc (.cells #[.slice na' ns'.length nc', .slice ra' rs'.length rc'] 32) = y2 at *
  generalize y1.heap.size = g2 at *
  have X12 := X1.trans X2
  have B12 := B1.ext X2 (by simp)
  have G := h.ext0 X12
  have G' := h'.ext0 X12
  have k1 := fun i => B12.cell (i := i)
  have k2 := fun i => B2.cell (i := i)
  by_cases hnl : ns.length = ns'.length
  case neg =>
    have : ¬ ((ns.length : Int) = ns'.length) := by omega
    simp (disch := (first | omega | decide | (simp only [rsD] <;> omega) | fail)) only [↓rsC, rsK, rsL, ↓rsEqg3_0, tick_eq, tickV_eq, ne_eq, Int.reduceAdd, Int.reduceSub, Int.reduceMul, Int.reduceEq, Int.reduceLT, Int.reduceLE, Int.reduceToNat, Nat.reduceMul, Nat.reduceAdd, Nat.reduceSub, ←decide_not, k1, k2]
    exact ⟨⟨false, rfl, by simp only [Bool.false_eq_true, false_iff]; exact fun e => hnl (by simpa using congrArg List.length e.1)⟩, X12⟩
  by_cases hrl : rs.length = rs'.length
  case neg =>
    have : ¬ ((rs.length : Int) = rs'.length) := by omega
    have : ((ns.length : Int) = ns'.length) := by omega
    simp (disch := (first | omega | decide | (simp only [rsD] <;> omega) | fail)) only [↓rsC, rsK, rsL, ↓rsEqg3_0, tick_eq, tickV_eq, ne_eq, Int.reduceAdd, Int.reduceSub, Int.reduceMul, Int.reduceEq, Int.reduceLT, Int.reduceLE, Int.reduceToNat, Nat.reduceMul, Nat.reduceAdd, Nat.reduceSub, ←decide_not, k1, k2]
    exact ⟨⟨false, rfl, by simp only [Bool.false_eq_true, false_iff]; exact fun e => hrl (by rw [e.2])⟩, X12⟩
  have hnl' : ((ns.length : Int) = ns'.length) := by omega
  have hrl' : ((rs.length : Int) = rs'.length) := by omega
  simp (disch := (first | omega | decide | (simp only [rsD] <;> omega) | fail)) only [↓rsC, rsK, rsL, ↓rsEqg3_0, tick_eq, tickV_eq, ne_eq, Int.reduceAdd, Int.reduceSub, Int.reduceMul, Int.reduceEq, Int.reduceLT, Int.reduceLE, Int.reduceToNat, Nat.reduceMul, Nat.reduceAdd, Nat.reduceSub, ←decide_not, k1, k2]
  refine xLoop_n ns.length (fun j => [i64 (j : Int)]) (fun j w' => Ext [] y2 w' ∧ ∀ i (hi : i < ns.length) (hi' : i < ns'.length), i < j → ns[i].p = ns'[i].p ∧ ns[i].d = ns'[i].d) rfl ⟨Ext.refl _ _, by intro i _ _ hi; omega⟩ ?_ ?_
  · rintro j hj u w1 hu ⟨F, hq2⟩ nxt hn
    simp only [List.map_cons, List.map_nil, List.cons.injEq, and_true] at hu
    rw [hu]
    have hj' : j < ns'.length := by omega
    obtain ⟨b, o, rfl, hlt, c1, c2⟩ := gn_at (G.nr.ext0 F) hj
    have m1 := List.getElem_mem hj
    have m2 := List.getElem_mem hj'
    have x1 := (G.ok _ m1).ext0 F
    have x2 := (G'.ok _ m2).ext0 F
    have l1 := hf.x _ m1
    have l2 := hf'.x _ m2
    have diff : ∀ w' : World, Ext [] y2 w' → ¬ (ns[j].p = ns'[j].p ∧ ns[j].d = ns'[j].d) → BoolR (SameG ns rs ns' rs') w w' (.bool false) := fun w' F' hne => ⟨⟨false, rfl, by simp only [Bool.false_eq_true, false_iff]; exact fun e => hne ((sameN_at hnl).1 e.1 j hj hj')⟩, X12.trans F'⟩
    have kk1 := fun i => (B12.ext F (by simp)).cell (i := i)
    have zg2 := (B2.ext F (by simp)).lt
    have kk2 := fun i => (B2.ext F (by simp)).cell (i := i)
    unfold loamref17_Equal_l1
    simp (disch := (first | omega | decide | (simp only [rsD] <;> omega) | fail)) only [↓rsC, rsK, rsL, ↓rsEqg3_0, tick_eq, tickV_eq, ne_eq, Int.reduceAdd, Int.reduceSub, Int.reduceMul, Int.reduceEq, Int.reduceLT, Int.reduceLE, Int.reduceToNat, Nat.reduceMul, Nat.reduceAdd, Nat.reduceSub, ←decide_not, k1, k2, kk1, c1, c2, kk2]
    obtain ⟨bb, oo, rfl, hlt2, c3, c4⟩ := gn_at (G'.nr.ext0 F) hj'
    simp (disch := (first | omega | decide | (simp only [rsD] <;> omega) | fail)) only [↓rsC, rsK, rsL, ↓rsEqg3_0, tick_eq, tickV_eq, ne_eq, Int.reduceAdd, Int.reduceSub, Int.reduceMul, Int.reduceEq, Int.reduceLT, Int.reduceLE, Int.reduceToNat, Nat.reduceMul, Nat.reduceAdd, Nat.reduceSub, ←decide_not, k1, k2, kk1, c1, c2, kk2, c3, c4]
    have hq3 : (ns[j].p = ns'[j].p ∧ ns[j].d = ns'[j].d) → ∀ i (hi : i < ns.length) (hi' : i < ns'.length), i < j + 1 → ns[i].p = ns'[i].p ∧ ns[i].d = ns'[i].d := fun he i hi hi' h3 => by
      by_cases ei : i = j
      · subst ei; exact he
      · exact hq2 i hi hi' (by omega)
    generalize ns[j] = x at *
    generalize ns'[j] = y at *
    have B3 : Blk (w1.alloc (.cells #[.slice x.pa x.p.length x.pc, .slice x.da x.d.length x.dc] 60)) w1.heap.size 60 [.slice x.pa x.p.length x.pc, .slice x.da x.d.length x.dc] := Blk.at rfl
    have X3 : Ext [] w1 (w1.alloc (.cells #[.slice x.pa x.p.length x.pc, .slice x.da x.d.length x.dc] 60)) := Ext.alloc _ _ _
    generalize w1.alloc (.cells #[.slice x.pa x.p.length x.pc, .slice x.da x.d.length x.dc] 60) = y3 at *
    generalize w1.heap.size = g3 at *
    have B4 : Blk (y3.alloc (.cells #[.slice y.pa y.p.length y.pc, .slice y.da y.d.length y.dc] 60)) y3.heap.size 60 [.slice y.pa y.p.length y.pc, .slice y.da y.d.length y.dc] := Blk.at rfl
    have X4 : Ext [] y3 (y3.alloc (.cells #[.slice y.pa y.p.length y.pc, .slice y.da y.d.length y.dc] 60)) := Ext.alloc _ _ _
    generalize y3.alloc (.cells #[.slice y.pa y.p.length y.pc, .slice y.da y.d.length y.dc] 60) = y4 at *
    generalize y3.heap.size = g4 at *
    have X34 := X3.trans X4
    have F4 := F.trans X34
    have B34 := B3.ext X4 (by simp)
    have x1 := x1.ext0 X34
    have x2 := x2.ext0 X34
    have k3 := fun i => B34.cell (i := i)
    have k4 := fun i => B4.cell (i := i)
    by_cases hp : x.p.length = y.p.length
    case neg =>
      have hp' : ¬ ((x.p.length : Int) = y.p.length) := by omega
      simp (disch := (first | omega | decide | (simp only [rsD] <;> omega) | fail)) only [↓rsC, rsK, rsL, ↓rsEqg3_0, tick_eq, tickV_eq, ne_eq, Int.reduceAdd, Int.reduceSub, Int.reduceMul, Int.reduceEq, Int.reduceLT, Int.reduceLE, Int.reduceToNat, Nat.reduceMul, Nat.reduceAdd, Nat.reduceSub, ←decide_not, k1, k2, kk1, c1, c2, kk2, c3, c4, hp']
      exact diff y4 F4 fun e => hp (by rw [e.1])
    have hp' : ((x.p.length : Int) = y.p.length) := by omega
    have hcv := fun (K : K1) => xConv_str (P := Try.prog) (w := y4) (s := 51) (d := 9) (e := 5) (a := x.da) (n := x.d.length) (c := x.dc) (l := x.d) (K := K) (by kernel_rfl) (by kernel_rfl) (by kernel_rfl) rfl x1.dr
    have hcv' := fun (K : K1) => xConv_str (P := Try.prog) (w := y4) (s := 51) (d := 9) (e := 5) (a := y.da) (n := y.d.length) (c := y.dc) (l := y.d) (K := K) (by kernel_rfl) (by kernel_rfl) (by kernel_rfl) rfl x2.dr
    by_cases hd : x.d = y.d
    case neg =>
      have hd' : ¬ (strOf x.d = strOf y.d) := fun e => hd (strOf_inj.1 e)
      simp (disch := (first | omega | decide | (simp only [rsD] <;> omega) | fail)) only [↓rsC, rsK, rsL, ↓rsEqg3_0, tick_eq, tickV_eq, ne_eq, Int.reduceAdd, Int.reduceSub, Int.reduceMul, Int.reduceEq, Int.reduceLT, Int.reduceLE, Int.reduceToNat, Nat.reduceMul, Nat.reduceAdd, Nat.reduceSub, ←decide_not, k1, k2, kk1, c1, c2, kk2, c3, c4, hp', k3, k4, hcv, hcv', hd']
      exact diff y4 F4 fun e => hd e.2
    have hd' : strOf x.d = strOf y.d := by rw [hd]
    simp (disch := (first | omega | decide | (simp only [rsD] <;> omega) | fail)) only [↓rsC, rsK, rsL, ↓rsEqg3_0, tick_eq, tickV_eq, ne_eq, Int.reduceAdd, Int.reduceSub, Int.reduceMul, Int.reduceEq, Int.reduceLT, Int.reduceLE, Int.reduceToNat, Nat.reduceMul, Nat.reduceAdd, Nat.reduceSub, ←decide_not, k1, k2, kk1, c1, c2, kk2, c3, c4, hp', k3, k4, hcv, hcv', hd']
    refine xLoop_n x.p.length (fun i => [i64 (i : Int)]) (fun k w' => Ext [] y4 w' ∧ ∀ i (hi : i < x.p.length) (hi' : i < y.p.length), i < k → x.p[i] = y.p[i]) rfl ⟨Ext.refl _ _, by intro i _ _ hi; omega⟩ ?_ ?_
    · rintro k hk u w5 hu ⟨F5, hq5⟩ nxt2 hn5
      simp only [List.map_cons, List.map_nil, List.cons.injEq, and_true] at hu
      rw [hu]
      have hk' : k < y.p.length := by omega
      have F5d := F5.trans (Ext.drew [] w5)
      have k3 := fun i => (B34.ext F5 (by simp)).cell (i := i)
      have k3d := fun i => (B34.ext F5d (by simp)).cell (i := i)
      have k4d := fun i => (B4.ext F5d (by simp)).cell (i := i)
      obtain ⟨ba, oa, ea, _, ca⟩ := its_at (x1.pr.ext0 F5) hk
      obtain ⟨bc, oc, ec, _, cc⟩ := its_at (x2.pr.ext0 F5) hk'
      have hq6 : x.p[k] = y.p[k] → ∀ i (hi : i < x.p.length) (hi' : i < y.p.length), i < k + 1 → x.p[i] = y.p[i] := fun he i hi hi' h3 => by
        by_cases ei : i = k
        · subst ei; exact he
        · exact hq5 i hi hi' (by omega)
      have hdf : ¬ x.p[k] = y.p[k] → ¬ (x.p = y.p ∧ x.d = y.d) := fun hne e => hne (by have := e.1; simp only [this])
      unfold loamref17_Equal_l2
      by_cases he : x.p[k] = y.p[k]
      case neg =>
        have hdf2 := hdf he
        generalize x.p[k] = xk at *
        generalize y.p[k] = yk at *
        simp (disch := (first | omega | decide | (simp only [rsD] <;> omega) | fail)) only [↓rsC, rsK, rsL, ↓rsEqg3_0, tick_eq, tickV_eq, ne_eq, Int.reduceAdd, Int.reduceSub, Int.reduceMul, Int.reduceEq, Int.reduceLT, Int.reduceLE, Int.reduceToNat, Nat.reduceMul, Nat.reduceAdd, Nat.reduceSub, ←decide_not, k1, k2, kk1, c1, c2, kk2, c3, c4, hp', k3, k4, hcv, hcv', hd', k3d, k4d, ea, ec, ca, cc, he]
        exact diff _ (F4.trans F5d) hdf2
      have hq7 := hq6 he
      rw [he] at ca
      generalize y.p[k] = yk at *
      simp (disch := (first | omega | decide | (simp only [rsD] <;> omega) | fail)) only [↓rsC, rsK, rsL, ↓rsEqg3_0, tick_eq, tickV_eq, ne_eq, Int.reduceAdd, Int.reduceSub, Int.reduceMul, Int.reduceEq, Int.reduceLT, Int.reduceLE, Int.reduceToNat, Nat.reduceMul, Nat.reduceAdd, Nat.reduceSub, ←decide_not, k1, k2, kk1, c1, c2, kk2, c3, c4, hp', k3, k4, hcv, hcv', hd', k3d, k4d, ea, ec, ca, cc]
      exact hn5 _ ⟨F5d, hq7⟩
    · rintro u w5 hu ⟨F5, hq5⟩ nxt2
      simp only [List.map_cons, List.map_nil, List.cons.injEq, and_true] at hu
      rw [hu]
      have k3 := fun i => (B34.ext F5 (by simp)).cell (i := i)
      have hxy : x.p = y.p := List.ext_getElem hp fun i h1 h2 => hq5 i h1 h2 h1
      unfold loamref17_Equal_l2
      simp (disch := (first | omega | decide | (simp only [rsD] <;> omega) | fail)) only [↓rsC, rsK, rsL, ↓rsEqg3_0, tick_eq, tickV_eq, ne_eq, Int.reduceAdd, Int.reduceSub, Int.reduceMul, Int.reduceEq, Int.reduceLT, Int.reduceLE, Int.reduceToNat, Nat.reduceMul, Nat.reduceAdd, Nat.reduceSub, ←decide_not, k1, k2, kk1, c1, c2, kk2, c3, c4, hp', k3, k4, hcv, hcv', hd']
      exact hn _ ⟨F4.trans F5, hq3 ⟨hxy, hd⟩⟩
  · rintro u w1 hu ⟨F, hq2⟩ nxt
    simp only [List.map_cons, List.map_nil, List.cons.injEq, and_true] at hu
    rw [hu]
    have hsn : SameN ns ns' := (sameN_at hnl).2 fun i h1 h2 => hq2 i h1 h2 h1
    have kk1 := fun i => (B12.ext F (by simp)).cell (i := i)
    unfold loamref17_Equal_l1
    simp (disch := (first | omega | decide | (simp only [rsD] <;> omega) | fail)) only [↓rsC, rsK, rsL, ↓rsEqg3_0, tick_eq, tickV_eq, ne_eq, Int.reduceAdd, Int.reduceSub, Int.reduceMul, Int.reduceEq, Int.reduceLT, Int.reduceLE, Int.reduceToNat, Nat.reduceMul, Nat.reduceAdd, Nat.reduceSub, ←decide_not, k1, k2, kk1]
    refine xLoop_n rs.length (fun j => [i64 (j : Int)]) (fun j w' => Ext [] y2 w' ∧ ∀ i (hi : i < rs.length) (hi' : i < rs'.length), i < j → rs[i].s = rs'[i].s ∧ rs[i].to = rs'[i].to) rfl ⟨F, by intro i _ _ hi; omega⟩ ?_ ?_
    · rintro j hj u w5 hu ⟨F5, hq5⟩ nxt2 hn5
      simp only [List.map_cons, List.map_nil, List.cons.injEq, and_true] at hu
      rw [hu]
      have hj' : j < rs'.length := by omega
      have F5d := F5.trans (Ext.drew [] w5)
      have k3 := fun i => (B12.ext F5 (by simp)).cell (i := i)
      have k3d := fun i => (B12.ext F5d (by simp)).cell (i := i)
      have k4d := fun i => (B2.ext F5d (by simp)).cell (i := i)
      obtain ⟨b, o, rfl, hlt, c1, c2⟩ := gr_at (G.rr.ext0 F5d) hj
      obtain ⟨bb, oo, rfl, hlt2, c3, c4⟩ := gr_at (G'.rr.ext0 F5d) hj'
      have diff : ∀ w' : World, Ext [] y2 w' → ¬ (rs[j].s = rs'[j].s ∧ rs[j].to = rs'[j].to) → BoolR (SameG ns rs ns' rs') w w' (.bool false) := fun w' F' hne => ⟨⟨false, rfl, by simp only [Bool.false_eq_true, false_iff]; exact fun e => hne (by have := e.2; subst this; exact ⟨rfl, rfl⟩)⟩, X12.trans F'⟩
      have hq6 : (rs[j].s = rs'[j].s ∧ rs[j].to = rs'[j].to) → ∀ i (hi : i < rs.length) (hi' : i < rs'.length), i < j + 1 → rs[i].s = rs'[i].s ∧ rs[i].to = rs'[i].to := fun he i hi hi' h3 => by
        by_cases ei : i = j
        · subst ei; exact he
        · exact hq5 i hi hi' (by omega)
      generalize rs[j] = x at *
      generalize rs'[j] = y at *
      unfold loamref17_Equal_l3
      by_cases hs : x.s = y.s
      case neg =>
        have hs' : ¬ (strOf x.s = strOf y.s) := fun e => hs (strOf_inj.1 e)
        simp (disch := (first | omega | decide | (simp only [rsD] <;> omega) | fail)) only [↓rsC, rsK, rsL, ↓rsEqg3_0, tick_eq, tickV_eq, ne_eq, Int.reduceAdd, Int.reduceSub, Int.reduceMul, Int.reduceEq, Int.reduceLT, Int.reduceLE, Int.reduceToNat, Nat.reduceMul, Nat.reduceAdd, Nat.reduceSub, ←decide_not, k1, k2, kk1, k3, k3d, k4d, c1, c3, hs']
        exact diff _ F5d fun e => hs e.1
      have hs' : strOf x.s = strOf y.s := by rw [hs]
      by_cases ht : x.to = y.to
      case neg =>
        simp (disch := (first | omega | decide | (simp only [rsD] <;> omega) | fail)) only [↓rsC, rsK, rsL, ↓rsEqg3_0, tick_eq, tickV_eq, ne_eq, Int.reduceAdd, Int.reduceSub, Int.reduceMul, Int.reduceEq, Int.reduceLT, Int.reduceLE, Int.reduceToNat, Nat.reduceMul, Nat.reduceAdd, Nat.reduceSub, ←decide_not, k1, k2, kk1, k3, k3d, k4d, c1, c2, c3, c4, hs', ht]
        exact diff _ F5d fun e => ht e.2
      simp (disch := (first | omega | decide | (simp only [rsD] <;> omega) | fail)) only [↓rsC, rsK, rsL, ↓rsEqg3_0, tick_eq, tickV_eq, ne_eq, Int.reduceAdd, Int.reduceSub, Int.reduceMul, Int.reduceEq, Int.reduceLT, Int.reduceLE, Int.reduceToNat, Nat.reduceMul, Nat.reduceAdd, Nat.reduceSub, ←decide_not, k1, k2, kk1, k3, k3d, k4d, c1, c2, c3, c4, hs', ht]
      exact hn5 _ ⟨F5d, hq6 ⟨hs, ht⟩⟩
    · rintro u w5 hu ⟨F5, hq5⟩ nxt2
      simp only [List.map_cons, List.map_nil, List.cons.injEq, and_true] at hu
      rw [hu]
      have k3 := fun i => (B12.ext F5 (by simp)).cell (i := i)
      have hrs : rs = rs' := rs_ext hrl fun i h1 h2 => hq5 i h1 h2 h1
      unfold loamref17_Equal_l3
      simp (disch := (first | omega | decide | (simp only [rsD] <;> omega) | fail)) only [↓rsC, rsK, rsL, ↓rsEqg3_0, tick_eq, tickV_eq, ne_eq, Int.reduceAdd, Int.reduceSub, Int.reduceMul, Int.reduceEq, Int.reduceLT, Int.reduceLE, Int.reduceToNat, Nat.reduceMul, Nat.reduceAdd, Nat.reduceSub, ←decide_not, k1, k2, kk1, k3]
      exact ⟨⟨true, rfl, by simp only [true_iff]; exact ⟨hsn, hrs⟩⟩, X12.trans F5⟩
end Go.Proofs.Ythhcmoknppljpaa
end
section
set_option linter.unusedVariables false
set_option linter.unusedSimpArgs false
set_option maxHeartbeats 4000000
namespace Go.Proofs.Ythhcmoknppljpaa
open Go.Sh Go.RowKit

theorem ptrs_bare (ns : List GN) (q : Int) : ptrsOf (ns.map bare) q = ptrsOf ns q := by
  unfold ptrsOf
  rw [List.getElem?_map]
  cases ns[q.toNat - 1]? <;> rfl
theorem data_bare (ns : List GN) (q : Int) : dataOf (ns.map bare) q = dataOf ns q := by
  unfold dataOf
  rw [List.getElem?_map]
  cases ns[q.toNat - 1]? <;> rfl
theorem bfs_bare (ns : List GN) : ∀ (f i : Nat) (out : List Int), bfs (ns.map bare) f i out = bfs ns f i out
  | 0, _, _ => rfl
  | f + 1, i, out => by
    by_cases hi : i < out.length
    · rw [bfs_step hi, bfs_step hi, ptrs_bare, List.length_map]
      exact bfs_bare ns f (i + 1) _
    · rw [bfs_end (by omega), bfs_end (by omega)]
theorem can_bare (ns : List GN) (rs : List GR) : canNs (ns.map bare) rs = canNs ns rs ∧ canRs (ns.map bare) rs = canRs ns rs := by
  have ho : ∀ fr, ordV (ns.map bare) fr = ordV ns fr := fun fr => by
    unfold ordV
    rw [bfs_bare, List.length_map]
  unfold canNs canRs
  rw [ho]
  refine ⟨List.map_congr_left fun q _ => ?_, rfl⟩
  unfold canN
  rw [ptrs_bare, data_bare]
theorem trim_few {ns ns' : List GN} {rs : List GR} {bs : List Bool} {fr : List Int} (R : RchOk ns fr bs) (hf : FewH ns rs) (h : ns'.map bare = trNs ns bs) : FewH ns' (trRs rs bs) := by
  have hl : ns'.length = bs.countP id := by
    have := congrArg List.length h
    rw [List.length_map] at this
    rw [this]
    exact sel_len _ _ _ R.len
  have hc := List.countP_le_length (p := id) (l := bs)
  have hlen := R.len
  refine ⟨by have := hf.n; omega, by simpa [trRs] using hf.r, fun x hx => ?_⟩
  have hm : bare x ∈ trNs ns bs := by rw [← h]; exact List.mem_map.2 ⟨x, hx, rfl⟩
  obtain ⟨y, hy, e⟩ := sel_mem _ _ _ _ hm
  have e1 : x.p.length = y.p.length := by
    have := congrArg (fun z => z.p.length) e
    simpa [bare, trN] using this
  have e2 : x.d.length = y.d.length := by
    have := congrArg (fun z => z.d.length) e
    simpa [bare, trN] using this
  rw [e1, e2]
  exact hf.x y hy
end Go.Proofs.Ythhcmoknppljpaa
end
section
set_option linter.unusedVariables false
set_option linter.unusedSimpArgs false
set_option maxHeartbeats 4000000
namespace Go.Proofs.Ythhcmoknppljpaa
open Go.Sh Go.RowKit

def hN (a b : Nat) : List GN := [⟨[2], some ⟨a, 0, none⟩, 1, [], none, 0⟩, ⟨[], none, 0, [120#8], some ⟨b, 0, none⟩, 1⟩, ⟨[], none, 0, [], none, 0⟩]
def hR : List GR := [⟨[97#8], 1⟩]
theorem h_good (a b : Nat) : GoodG (hN a b) hR := by
  refine ⟨fun x hx => ?_, by decide, fun r hr => ?_, fun i hi => ?_⟩
  · simp only [hN, List.mem_cons, List.not_mem_nil, or_false] at hx
    rcases hx with rfl | rfl | rfl <;> simp [hN]
  · simp only [hR, List.mem_cons, List.not_mem_nil, or_false] at hr
    subst hr
    simp [hN]
  · simp [hR] at hi
theorem h_gW (a b : Nat) : gW (hN a b) = 5 := by
  rw [← bare_gW, show (hN a b).map bare = (hN 0 0).map bare from rfl]
  decide
theorem rch_bs {ns : List GN} {fr : List Int} {bs : List Bool} (h : RchOk ns fr bs) : bs = (List.range ns.length).map fun (i : Nat) => decide (((i : Int) + 1) ∈ ordV ns fr) := by
  refine List.ext_getElem (by simp [h.len]) fun i h1 h2 => ?_
  rw [Bool.eq_iff_iff, h.iff i h1, ← ord_mem]
  simp
theorem h_ord1 (a b : Nat) : ordV (hN a b) [1] = [1, 2] := by rfl
theorem h_ord2 (a b : Nat) : ordV (hN a b) [2] = [2] := by rfl
theorem few_bare {ns ns' : List GN} {rs : List GR} (h : ns'.map bare = ns.map bare) (hf : FewH ns rs) : FewH ns' rs := by
  have hl : ns'.length = ns.length := by simpa using congrArg List.length h
  refine ⟨by have := hf.n; omega, hf.r, fun x hx => ?_⟩
  obtain ⟨i, hi, rfl⟩ := List.getElem_of_mem hx
  obtain ⟨e1, e2⟩ := (sameN_at hl).1 h i hi (by omega)
  rw [e1, e2]
  exact hf.x _ (List.getElem_mem _)
theorem boolTrue {p : Prop} {w w' : World} {u : Value} (h : BoolR p w w' u) (hp : p) : u = .bool true ∧ Ext [] w w' := by
  obtain ⟨⟨b, rfl, hb⟩, F⟩ := h
  rw [hb.2 hp]
  exact ⟨rfl, F⟩
theorem boolFalse {p : Prop} {w w' : World} {u : Value} (h : BoolR p w w' u) (hp : ¬ p) : u = .bool false ∧ Ext [] w w' := by
  obtain ⟨⟨b, rfl, hb⟩, F⟩ := h
  cases b with
  | true => exact absurd (hb.1 rfl) hp
  | false => exact ⟨rfl, F⟩
abbrev rsKn17_0 := (And.intro @xu8_com (And.intro @xu8_eql (And.intro @xu16_com (And.intro @xu16_eql (And.intro @xu32_com (And.intro @xu32_eql (And.intro @xu64_com (And.intro @xu64_eql (And.intro @xi64_eql (And.intro @ld_3 (And.intro @ld_4 (And.intro @ld_22 (And.intro @ld_25 (And.intro @fa_25_0 (And.intro @al_25 (And.intro @st_25 (And.intro @bd_25_0_1 
  (And.intro @bd_25_0 (And.intro @bd_25 (And.intro @bd_53_0 (And.intro @bd_53_0_1 (And.intro @bd_53_1 (And.intro @bd_53 (And.intro @bd_58_0_1 (And.intro @ia_26 (And.intro @ia_37 (And.intro @ln_22 (And.intro @ln_26 (And.intro @ln_37 (And.intro @bs_22_1 (And.intro @bs_22_3 (And.intro @bs_23_0 (And.intro @bs_23_1 (And.intro @bs_26_0 (And.intro @bs_26_1 (And.intro @bs_51_0 
  (And.intro @bs_51_1 @bs_51_2)))))))))))))))))))))))))))))))))))))
theorem known17_spec (w : World) : Gives Try.prog n_loamlaw17_known #[] w (.bool true) := by
  refine loamlaw17_known_of ?_
  unfold loamlaw17_known
  simp (disch := (first | omega | decide | (simp only [rsD] <;> omega) | fail)) only [↓rsC, rsK, rsL, ↓rsKn17_0, tick_eq, tickV_eq, ne_eq, Int.reduceAdd, Int.reduceSub, Int.reduceMul, Int.reduceEq, Int.reduceLT, Int.reduceLE, Int.reduceToNat, Nat.reduceMul, Nat.reduceAdd, Nat.reduceSub, ←decide_not, eq_self]
  have B1 : Blk (w.alloc (.cells #[i64 2] 3)) w.heap.size 3 [i64 2] := Blk.at rfl
  have X1 : Ext [] w (w.alloc (.cells #[i64 2] 3)) := Ext.alloc _ _ _
  have zs1 : (w.alloc (.cells #[i64 2] 3)).heap.size = w.heap.size + 1 := World.size_alloc _ _
  generalize w.alloc (.cells #[i64 2] 3) = y1 at *
  rw [← zs1]
  refine xConv_bytes (cs := bys [120#8]) (by kernel_rfl) (by kernel_rfl) fun y2 X2 R2 z2 => ?_
  have R1 := B1.row.ext0 X2
  generalize w.heap.size = g1 at *
  generalize y1.heap.size = g2 at *
  simp (disch := (first | omega | decide | (simp only [rsD] <;> omega) | fail)) only [↓rsC, rsK, rsL, ↓rsKn17_0, tick_eq, tickV_eq, ne_eq, Int.reduceAdd, Int.reduceSub, Int.reduceMul, Int.reduceEq, Int.reduceLT, Int.reduceLE, Int.reduceToNat, Nat.reduceMul, Nat.reduceAdd, Nat.reduceSub, ←decide_not, eq_self]
  have zs3 : (y2.alloc (.cells #[.slice (some ⟨g1, 0, none⟩) 1 1, .slice none 0 0, .slice none 0 0, .slice (some ⟨g2, 0, none⟩) 1 1, .slice none 0 0, .slice none 0 0] 53)).heap.size = y2.heap.size + 1 := World.size_alloc _ _
  have B3 : Blk (y2.alloc (.cells #[.slice (some ⟨g1, 0, none⟩) 1 1, .slice none 0 0, .slice none 0 0, .slice (some ⟨g2, 0, none⟩) 1 1, .slice none 0 0, .slice none 0 0] 53)) y2.heap.size 53 [.slice (some ⟨g1, 0, none⟩) 1 1, .slice none 0 0, .slice none 0 0, .slice (some ⟨g2, 0, none⟩) 1 1, .slice none 0 0, .slice none 0 0] := Blk.at rfl
  have X3 : Ext [] y2 (y2.alloc (.cells #[.slice (some ⟨g1, 0, none⟩) 1 1, .slice none 0 0, .slice none 0 0, .slice (some ⟨g2, 0, none⟩) 1 1, .slice none 0 0, .slice none 0 0] 53)) := Ext.alloc _ _ _
  generalize y2.alloc (.cells #[.slice (some ⟨g1, 0, none⟩) 1 1, .slice none 0 0, .slice none 0 0, .slice (some ⟨g2, 0, none⟩) 1 1, .slice none 0 0, .slice none 0 0] 53) = y3 at *
  rw [← zs3]
  generalize y2.heap.size = g3 at *
  have B4 : Blk (y3.alloc (.cells #[.string ⟨#[97]⟩, i64 1] 58)) y3.heap.size 58 [.string ⟨#[97]⟩, i64 1] := Blk.at rfl
  have X4 : Ext [] y3 (y3.alloc (.cells #[.string ⟨#[97]⟩, i64 1] 58)) := Ext.alloc _ _ _
  have zs4 : (y3.alloc (.cells #[.string ⟨#[97]⟩, i64 1] 58)).heap.size = y3.heap.size + 1 := World.size_alloc _ _
  generalize y3.alloc (.cells #[.string ⟨#[97]⟩, i64 1] 58) = y4 at *
  generalize y3.heap.size = g4 at *
  have B5 : Blk (y4.alloc (.cells #[.slice (some ⟨g3, 0, none⟩) 3 3, .slice (some ⟨g4, 0, none⟩) 1 1] 25)) y4.heap.size 25 [.slice (some ⟨g3, 0, none⟩) 3 3, .slice (some ⟨g4, 0, none⟩) 1 1] := Blk.at rfl
  have X5 : Ext [] y4 (y4.alloc (.cells #[.slice (some ⟨g3, 0, none⟩) 3 3, .slice (some ⟨g4, 0, none⟩) 1 1] 25)) := Ext.alloc _ _ _
  generalize y4.alloc (.cells #[.slice (some ⟨g3, 0, none⟩) 3 3, .slice (some ⟨g4, 0, none⟩) 1 1] 25) = y5 at *
  try rw [← zs4]
  obtain ⟨g5, hg5⟩ : ∃ g, g = y4.heap.size := ⟨_, rfl⟩
  try rw [← hg5] at B5 ⊢
  have cA : ({ data := #[97] } : ByteArray) = strOf [97#8] := by decide +kernel
  have X25 := X3.trans (X4.trans X5)
  have Xw : Ext [] w y5 := X1.trans (X2.trans X25)
  have G : GIs y5 (some ⟨g3, 0, none⟩) 3 (some ⟨g4, 0, none⟩) 1 (hN g1 g2) hR := by
    refine ⟨(B3.ext (X4.trans X5) (by simp)).row, Nat.le_refl _, fun e => (by cases e), ?_, Nat.le_refl _, fun e => (by cases e), fun x hx => ?_⟩
    · have := (B4.ext X5 (by simp)).row
      rw [cA] at this
      exact this
    · simp only [hN, List.mem_cons, List.not_mem_nil, or_false] at hx
      rcases hx with rfl | rfl | rfl
      · exact ⟨R1.ext0 X25, Nat.le_refl _, fun e => (by cases e), .nil, Nat.le_refl _, fun _ => rfl⟩
      · exact ⟨.nil, Nat.le_refl _, fun _ => rfl, R2.ext0 X25, Nat.le_refl _, fun e => (by cases e)⟩
      · exact ⟨.nil, Nat.le_refl _, fun _ => rfl, .nil, Nat.le_refl _, fun _ => rfl⟩
  have hf : FewH (hN g1 g2) hR := ⟨by simp [hN], by simp [hR], fun x hx => by
    simp only [hN, List.mem_cons, List.not_mem_nil, or_false] at hx
    rcases hx with rfl | rfl | rfl <;> simp⟩
  have hT : Yld Try.prog n_graph_Trim #[.agg #[.slice (some ⟨g3, 0, none⟩) 3 3, .slice (some ⟨g4, 0, none⟩) 1 1], .slice none 0 0] y5 fun u w' => TrimR y5 (hN g1 g2) hR [] u w' := Trim_spec (keep := []) (a := none) (c := 0) G hf .nil (Nat.le_refl _) (fun _ => rfl) (by simp)
  refine graph_Trim_call (Yld.mono hT ?_)
  rintro u y6 ⟨F6, bs, na', nc', ra', rc', ns', v, hbs, hns, rfl, G6, av, cv, rfl, hcv, R6⟩
  have ebs := rch_bs hbs
  rw [show tosL hR ++ [] = [1] from rfl, h_ord1] at ebs
  replace ebs : bs = [true, true, false] := ebs
  subst ebs
  have hn2 : ns'.length = 2 := (by simpa using congrArg List.length hns : ns'.length = (trNs (hN g1 g2) [true, true, false]).length).trans rfl
  simp (disch := (first | omega | decide | (simp only [rsD] <;> omega) | fail)) only [↓rsC, rsK, rsL, ↓rsKn17_0, tick_eq, tickV_eq, ne_eq, Int.reduceAdd, Int.reduceSub, Int.reduceMul, Int.reduceEq, Int.reduceLT, Int.reduceLE, Int.reduceToNat, Nat.reduceMul, Nat.reduceAdd, Nat.reduceSub, ←decide_not, eq_self]
  have B7 : Blk (y6.alloc (.cells #[.slice na' ns'.length nc', .slice ra' (trRs hR [true, true, false]).length rc'] 25)) y6.heap.size 25 [.slice na' ns'.length nc', .slice ra' (trRs hR [true, true, false]).length rc'] := Blk.at rfl
  have X7 : Ext [] y6 (y6.alloc (.cells #[.slice na' ns'.length nc', .slice ra' (trRs hR [true, true, false]).length rc'] 25)) := Ext.alloc _ _ _
  generalize y6.alloc (.cells #[.slice na' ns'.length nc', .slice ra' (trRs hR [true, true, false]).length rc'] 25) = y7 at *
  generalize y6.heap.size = g7 at *
  have c5 := fun i => (B5.ext (F6.trans X7) (by simp)).cell (i := i)
  simp (disch := (first | omega | decide | (simp only [rsD] <;> omega) | fail)) only [↓rsC, rsK, rsL, ↓rsKn17_0, tick_eq, tickV_eq, ne_eq, Int.reduceAdd, Int.reduceSub, Int.reduceMul, Int.reduceEq, Int.reduceLT, Int.reduceLE, Int.reduceToNat, Nat.reduceMul, Nat.reduceAdd, Nat.reduceSub, ←decide_not, c5]
  have B8 : Blk (y7.alloc (.cells #[i64 2] 3)) y7.heap.size 3 [i64 2] := Blk.at rfl
  have X8 : Ext [] y7 (y7.alloc (.cells #[i64 2] 3)) := Ext.alloc _ _ _
  generalize y7.alloc (.cells #[i64 2] 3) = y8 at *
  generalize y7.heap.size = g8 at *
  have E58 := F6.trans (X7.trans X8)
  have hR2 : Yld Try.prog n_graph_Reach #[.agg #[.slice (some ⟨g3, 0, none⟩) 3 3, .slice (some ⟨g4, 0, none⟩) 1 1], .slice (some ⟨g8, 0, none⟩) 1 1] y8 fun u w' => ∃ bs, RchOk (hN g1 g2) [2] bs ∧ NewR 4 1 y8 w' u bs.length (bls bs) := Reach_spec (fr := [2]) (G.ext0 E58) hf B8.row (fun e => (by cases e)) (by simp)
  refine graph_Reach_call (Yld.mono hR2 ?_)
  rintro u y9 ⟨bs, hbs2, N9⟩
  have ebs := rch_bs hbs2
  rw [h_ord2] at ebs
  replace ebs : bs = [false, true, false] := ebs
  subst ebs
  obtain ⟨r9, k9, rfl, _, _, _, R9, _⟩ := N9.2.1.slice
  have E9 := N9.1
  have c59 := fun i => (B5.ext (F6.trans (X7.trans (X8.trans E9))) (by simp)).cell (i := i)
  simp (disch := (first | omega | decide | (simp only [rsD] <;> omega) | fail)) only [↓rsC, rsK, rsL, ↓rsKn17_0, tick_eq, tickV_eq, ne_eq, Int.reduceAdd, Int.reduceSub, Int.reduceMul, Int.reduceEq, Int.reduceLT, Int.reduceLE, Int.reduceToNat, Nat.reduceMul, Nat.reduceAdd, Nat.reduceSub, ←decide_not, c5, c59]
  obtain ⟨b6, o6, rfl, _, c6⟩ := R6.get (by simp [its, noL])
  obtain ⟨b9, o9, rfl, _, c9⟩ := R9.get (by simp [bls])
  have R6w := fun {w' : World} (E : Ext [] y6 w') => (R6.ext0 E)
  have Ed : Ext [] y9 y9.drew := Ext.drew _ _
  generalize y9.drew = y10 at *
  have E610 := X7.trans (X8.trans (E9.trans Ed))
  have E510 := F6.trans E610
  have c510 := fun i => (B5.ext E510 (by simp)).cell (i := i)
  have c710 := fun i => (B7.ext (X8.trans (E9.trans Ed)) (by simp)).cell (i := i)
  have c6b : y10.cell? ⟨b6, o6 + 1, none⟩ = some (i64 2) := by
    obtain ⟨_, _, h1, _, h2⟩ := (R6.ext0 E610).get (by simp [its, noL])
    cases h1
    exact h2 1 _ rfl
  have c6c : y10.cell? ⟨b6, o6 + 2, none⟩ = some (i64 0) := by
    obtain ⟨_, _, h1, _, h2⟩ := (R6.ext0 E610).get (by simp [its, noL])
    cases h1
    exact h2 2 _ rfl
  have c9a : y10.cell? ⟨b9, o9, none⟩ = some (.bool false) := by
    obtain ⟨_, _, h1, _, h2⟩ := (R9.ext0 Ed).get (by simp [bls])
    cases h1
    exact h2 0 _ rfl
  have c9b : y10.cell? ⟨b9, o9 + 1, none⟩ = some (.bool true) := by
    obtain ⟨_, _, h1, _, h2⟩ := (R9.ext0 Ed).get (by simp [bls])
    cases h1
    exact h2 1 _ rfl
  have hg := h_good g1 g2
  have hC : Gives Try.prog n_graph_Check #[.agg #[.slice (some ⟨g3, 0, none⟩) 3 3, .slice (some ⟨g4, 0, none⟩) 1 1]] y10 (i64 0) := by
    have := gcheck_spec (G.ext0 E510) hf
    rw [chk_zero.2 hg] at this
    exact this
  refine graph_Check_call (Gives.to hC fun y11 F11 => ?_)
  have c511 := fun i => (B5.ext (E510.trans F11) (by simp)).cell (i := i)
  simp (disch := (first | omega | decide | (simp only [rsD] <;> omega) | fail)) only [↓rsC, rsK, rsL, ↓rsKn17_0, tick_eq, tickV_eq, ne_eq, Int.reduceAdd, Int.reduceSub, Int.reduceMul, Int.reduceEq, Int.reduceLT, Int.reduceLE, Int.reduceToNat, Nat.reduceMul, Nat.reduceAdd, Nat.reduceSub, ←decide_not, c5, c59, c511]
  have hW : Gives Try.prog n_graph_Words #[.agg #[.slice (some ⟨g3, 0, none⟩) 3 3, .slice (some ⟨g4, 0, none⟩) 1 1]] y11 (i64 5) := by
    have := gwords_spec (G.ext0 (E510.trans F11)) hf hg
    rw [h_gW] at this
    exact this
  refine graph_Words_call (Gives.to hW fun y12 F12 => ?_)
  have e3 : (hN g1 g2).length = 3 := rfl
  have E1012 := F11.trans F12
  have up : ∀ {a : Addr} {v : Value} {w' : World}, Ext [] y10 w' → y10.cell? a = some v → w'.cell? a = some v := fun {a v w'} E h => by
    have hlt : a.block < y10.heap.size := Nat.lt_of_not_le fun hn => by
      have : y10.heap[a.block]? = none := Array.getElem?_eq_none hn
      unfold World.cell? at h
      rw [this] at h
      cases h
    rw [E.cell hlt (by simp)]
    exact h
  have c512 := fun i => (B5.ext (E510.trans E1012) (by simp)).cell (i := i)
  have c712 := fun i => (B7.ext ((X8.trans (E9.trans Ed)).trans E1012) (by simp)).cell (i := i)
  have d6b := up E1012 c6b
  have d6c := up E1012 c6c
  have d9a := up E1012 c9a
  have d9b := up E1012 c9b
  have e4 : [false, true, false].length = 3 := rfl
  simp (disch := (first | omega | decide | (simp only [rsD] <;> omega) | fail)) only [↓rsC, rsK, rsL, ↓rsKn17_0, tick_eq, tickV_eq, ne_eq, Int.reduceAdd, Int.reduceSub, Int.reduceMul, Int.reduceEq, Int.reduceLT, Int.reduceLE, Int.reduceToNat, Nat.reduceMul, Nat.reduceAdd, Nat.reduceSub, ←decide_not, c5, c59, c511, c512, c712, d6b, d6c, d9a, d9b, e3, e4, hn2]
  have hNs := Named_spec (G.ext0 (E510.trans E1012)) hf.r
  refine graph_Named_call (Yld.mono hNs ?_)
  rintro u y13 ⟨F13, a13, rfl, _⟩
  have E1013 := E1012.trans F13
  have c513 := fun i => (B5.ext (E510.trans E1013) (by simp)).cell (i := i)
  have e1 : hR.length = 1 := rfl
  simp (disch := (first | omega | decide | (simp only [rsD] <;> omega) | fail)) only [↓rsC, rsK, rsL, ↓rsKn17_0, tick_eq, tickV_eq, ne_eq, Int.reduceAdd, Int.reduceSub, Int.reduceMul, Int.reduceEq, Int.reduceLT, Int.reduceLE, Int.reduceToNat, Nat.reduceMul, Nat.reduceAdd, Nat.reduceSub, ←decide_not, c5, c59, c511, c512, c712, d6b, d6c, d9a, d9b, e3, e4, hn2, c513, e1]
  have hTw := GTwin_spec (G.ext0 (E510.trans E1013)) hf
  refine graph_Twin_call (Yld.mono hTw ?_)
  rintro u y14 ⟨F14, na2, nc2, ra2, rc2, ns2, hns2, rfl, G14, _, _⟩
  have E1014 := E1013.trans F14
  have c514 := fun i => (B5.ext (E510.trans E1014) (by simp)).cell (i := i)
  simp (disch := (first | omega | decide | (simp only [rsD] <;> omega) | fail)) only [↓rsC, rsK, rsL, ↓rsKn17_0, tick_eq, tickV_eq, ne_eq, Int.reduceAdd, Int.reduceSub, Int.reduceMul, Int.reduceEq, Int.reduceLT, Int.reduceLE, Int.reduceToNat, Nat.reduceMul, Nat.reduceAdd, Nat.reduceSub, ←decide_not, c5, c59, c511, c512, c712, d6b, d6c, d9a, d9b, e3, e4, hn2, c513, e1, c514]
  have hE1 := GEqual_spec G14 (G.ext0 (E510.trans E1014)) (few_bare hns2 hf) hf
  refine graph_Equal_call (Yld.mono hE1 ?_)
  rintro u y15 hu
  obtain ⟨rfl, F15⟩ := boolTrue hu ⟨hns2, rfl⟩
  have E1015 := E1014.trans F15
  have c515 := fun i => (B5.ext (E510.trans E1015) (by simp)).cell (i := i)
  have c715 := fun i => (B7.ext ((X8.trans (E9.trans Ed)).trans E1015) (by simp)).cell (i := i)
  simp (disch := (first | omega | decide | (simp only [rsD] <;> omega) | fail)) only [↓rsC, rsK, rsL, ↓rsKn17_0, tick_eq, tickV_eq, ne_eq, Int.reduceAdd, Int.reduceSub, Int.reduceMul, Int.reduceEq, Int.reduceLT, Int.reduceLE, Int.reduceToNat, Nat.reduceMul, Nat.reduceAdd, Nat.reduceSub, ←decide_not, c5, c59, c511, c512, c712, d6b, d6c, d9a, d9b, e3, e4, hn2, c513, e1, c514, c515, c715]
  have hf3 := trim_few hbs hf hns
  have hE2 := GEqual_spec (G6.ext0 (E610.trans E1015)) (G.ext0 (E510.trans E1015)) hf3 hf
  unfold gV at hE2
  rw [hn2] at hE2
  refine graph_Equal_call (Yld.mono hE2 ?_)
  rintro u y16 hu
  obtain ⟨rfl, F16⟩ := boolFalse hu (fun h => by
    have h2 := congrArg List.length h.1
    rw [List.length_map, List.length_map, hn2] at h2
    cases h2)
  simp (disch := (first | omega | decide | (simp only [rsD] <;> omega) | fail)) only [↓rsC, rsK, rsL, ↓rsKn17_0, tick_eq, tickV_eq, ne_eq, Int.reduceAdd, Int.reduceSub, Int.reduceMul, Int.reduceEq, Int.reduceLT, Int.reduceLE, Int.reduceToNat, Nat.reduceMul, Nat.reduceAdd, Nat.reduceSub, ←decide_not, c5, c59, c511, c512, c712, d6b, d6c, d9a, d9b, e3, e4, hn2, c513, e1, c514, c515, c715]
  exact ⟨trivial, Ext.trans Xw (E510.trans (E1015.trans F16))⟩
end Go.Proofs.Ythhcmoknppljpaa
end
section
set_option linter.unusedVariables false
set_option linter.unusedSimpArgs false
set_option maxHeartbeats 4000000
namespace Go.Proofs.Ythhcmoknppljpaa
open Go.Sh Go.RowKit

abbrev seenL (out : List Int) : List (Int × Value) := out.map fun p => (p, .bool true)
structure OrdS (y w : World) (b4 r : Nat) (out : List Int) : Prop where
  F : Ext [b4, r] y w
  B : ∃ v, Blk w b4 26 [v] ∧ OwnIt w v out ∧ ∀ z ∈ blk v, y.heap.size ≤ z
  M : MapIs w r (seenL out)
theorem OrdS.ext0 {y w w' : World} {b4 r : Nat} {out : List Int} (h : OrdS y w b4 r out) (hx : Ext [] w w') : OrdS y w' b4 r out := by
  obtain ⟨v, h1, h2, h3⟩ := h.B
  exact ⟨h.F.trans (hx.more (by simp)), ⟨v, h1.ext hx (by simp), h2.ext0 hx, h3⟩, h.M.ext0 hx⟩
theorem addL_snoc (n : Nat) (out ps : List Int) (p : Int) : addL n out (ps ++ [p]) = addN n (addL n out ps) p := by
  unfold addL
  rw [List.foldl_append]
  rfl
theorem addL_len (n : Nat) : ∀ (ps out : List Int), out.length ≤ (addL n out ps).length
  | [], _ => Nat.le_refl _
  | p :: ps, out => by
    have h1 := addL_len n ps (addN n out p)
    have h2 : out.length ≤ (addN n out p).length := by
      unfold addN
      split
      · simp
      · exact Nat.le_refl _
    have e : addL n out (p :: ps) = addL n (addN n out p) ps := rfl
    rw [e]
    omega
end Go.Proofs.Ythhcmoknppljpaa
end
section
set_option linter.unusedVariables false
set_option linter.unusedSimpArgs false
set_option maxHeartbeats 4000000
namespace Go.Proofs.Ythhcmoknppljpaa
open Go.Sh Go.RowKit

abbrev rsWlk1_0 := (And.intro @xu8_add (And.intro @xu8_lss (And.intro @xu16_add (And.intro @xu16_lss (And.intro @xu32_add (And.intro @xu32_lss (And.intro @xu64_add (And.intro @xu64_lss (And.intro @xi64_lss (And.intro @ld_3 (And.intro @ld_30 (And.intro @fa_32_1 (And.intro @fa_61_1 (And.intro @ia_30 (And.intro @ln_30 (And.intro @bs_26_0 @bs_26_1))))))))))))))))
theorem RNamed_spec {w : World} {na ra : Option Addr} {nc rc : Nat} {ns : List GN} {rs : List GR} (h : GIs w na nc ra rc ns rs) (hrl : rs.length ≤ 9000) :
    Yld Try.prog n_loamref17_Named #[gV na nc ra rc ns rs] w fun u w' => NewIt w w' u (tosL rs) := by
  refine loamref17_Named_of ?_
  unfold loamref17_Named
  have gbox : ∀ (y : World) (K : K1), xBox Try.prog 32 (gV na nc ra rc ns rs) y K = K (ptr y.heap.size) (y.alloc (.cells #[.slice na ns.length nc, .slice ra rs.length rc] 32)) := fun y K => xBox_r
  rw [gbox]
  have B1 : Blk (w.alloc (.cells #[.slice na ns.length nc, .slice ra rs.length rc] 32)) w.heap.size 32 [.slice na ns.length nc, .slice ra rs.length rc] := Blk.at rfl
  have X1 : Ext [] w (w.alloc (.cells #[.slice na ns.length nc, .slice ra rs.length rc] 32)) := Ext.alloc _ _ _
  have h1 := h.ext0 X1
  generalize w.alloc (.cells #[.slice na ns.length nc, .slice ra rs.length rc] 32) = y1 at *
  generalize hg1 : w.heap.size = g1 at *
  refine xLoop_r rs.length (fun j vs w' => ∃ v, vs = [v, i64 (j : Int)] ∧ NewIt y1 w' v ((tosL rs).take j)) ⟨_, rfl, NewR.nil (Ext.refl _ _)⟩ ?_ ?_
  · rintro j hj u w2 ⟨v, hu, N⟩ nxt hnx
    simp only [List.map_cons, List.map_nil, List.cons.injEq, and_true] at hu
    rw [hu.1, hu.2]
    obtain ⟨b, o, rfl, hlt, c1, c2⟩ := gr_at (h1.rr.ext0 N.1) hj
    have k1 := fun i => (B1.ext N.1 (by simp)).cell (i := i)
    have hlen : ((tosL rs).take j).length = j := by simp; omega
    have hsu : (tosL rs).take (j + 1) = (tosL rs).take j ++ [rs[j].to] := by
      rw [List.take_add_one, List.getElem?_eq_getElem (by simpa using hj)]
      simp
    generalize rs[j] = r at *
    obtain ⟨a0, c0, hv0, _⟩ := N.2.1.slice
    subst hv0
    unfold loamref17_Named_l1
    simp (disch := (first | omega | decide | (simp only [rsD] <;> omega) | fail)) only [↓rsC, rsK, rsL, ↓rsWlk1_0, tick_eq, tickV_eq, ne_eq, Int.reduceAdd, Int.reduceSub, Int.reduceMul, Int.reduceEq, Int.reduceLT, Int.reduceLE, Int.reduceToNat, Nat.reduceMul, Nat.reduceAdd, Nat.reduceSub, ←decide_not, k1, c2]
    refine appIt N.2.1 (o := r.to) rfl (by omega) fun v' x5 O5 T5 => ?_
    have N5 := N.app O5 T5
    rw [← hsu] at N5
    simp (disch := (first | omega | decide | (simp only [rsD] <;> omega) | fail)) only [↓rsC, rsK, rsL, ↓rsWlk1_0, tick_eq, tickV_eq, ne_eq, Int.reduceAdd, Int.reduceSub, Int.reduceMul, Int.reduceEq, Int.reduceLT, Int.reduceLE, Int.reduceToNat, Nat.reduceMul, Nat.reduceAdd, Nat.reduceSub, ←decide_not, k1, c2]
    exact hnx _ _ ⟨v', by simp, N5⟩
  · rintro u w2 ⟨v, hu, N⟩ nxt
    simp only [List.map_cons, List.map_nil, List.cons.injEq, and_true] at hu
    rw [hu.1, hu.2]
    have etk : (tosL rs).take rs.length = tosL rs := by rw [show rs.length = (tosL rs).length by simp, List.take_length]
    rw [etk] at N
    have k1 := fun i => (B1.ext N.1 (by simp)).cell (i := i)
    unfold loamref17_Named_l1
    simp (disch := (first | omega | decide | (simp only [rsD] <;> omega) | fail)) only [↓rsC, rsK, rsL, ↓rsWlk1_0, tick_eq, tickV_eq, ne_eq, Int.reduceAdd, Int.reduceSub, Int.reduceMul, Int.reduceEq, Int.reduceLT, Int.reduceLE, Int.reduceToNat, Nat.reduceMul, Nat.reduceAdd, Nat.reduceSub, ←decide_not, k1]
    exact NewR.pre X1 N
def seenB (n : Nat) (out : List Int) : List Value := (List.range (n + 1)).map fun (i : Nat) => .bool (decide ((i : Int) ∈ out))
theorem seenB_nil (n : Nat) : seenB n [] = List.replicate (n + 1) (.bool false) := by
  refine List.ext_getElem (by simp [seenB]) fun i h1 h2 => ?_
  simp [seenB]
theorem seenB_set {n : Nat} {out : List Int} {p : Int} (h : okNo n p) : (seenB n out).set p.toNat (.bool true) = seenB n (out ++ [p]) := by
  refine List.ext_getElem (by simp [seenB]) fun i h1 h2 => ?_
  rw [List.getElem_set]
  unfold okNo at h
  split
  · rename_i e
    have : (i : Int) = p := by omega
    simp [seenB, this]
  · rename_i e
    have : ¬ (i : Int) = p := by omega
    simp [seenB, this]
theorem seenB_get {n : Nat} {out : List Int} {p : Int} (h0 : 0 ≤ p) (h1 : p ≤ n) : (seenB n out)[p.toNat]? = some (.bool (decide (p ∈ out))) := by
  have e : ((p.toNat : Nat) : Int) = p := by omega
  unfold seenB
  rw [List.getElem?_map, List.getElem?_range (by omega), Option.map_some, e]
structure WkS (n : Nat) (y w : World) (gs : Nat) (v : Value) (out : List Int) : Prop where
  F : Ext [gs] y w
  O : OwnIt w v out
  U : ∀ z ∈ blk v, y.heap.size ≤ z
  B : Blk w gs 4 (seenB n out)
theorem WkS.ext0 {n : Nat} {y w w' : World} {gs : Nat} {v : Value} {out : List Int} (S : WkS n y w gs v out) (hx : Ext [] w w') : WkS n y w' gs v out := ⟨S.F.trans (hx.more (by simp)), S.O.ext0 hx, S.U, S.B.ext hx (by simp)⟩
theorem wk_add {n : Nat} {y w : World} {gs : Nat} {v : Value} {out : List Int} {p : Int} {K : K1} (S : WkS n y w gs v out) (hp : okNo n p) (hlt : gs < y.heap.size) (hol : out.length ≤ 9000) (hK : ∀ v' w', WkS n y w' gs v' (out ++ [p]) → K v' w') :
    xBuiltin Try.prog .append #[26, 26] 26 [false, false] [v, .slice (some ⟨(w.setCell ⟨gs, p.toNat, none⟩ (.bool true)).heap.size, 0, none⟩) 1 1] ((w.setCell ⟨gs, p.toNat, none⟩ (.bool true)).alloc (.cells #[i64 p] 3)) K := by
  have F1 : Ext [gs] y (w.setCell ⟨gs, p.toNat, none⟩ (.bool true)) := S.F.set' (.inl (by simp))
  have B1 := S.B.set (i := p.toNat) (v := .bool true)
  rw [seenB_set hp] at B1
  have hgv : gs ∉ blk v := fun h => by have := S.U _ h; omega
  have O1 := S.O.ext (Ext.set (w := w) (b := gs) (o := p.toNat) (v := .bool true)) (fun z hz hm => by simp only [List.mem_singleton] at hm; subst hm; exact hgv hz)
  refine appIt O1 (o := p) rfl (by omega) fun v' x5 O5 T5 => ?_
  obtain ⟨F5, U5, n1, n2⟩ := grow F1 S.U hlt T5
  exact hK _ _ ⟨F5, O5, U5, B1.ext T5.ext n1⟩
abbrev rsWlk1_1 := (And.intro @xu8_add (And.intro @xu8_sub (And.intro @xu8_com (And.intro @xu8_neq (And.intro @xu8_lss (And.intro @xu8_leq (And.intro @xu8_geq (And.intro @xu16_add (And.intro @xu16_sub (And.intro @xu16_com (And.intro @xu16_neq (And.intro @xu16_lss (And.intro @xu16_leq (And.intro @xu16_geq (And.intro @xu32_add (And.intro @xu32_sub 
  (And.intro @xu32_com (And.intro @xu32_neq (And.intro @xu32_lss (And.intro @xu32_leq (And.intro @xu32_geq (And.intro @xu64_add (And.intro @xu64_sub (And.intro @xu64_com (And.intro @xu64_neq (And.intro @xu64_lss (And.intro @xu64_leq (And.intro @xu64_geq (And.intro @xi64_lss (And.intro @xi64_leq (And.intro @xi64_geq (And.intro @xi64_neq (And.intro @xi64_neg 
  (And.intro @ld_3 (And.intro @ld_4 (And.intro @ld_26 (And.intro @ld_29 (And.intro @fa_32_0 (And.intro @fa_60_0 (And.intro @st_4 (And.intro @ia_26 (And.intro @ia_29 (And.intro @ia_37 (And.intro @ln_26 (And.intro @ln_29 (And.intro @bs_26_0 (And.intro @bs_26_1 @mk_37)))))))))))))))))))))))))))))))))))))))))))))))
theorem RWalk_spec {w : World} {na ra : Option Addr} {nc rc : Nat} {ns : List GN} {rs : List GR} (h : GIs w na nc ra rc ns rs) (hf : FewH ns rs) (hg : ∀ x ∈ ns, ∀ p ∈ x.p, 0 ≤ p ∧ p ≤ ns.length) {fr : List Int} {a : Option Addr} {c : Nat} (hr : RowAt w a (its fr)) (hl : fr.length ≤ 100000) :
    Yld Try.prog n_loamref17_Walk #[gV na nc ra rc ns rs, .slice a fr.length c] w fun u w' => NewIt w w' u (ordV ns fr) := by
  have hfn := hf.n
  refine loamref17_Walk_of ?_
  unfold loamref17_Walk
  have gbox : ∀ (y : World) (K : K1), xBox Try.prog 32 (gV na nc ra rc ns rs) y K = K (ptr y.heap.size) (y.alloc (.cells #[.slice na ns.length nc, .slice ra rs.length rc] 32)) := fun y K => xBox_r
  rw [gbox]
  have B1 : Blk (w.alloc (.cells #[.slice na ns.length nc, .slice ra rs.length rc] 32)) w.heap.size 32 [.slice na ns.length nc, .slice ra rs.length rc] := Blk.at rfl
  have X1 : Ext [] w (w.alloc (.cells #[.slice na ns.length nc, .slice ra rs.length rc] 32)) := Ext.alloc _ _ _
  generalize w.alloc (.cells #[.slice na ns.length nc, .slice ra rs.length rc] 32) = y1 at *
  obtain ⟨g1, hg1⟩ : ∃ g, g = w.heap.size := ⟨_, rfl⟩
  rw [← hg1] at B1 ⊢
  have g1lt := B1.lt
  have k1 := fun i => B1.cell (i := i)
  simp (disch := (first | omega | decide | (simp only [rsD] <;> omega) | fail)) only [↓rsC, rsK, rsL, ↓rsWlk1_1, tick_eq, tickV_eq, ne_eq, Int.reduceAdd, Int.reduceSub, Int.reduceMul, Int.reduceEq, Int.reduceLT, Int.reduceLE, Int.reduceToNat, Nat.reduceMul, Nat.reduceAdd, Nat.reduceSub, ←decide_not, k1]
  have en : ((ns.length : Int) + 1).toNat = ns.length + 1 := by omega
  rw [en]
  have Bs : Blk (y1.alloc (.cells (List.replicate (ns.length + 1) (.bool false)).toArray 4)) y1.heap.size 4 (seenB ns.length []) := by rw [seenB_nil]; exact Blk.at rfl
  have X2 : Ext [] y1 (y1.alloc (.cells (List.replicate (ns.length + 1) (.bool false)).toArray 4)) := Ext.alloc _ _ _
  have B12 := B1.ext X2 (by simp)
  have z2 : (y1.alloc (.cells (List.replicate (ns.length + 1) (.bool false)).toArray 4)).heap.size = y1.heap.size + 1 := World.size_alloc _ _
  generalize y1.alloc (.cells (List.replicate (ns.length + 1) (.bool false)).toArray 4) = y at *
  obtain ⟨gs, hgs⟩ : ∃ g, g = y1.heap.size := ⟨_, rfl⟩
  rw [← hgs] at Bs z2 ⊢
  have Xw := X1.trans X2
  have zw := X1.size
  have hlt : gs < y.heap.size := by omega
  have fresh : ∀ {w' : World}, Ext [gs] y w' → Ext [] w w' := fun F => Xw.new F (fun z hz => by simp only [List.mem_singleton] at hz; omega)
  have ne1 : g1 ∉ [gs] := by simp only [List.mem_singleton]; omega
  have nilb : ∀ z, z ∉ blk (.slice none 0 0) := by simp [blk, Value.ownBlock]
  refine xLoop_r fr.length (fun j vs w' => ∃ v, vs = [v, i64 (j : Int)] ∧ WkS ns.length y w' gs v (addL ns.length [] (fr.take j)) ∧ OutOk ns.length (addL ns.length [] (fr.take j))) ⟨_, rfl, ⟨Ext.refl _ _, Own.nil, fun z hz => absurd hz (nilb z), Bs⟩, OutOk.nil⟩ ?_ ?_
  · rintro j hj u x1 ⟨v, hu, S, hO⟩ nxt hnx
    simp only [List.map_cons, List.map_nil, List.cons.injEq, and_true] at hu
    rw [hu.1, hu.2]
    obtain ⟨b, o, rfl, _, c1⟩ := its_at (hr.ext0 (fresh S.F)) hj
    have hsu : fr.take (j + 1) = fr.take j ++ [fr[j]] := by
      rw [List.take_add_one, List.getElem?_eq_getElem hj]
      rfl
    obtain ⟨_, _, e1, _, c1d⟩ := its_at (hr.ext0 ((fresh S.F).trans (Ext.drew [] x1))) hj
    cases e1
    obtain ⟨_, _, e1, hbw, _⟩ := its_at hr hj
    cases e1
    have hbg : b ≠ gs := by omega
    have fs := fun i => S.B.frozen (i := i)
    generalize fr[j] = p at *
    have Sd := S.ext0 (Ext.drew [] x1)
    have kd := fun i => (B12.ext Sd.F ne1).cell (i := i)
    have ks : okNo ns.length p → x1.drew.cell? ⟨gs, p.toNat, none⟩ = some (.bool (decide (p ∈ addL ns.length [] (fr.take j)))) := fun hp => by rw [Sd.B.cell, seenB_get (by unfold okNo at hp; omega) hp.2]
    have hol := hO.len
    have hstep : addL ns.length [] (fr.take (j + 1)) = addN ns.length (addL ns.length [] (fr.take j)) p := by rw [hsu, addL_snoc]
    have hO' : OutOk ns.length (addL ns.length [] (fr.take (j + 1))) := OutOk.addL _ OutOk.nil
    generalize addL ns.length [] (fr.take (j + 1)) = out' at *
    generalize addL ns.length [] (fr.take j) = out at *
    have stay : ¬ (okNo ns.length p ∧ p ∉ out) → nxt [v, i64 ((j + 1 : Nat) : Int)] x1.drew := fun hno => hnx _ _ ⟨v, rfl, by rw [hstep]; unfold addN; rw [if_neg hno]; exact Sd, hO'⟩
    unfold loamref17_Walk_l1
    by_cases p1 : p ≥ 1
    · by_cases p2 : p ≤ (ns.length : Int)
      · have hp : okNo ns.length p := ⟨p1, p2⟩
        have ks := ks hp
        by_cases hm : p ∈ out
        · rw [decide_eq_true hm] at ks
          simp (disch := (first | omega | decide | (simp only [rsD] <;> omega) | fail)) only [↓rsC, rsK, rsL, ↓rsWlk1_1, tick_eq, tickV_eq, ne_eq, Int.reduceAdd, Int.reduceSub, Int.reduceMul, Int.reduceEq, Int.reduceLT, Int.reduceLE, Int.reduceToNat, Nat.reduceMul, Nat.reduceAdd, Nat.reduceSub, ←decide_not, k1, c1d, kd, ks]
          unfold loamref17_Walk_j1
          simp (disch := (first | omega | decide | (simp only [rsD] <;> omega) | fail)) only [↓rsC, rsK, rsL, ↓rsWlk1_1, tick_eq, tickV_eq, ne_eq, Int.reduceAdd, Int.reduceSub, Int.reduceMul, Int.reduceEq, Int.reduceLT, Int.reduceLE, Int.reduceToNat, Nat.reduceMul, Nat.reduceAdd, Nat.reduceSub, ←decide_not, k1, c1d, kd, ks]
          exact stay fun h => h.2 hm
        · rw [decide_eq_false hm] at ks
          simp (disch := (first | omega | decide | (simp only [rsD] <;> omega) | fail)) only [↓rsC, rsK, rsL, ↓rsWlk1_1, tick_eq, tickV_eq, ne_eq, Int.reduceAdd, Int.reduceSub, Int.reduceMul, Int.reduceEq, Int.reduceLT, Int.reduceLE, Int.reduceToNat, Nat.reduceMul, Nat.reduceAdd, Nat.reduceSub, ←decide_not, k1, c1d, kd, ks, fs]
          refine wk_add Sd hp hlt (by omega) fun v' x5 S5 => ?_
          unfold loamref17_Walk_j1
          simp (disch := (first | omega | decide | (simp only [rsD] <;> omega) | fail)) only [↓rsC, rsK, rsL, ↓rsWlk1_1, tick_eq, tickV_eq, ne_eq, Int.reduceAdd, Int.reduceSub, Int.reduceMul, Int.reduceEq, Int.reduceLT, Int.reduceLE, Int.reduceToNat, Nat.reduceMul, Nat.reduceAdd, Nat.reduceSub, ←decide_not, k1, c1d, kd, ks, fs]
          exact hnx _ _ ⟨v', by simp, by rw [hstep]; unfold addN; rw [if_pos ⟨hp, hm⟩]; exact S5, hO'⟩
      · simp (disch := (first | omega | decide | (simp only [rsD] <;> omega) | fail)) only [↓rsC, rsK, rsL, ↓rsWlk1_1, tick_eq, tickV_eq, ne_eq, Int.reduceAdd, Int.reduceSub, Int.reduceMul, Int.reduceEq, Int.reduceLT, Int.reduceLE, Int.reduceToNat, Nat.reduceMul, Nat.reduceAdd, Nat.reduceSub, ←decide_not, k1, c1d, kd]
        unfold loamref17_Walk_j1
        simp (disch := (first | omega | decide | (simp only [rsD] <;> omega) | fail)) only [↓rsC, rsK, rsL, ↓rsWlk1_1, tick_eq, tickV_eq, ne_eq, Int.reduceAdd, Int.reduceSub, Int.reduceMul, Int.reduceEq, Int.reduceLT, Int.reduceLE, Int.reduceToNat, Nat.reduceMul, Nat.reduceAdd, Nat.reduceSub, ←decide_not, k1, c1d, kd]
        exact stay fun h => p2 h.1.2
    · simp (disch := (first | omega | decide | (simp only [rsD] <;> omega) | fail)) only [↓rsC, rsK, rsL, ↓rsWlk1_1, tick_eq, tickV_eq, ne_eq, Int.reduceAdd, Int.reduceSub, Int.reduceMul, Int.reduceEq, Int.reduceLT, Int.reduceLE, Int.reduceToNat, Nat.reduceMul, Nat.reduceAdd, Nat.reduceSub, ←decide_not, k1, c1d, kd]
      unfold loamref17_Walk_j1
      simp (disch := (first | omega | decide | (simp only [rsD] <;> omega) | fail)) only [↓rsC, rsK, rsL, ↓rsWlk1_1, tick_eq, tickV_eq, ne_eq, Int.reduceAdd, Int.reduceSub, Int.reduceMul, Int.reduceEq, Int.reduceLT, Int.reduceLE, Int.reduceToNat, Nat.reduceMul, Nat.reduceAdd, Nat.reduceSub, ←decide_not, k1, c1d, kd]
      exact stay fun h => p1 h.1.1
  · rintro u x1 ⟨v, hu, S, hO⟩ nxt
    simp only [List.map_cons, List.map_nil, List.cons.injEq, and_true] at hu
    rw [hu.1, hu.2]
    rw [List.take_length] at S hO
    unfold loamref17_Walk_l1
    simp (disch := (first | omega | decide | (simp only [rsD] <;> omega) | fail)) only [↓rsC, rsK, rsL, ↓rsWlk1_1, tick_eq, tickV_eq, ne_eq, Int.reduceAdd, Int.reduceSub, Int.reduceMul, Int.reduceEq, Int.reduceLT, Int.reduceLE, Int.reduceToNat, Nat.reduceMul, Nat.reduceAdd, Nat.reduceSub, ←decide_not, k1]
    refine xLoop_r (ns.length + 1) (fun i vs w' => ∃ v out, vs = [v, i64 (i : Int)] ∧ WkS ns.length y w' gs v out ∧ OutOk ns.length out ∧ i ≤ out.length ∧ ordV ns fr = bfs ns (ns.length + 1 - i) i out) ⟨_, _, rfl, S, hO, Nat.zero_le _, rfl⟩ ?_ ?_
    rotate_left
    · rintro u x2 ⟨v, out, hu, S2, hO2, hi, he⟩ nxt2
      have := hO2.len
      omega
    rintro i hi u x2 ⟨v2, out, hu, S2, hO2, hil, he⟩ nxt2 hnx2
    simp only [List.map_cons, List.map_nil, List.cons.injEq, and_true] at hu
    rw [hu.1, hu.2]
    have hol := hO2.len
    obtain ⟨a0, c0, hv0, hc0, _, _, R0, _⟩ := S2.O.slice
    unfold loamref17_Walk_l2
    by_cases hlt2 : i < out.length
    · have Sd := S2.ext0 (Ext.drew [] x2)
      have kd := fun i => (B12.ext Sd.F ne1).cell (i := i)
      obtain ⟨bo, oo, eo, _, co⟩ := its_at (R0.ext0 (Ext.drew [] x2)) hlt2
      have hok := hO2.ok _ (List.getElem_mem hlt2)
      have hq : out[i].toNat - 1 < ns.length := by omega
      obtain ⟨bn, on, ena, _, c1, c2⟩ := gn_at (h.nr.ext0 (fresh Sd.F)) hq
      have hptr : ptrsOf ns out[i] = ns[out[i].toNat - 1].p := by unfold ptrsOf; rw [List.getElem?_eq_getElem hq]
      have hstep : bfs ns (ns.length + 1 - i) i out = bfs ns (ns.length + 1 - (i + 1)) (i + 1) (addL ns.length out ns[out[i].toNat - 1].p) := by
        rw [show ns.length + 1 - i = (ns.length + 1 - (i + 1)) + 1 by omega, bfs_step hlt2, hptr]
      have hx := h.ok _ (List.getElem_mem hq)
      have hgx := hg _ (List.getElem_mem hq)
      have tq : (out[i] - 1).toNat = out[i].toNat - 1 := by omega
      have hqb : out[i] ≤ 9000 := by omega
      have lx := hf.x _ (List.getElem_mem hq)
      generalize out[i] = q at *
      generalize ns[q.toNat - 1] = x at *
      subst ena
      subst hv0
      rw [eo]
      simp (disch := (first | omega | decide | (simp only [rsD] <;> omega) | fail)) only [↓rsC, rsK, rsL, ↓rsWlk1_1, tick_eq, tickV_eq, ne_eq, Int.reduceAdd, Int.reduceSub, Int.reduceMul, Int.reduceEq, Int.reduceLT, Int.reduceLE, Int.reduceToNat, Nat.reduceMul, Nat.reduceAdd, Nat.reduceSub, ←decide_not, k1, kd, co, tq, c1]
      rw [← eo]
      refine xLoop_r x.p.length (fun k vs w' => ∃ v, vs = [v, i64 (k : Int)] ∧ WkS ns.length y w' gs v (addL ns.length out (x.p.take k)) ∧ OutOk ns.length (addL ns.length out (x.p.take k))) ⟨_, rfl, by simpa [addL] using Sd, OutOk.addL _ hO2⟩ ?_ ?_
      · rintro k hk u x3 ⟨v3, hu, S3, hO3⟩ nxt3 hnx3
        simp only [List.map_cons, List.map_nil, List.cons.injEq, and_true] at hu
        rw [hu.1, hu.2]
        obtain ⟨bp, op, ep, _, cp⟩ := its_at (hx.ext0 (fresh S3.F)).pr hk
        obtain ⟨_, _, e1, hbw, _⟩ := its_at hx.pr hk
        rw [ep] at e1
        cases e1
        have hbg : bp ≠ gs := by omega
        have fs := fun i => S3.B.frozen (i := i)
        have hsu : x.p.take (k + 1) = x.p.take k ++ [x.p[k]] := by
          rw [List.take_add_one, List.getElem?_eq_getElem hk]
          rfl
        have hpg := hgx _ (List.getElem_mem hk)
        generalize x.p[k] = p at *
        have ks : okNo ns.length p → x3.cell? ⟨gs, p.toNat, none⟩ = some (.bool (decide (p ∈ addL ns.length out (x.p.take k)))) := fun hp => by rw [S3.B.cell, seenB_get hpg.1 hp.2]
        have hol3 := hO3.len
        have hstep3 : addL ns.length out (x.p.take (k + 1)) = addN ns.length (addL ns.length out (x.p.take k)) p := by rw [hsu, addL_snoc]
        have hO' : OutOk ns.length (addL ns.length out (x.p.take (k + 1))) := OutOk.addL _ hO2
        generalize addL ns.length out (x.p.take (k + 1)) = out4 at *
        generalize addL ns.length out (x.p.take k) = out3 at *
        have stay : ¬ (okNo ns.length p ∧ p ∉ out3) → nxt3 [v3, i64 ((k + 1 : Nat) : Int)] x3 := fun hno => hnx3 _ _ ⟨v3, rfl, by rw [hstep3]; unfold addN; rw [if_neg hno]; exact S3, hO'⟩
        unfold loamref17_Walk_l3
        rw [ep]
        by_cases p0 : p = 0
        · subst p0
          simp (disch := (first | omega | decide | (simp only [rsD] <;> omega) | fail)) only [↓rsC, rsK, rsL, ↓rsWlk1_1, tick_eq, tickV_eq, ne_eq, Int.reduceAdd, Int.reduceSub, Int.reduceMul, Int.reduceEq, Int.reduceLT, Int.reduceLE, Int.reduceToNat, Nat.reduceMul, Nat.reduceAdd, Nat.reduceSub, ←decide_not, k1, kd, co, tq, c1, cp]
          unfold loamref17_Walk_j2
          simp (disch := (first | omega | decide | (simp only [rsD] <;> omega) | fail)) only [↓rsC, rsK, rsL, ↓rsWlk1_1, tick_eq, tickV_eq, ne_eq, Int.reduceAdd, Int.reduceSub, Int.reduceMul, Int.reduceEq, Int.reduceLT, Int.reduceLE, Int.reduceToNat, Nat.reduceMul, Nat.reduceAdd, Nat.reduceSub, ←decide_not, k1, kd, co, tq, c1, cp]
          exact stay fun h => by have := h.1.1; omega
        · have hp : okNo ns.length p := ⟨by omega, hpg.2⟩
          have ks := ks hp
          by_cases hm : p ∈ out3
          · rw [decide_eq_true hm] at ks
            simp (disch := (first | omega | decide | (simp only [rsD] <;> omega) | fail)) only [↓rsC, rsK, rsL, ↓rsWlk1_1, tick_eq, tickV_eq, ne_eq, Int.reduceAdd, Int.reduceSub, Int.reduceMul, Int.reduceEq, Int.reduceLT, Int.reduceLE, Int.reduceToNat, Nat.reduceMul, Nat.reduceAdd, Nat.reduceSub, ←decide_not, k1, kd, co, tq, c1, cp, ks]
            unfold loamref17_Walk_j2
            simp (disch := (first | omega | decide | (simp only [rsD] <;> omega) | fail)) only [↓rsC, rsK, rsL, ↓rsWlk1_1, tick_eq, tickV_eq, ne_eq, Int.reduceAdd, Int.reduceSub, Int.reduceMul, Int.reduceEq, Int.reduceLT, Int.reduceLE, Int.reduceToNat, Nat.reduceMul, Nat.reduceAdd, Nat.reduceSub, ←decide_not, k1, kd, co, tq, c1, cp, ks]
            exact stay fun h => h.2 hm
          · rw [decide_eq_false hm] at ks
            simp (disch := (first | omega | decide | (simp only [rsD] <;> omega) | fail)) only [↓rsC, rsK, rsL, ↓rsWlk1_1, tick_eq, tickV_eq, ne_eq, Int.reduceAdd, Int.reduceSub, Int.reduceMul, Int.reduceEq, Int.reduceLT, Int.reduceLE, Int.reduceToNat, Nat.reduceMul, Nat.reduceAdd, Nat.reduceSub, ←decide_not, k1, kd, co, tq, c1, cp, ks, fs]
            refine wk_add S3 hp hlt (by omega) fun v' x5 S5 => ?_
            unfold loamref17_Walk_j2
            simp (disch := (first | omega | decide | (simp only [rsD] <;> omega) | fail)) only [↓rsC, rsK, rsL, ↓rsWlk1_1, tick_eq, tickV_eq, ne_eq, Int.reduceAdd, Int.reduceSub, Int.reduceMul, Int.reduceEq, Int.reduceLT, Int.reduceLE, Int.reduceToNat, Nat.reduceMul, Nat.reduceAdd, Nat.reduceSub, ←decide_not, k1, kd, co, tq, c1, cp, ks, fs]
            exact hnx3 _ _ ⟨v', by simp, by rw [hstep3]; unfold addN; rw [if_pos ⟨hp, hm⟩]; exact S5, hO'⟩
      · rintro u x3 ⟨v3, hu, S3, hO3⟩ nxt3
        simp only [List.map_cons, List.map_nil, List.cons.injEq, and_true] at hu
        rw [hu.1, hu.2]
        rw [List.take_length] at S3 hO3
        unfold loamref17_Walk_l3
        simp (disch := (first | omega | decide | (simp only [rsD] <;> omega) | fail)) only [↓rsC, rsK, rsL, ↓rsWlk1_1, tick_eq, tickV_eq, ne_eq, Int.reduceAdd, Int.reduceSub, Int.reduceMul, Int.reduceEq, Int.reduceLT, Int.reduceLE, Int.reduceToNat, Nat.reduceMul, Nat.reduceAdd, Nat.reduceSub, ←decide_not, k1, kd, co, tq, c1]
        have hlen3 : i + 1 ≤ (addL ns.length out x.p).length := by
          have := addL_len ns.length x.p out
          omega
        exact hnx2 _ _ ⟨v3, _, by simp, S3, hO3, hlen3, by rw [he, hstep]⟩
    · have e : ordV ns fr = out := by rw [he, bfs_end (by omega)]
      subst hv0
      simp (disch := (first | omega | decide | (simp only [rsD] <;> omega) | fail)) only [↓rsC, rsK, rsL, ↓rsWlk1_1, tick_eq, tickV_eq, ne_eq, Int.reduceAdd, Int.reduceSub, Int.reduceMul, Int.reduceEq, Int.reduceLT, Int.reduceLE, Int.reduceToNat, Nat.reduceMul, Nat.reduceAdd, Nat.reduceSub, ←decide_not, k1]
      rw [e]
      exact ⟨fresh S2.F, S2.O, fun z hz => by have := S2.U z hz; have := Xw.size; omega⟩
end Go.Proofs.Ythhcmoknppljpaa
end
section
set_option linter.unusedVariables false
set_option linter.unusedSimpArgs false
set_option maxHeartbeats 4000000
namespace Go.Proofs.Ythhcmoknppljpaa
open Go.Sh Go.RowKit

theorem nodes_app {w w5 : World} {hx : Nat} {v v' : Value} {ns : List GN} {x : GN} (A : ∀ y ∈ ns, NOk w y ∧ Apt (hx :: blk v) y) (hk : NOk w x) (ha : Apt (hx :: blk v) x) (T : Stp (blk v) (blk v') w w5) {w6 : World} (F6 : Ext [hx] w5 w6) : ∀ y ∈ ns ++ [x], NOk w6 y ∧ Apt (hx :: blk v') y := by
  intro p hp
  have hA : NOk w p ∧ Apt (hx :: blk v) p := by
    rcases List.mem_append.1 hp with hp | hp
    · exact A p hp
    · rw [List.mem_singleton] at hp
      subst hp
      exact ⟨hk, ha⟩
  have hA2 := hA.1.ext (T.ext.more (fun z hz => List.mem_cons_of_mem hx hz)) hA.2
  have hA3 : Apt (hx :: blk v') p := hA.2.more hA.1 fun b hb => by
    rcases List.mem_cons.1 hb with e | e
    · exact .inl (by rw [e]; exact List.mem_cons_self ..)
    · exact (T.at' b e).imp (List.mem_cons_of_mem _) id
  exact ⟨hA2.ext (F6.more (by simp)) hA3, hA3⟩
end Go.Proofs.Ythhcmoknppljpaa
end
section
set_option linter.unusedVariables false
set_option linter.unusedSimpArgs false
set_option maxHeartbeats 4000000
namespace Go.Proofs.Ythhcmoknppljpaa
open Go.Sh Go.RowKit

def toK (n : Nat) (ord : List Int) : List Int := (List.range n).map fun (i : Nat) => noV ord ((i : Int) + 1)
theorem toK_nil (n : Nat) : its (toK n []) = List.replicate n (i64 0) := by
  refine List.ext_getElem (by simp [toK]) fun i h1 h2 => ?_
  simp [toK, noV]
theorem noV_snoc {o : List Int} {q p : Int} (hq : q ∉ o) : noV (o ++ [q]) p = if p = q then (o.length : Int) + 1 else noV o p := by
  unfold noV
  by_cases e : p = q
  · subst e
    rw [if_pos rfl, if_pos (by simp), List.idxOf_append, if_neg hq]
    simp
  · rw [if_neg e]
    by_cases h : p ∈ o
    · rw [if_pos h, if_pos (by simp [h]), List.idxOf_append, if_pos h]
    · rw [if_neg h, if_neg (by simp [h, e])]
theorem toK_set {n : Nat} {o : List Int} {q : Int} (h : okNo n q) (hq : q ∉ o) : (its (toK n o)).set (q - 1).toNat (i64 ((o.length : Int) + 1)) = its (toK n (o ++ [q])) := by
  unfold okNo at h
  refine List.ext_getElem (by simp [toK]) fun i h1 h2 => ?_
  rw [List.getElem_set]
  simp only [toK, List.getElem_map, List.getElem_range]
  rw [noV_snoc hq]
  split
  · rename_i e
    rw [if_pos (by omega)]
  · rename_i e
    rw [if_neg (by omega)]
theorem toK_get {n : Nat} {o : List Int} {p : Int} (h : okNo n p) : (its (toK n o))[(p - 1).toNat]? = some (i64 (noV o p)) := by
  unfold okNo at h
  simp only [toK, List.getElem?_map]
  rw [List.getElem?_range (by omega)]
  simp only [Option.map_some]
  rw [show (((p - 1).toNat : Nat) : Int) + 1 = p by omega]
def PickR (w : World) (ns : List GN) (rs : List GR) (ord : List Int) (u : Value) (w' : World) : Prop := Ext [] w w' ∧ ∃ na' nc' ra' rc' ns' v, ns'.map bare = ord.map (canN ns ord) ∧ u = .tuple #[gV na' nc' ra' rc' ns' (rs.map fun r => ⟨r.s, noV ord r.to⟩), v] ∧ GIs w' na' nc' ra' rc' ns' (rs.map fun r => ⟨r.s, noV ord r.to⟩) ∧ (∀ z, na' = some z → w.heap.size ≤ z.block) ∧ (∀ z, ra' = some z → w.heap.size ≤ z.block) ∧ ∃ gt, w.heap.size ≤ gt ∧ v = .slice (some ⟨gt, 0, none⟩) ns.length ns.length ∧ RowAt w' (some ⟨gt, 0, none⟩) (its (toK ns.length ord))
abbrev rsPck1_0 := (And.intro @xu8_add (And.intro @xu8_sub (And.intro @xu8_neq (And.intro @xu8_lss (And.intro @xu16_add (And.intro @xu16_sub (And.intro @xu16_neq (And.intro @xu16_lss (And.intro @xu32_add (And.intro @xu32_sub (And.intro @xu32_neq (And.intro @xu32_lss (And.intro @xu64_add (And.intro @xu64_sub (And.intro @xu64_neq (And.intro @xu64_lss 
  (And.intro @xi64_lss (And.intro @xi64_neq (And.intro @xi64_neg (And.intro @ld_3 (And.intro @ld_9 (And.intro @ld_26 (And.intro @ld_29 (And.intro @ld_30 (And.intro @ld_32 (And.intro @ld_51 (And.intro @ld_60 (And.intro @ld_61 (And.intro @lr_32 (And.intro @fa_32_0 (And.intro @fa_32_1 (And.intro @fa_60_0 (And.intro @fa_60_1 (And.intro @fa_61_0 (And.intro @fa_61_1 (And.intro @al_32 
  (And.intro @al_60 (And.intro @al_61 (And.intro @st_3 (And.intro @st_26 (And.intro @st_29 (And.intro @st_30 (And.intro @st_32 (And.intro @st_60 (And.intro @st_61 (And.intro @bd_32 (And.intro @bd_60_0_1 (And.intro @bd_60_1 (And.intro @bd_61_0_1 (And.intro @ia_26 (And.intro @ia_29 (And.intro @ia_30 (And.intro @ln_26 (And.intro @ln_29 (And.intro @ln_30 (And.intro @bs_26_0 
  (And.intro @bs_26_1 (And.intro @bs_29_1 (And.intro @bs_30_1 (And.intro @bs_51_0 (And.intro @bs_51_1 (And.intro @bs_51_2 @mk_26))))))))))))))))))))))))))))))))))))))))))))))))))))))))))))))
theorem RPick_spec {w : World} {na ra : Option Addr} {nc rc : Nat} {ns : List GN} {rs : List GR} (h : GIs w na nc ra rc ns rs) (hf : FewH ns rs) (hg : ∀ x ∈ ns, ∀ p ∈ x.p, 0 ≤ p ∧ p ≤ ns.length) (hgr : ∀ r ∈ rs, 0 ≤ r.to ∧ r.to ≤ ns.length) {ord : List Int} {a : Option Addr} {c : Nat} (ho : OutOk ns.length ord) (hr : RowAt w a (its ord)) :
    Yld Try.prog n_loamref17_Pick #[gV na nc ra rc ns rs, .slice a ord.length c] w (PickR w ns rs ord) := by
  have hfn := hf.n
  have hfr := hf.r
  have hol := ho.len
  refine loamref17_Pick_of ?_
  unfold loamref17_Pick
  have gbox : ∀ (y : World) (K : K1), xBox Try.prog 32 (gV na nc ra rc ns rs) y K = K (ptr y.heap.size) (y.alloc (.cells #[.slice na ns.length nc, .slice ra rs.length rc] 32)) := fun y K => xBox_r
  have al : ∀ (y : World) (K : K1), xAlloc Try.prog 32 y K = K (ptr y.heap.size) (y.alloc (.cells #[.slice none 0 0, .slice none 0 0] 32)) := fun y K => xAlloc_r (by kernel_rfl)
  rw [gbox, al]
  have B1 : Blk (w.alloc (.cells #[.slice na ns.length nc, .slice ra rs.length rc] 32)) w.heap.size 32 [.slice na ns.length nc, .slice ra rs.length rc] := Blk.at rfl
  have X1 : Ext [] w (w.alloc (.cells #[.slice na ns.length nc, .slice ra rs.length rc] 32)) := Ext.alloc _ _ _
  generalize w.alloc (.cells #[.slice na ns.length nc, .slice ra rs.length rc] 32) = y1 at *
  obtain ⟨g1, hg1⟩ : ∃ g, g = w.heap.size := ⟨_, rfl⟩
  rw [← hg1] at B1 ⊢
  have g1lt := B1.lt
  have zw1 := X1.size
  have B40 : Blk (y1.alloc (.cells #[.slice none 0 0, .slice none 0 0] 32)) y1.heap.size 32 [.slice none 0 0, .slice none 0 0] := Blk.at rfl
  have X2 : Ext [] y1 (y1.alloc (.cells #[.slice none 0 0, .slice none 0 0] 32)) := Ext.alloc _ _ _
  have B12 := B1.ext X2 (by simp)
  generalize y1.alloc (.cells #[.slice none 0 0, .slice none 0 0] 32) = y2 at *
  obtain ⟨g4, hg4⟩ : ∃ g, g = y1.heap.size := ⟨_, rfl⟩
  rw [← hg4] at B40 ⊢
  have g4lt := B40.lt
  have zw2 := X2.size
  have k1 := fun i => B12.cell (i := i)
  simp (disch := (first | omega | decide | (simp only [rsD] <;> omega) | fail)) only [↓rsC, rsK, rsL, ↓rsPck1_0, tick_eq, tickV_eq, ne_eq, Int.reduceAdd, Int.reduceSub, Int.reduceMul, Int.reduceEq, Int.reduceLT, Int.reduceLE, Int.reduceToNat, Nat.reduceMul, Nat.reduceAdd, Nat.reduceSub, ←decide_not, k1]
  have en : ((ns.length : Int)).toNat = ns.length := by omega
  try rw [en]
  have Bt0 : Blk (y2.alloc (.cells (List.replicate ns.length (i64 0)).toArray 3)) y2.heap.size 3 (its (toK ns.length [])) := by rw [toK_nil]; exact Blk.at rfl
  have X3 : Ext [] y2 (y2.alloc (.cells (List.replicate ns.length (i64 0)).toArray 3)) := Ext.alloc _ _ _
  have B13 := B12.ext X3 (by simp)
  have B43 := B40.ext X3 (by simp)
  generalize y2.alloc (.cells (List.replicate ns.length (i64 0)).toArray 3) = y3 at *
  obtain ⟨gt, hgt⟩ : ∃ g, g = y2.heap.size := ⟨_, rfl⟩
  rw [← hgt] at Bt0 ⊢
  have gtlt := Bt0.lt
  have X03 := X1.trans (X2.trans X3)
  have fresh : ∀ {w' : World}, Ext [gt] y3 w' → Ext [] w w' := fun F => X03.new F (fun z hz => by simp only [List.mem_singleton] at hz; omega)
  have ne1 : g1 ∉ [gt] := by simp only [List.mem_singleton]; omega
  have ne4 : g4 ∉ [gt] := by simp only [List.mem_singleton]; omega
  refine xLoop_n ord.length (fun j => [i64 (j : Int)]) (fun j w' => Ext [gt] y3 w' ∧ Blk w' gt 3 (its (toK ns.length (ord.take j)))) rfl ⟨Ext.refl _ _, Bt0⟩ ?_ ?_
  · rintro j hj u x1 hu ⟨F, Bt⟩ nxt hnx
    simp only [List.map_cons, List.map_nil, List.cons.injEq, and_true] at hu
    rw [hu]
    obtain ⟨bo, oo, rfl, _, co⟩ := its_at (hr.ext0 (fresh F)) hj
    obtain ⟨_, _, e1, hbw, _⟩ := its_at hr hj
    cases e1
    have hbg : bo ≠ gt := by omega
    have hok := ho.ok _ (List.getElem_mem hj)
    have hnot : ord[j] ∉ ord.take j := fun hm => by
      obtain ⟨i, hi, e⟩ := List.getElem_of_mem hm
      rw [List.getElem_take] at e
      rw [List.length_take] at hi
      have := List.pairwise_iff_getElem.1 ho.nd i j (by omega) hj (by omega)
      exact this e
    have hsu : ord.take (j + 1) = ord.take j ++ [ord[j]] := by
      rw [List.take_add_one, List.getElem?_eq_getElem hj]
      rfl
    have hlen : (ord.take j).length = j := by simp; omega
    have ht := toK_set hok hnot
    rw [hlen, ← hsu] at ht
    have ks := Bt.cell (i := (ord[j] - 1).toNat)
    rw [toK_get hok] at ks
    have fs := fun i => Bt.frozen (i := i)
    generalize ord[j] = q at *
    unfold okNo at hok
    have hq1 : (q - 1).toNat < ns.length := by omega
    unfold loamref17_Pick_l1
    simp (disch := (first | omega | decide | (simp only [rsD] <;> omega) | fail)) only [↓rsC, rsK, rsL, ↓rsPck1_0, tick_eq, tickV_eq, ne_eq, Int.reduceAdd, Int.reduceSub, Int.reduceMul, Int.reduceEq, Int.reduceLT, Int.reduceLE, Int.reduceToNat, Nat.reduceMul, Nat.reduceAdd, Nat.reduceSub, ←decide_not, k1, co, ks, fs]
    have B2 := Bt.set (i := (q - 1).toNat) (v := i64 ((j : Int) + 1))
    rw [ht] at B2
    exact hnx _ ⟨F.set' (.inl (by simp)), B2⟩
  rintro u x1 hu ⟨F, Bt⟩ nxt
  simp only [List.map_cons, List.map_nil, List.cons.injEq, and_true] at hu
  rw [hu]
  rw [List.take_length] at Bt
  have B1x := B13.ext F ne1
  have B4x := B43.ext F ne4
  have g1x := B1x.lt
  have g4x := B4x.lt
  have gtx := Bt.lt
  unfold loamref17_Pick_l1
  simp (disch := (first | omega | decide | (simp only [rsD] <;> omega) | fail)) only [↓rsC, rsK, rsL, ↓rsPck1_0, tick_eq, tickV_eq, ne_eq, Int.reduceAdd, Int.reduceSub, Int.reduceMul, Int.reduceEq, Int.reduceLT, Int.reduceLE, Int.reduceToNat, Nat.reduceMul, Nat.reduceAdd, Nat.reduceSub, ←decide_not, k1]
  obtain ⟨hx, hhx⟩ : ∃ g, g = x1.heap.size := ⟨_, rfl⟩
  have Bx0 : Blk (x1.alloc (.cells #[.slice none 0 0, .slice none 0 0] 32)) hx 32 [.slice none 0 0, .slice none 0 0] := Blk.at hhx
  have X8 : Ext [] x1 (x1.alloc (.cells #[.slice none 0 0, .slice none 0 0] 32)) := Ext.alloc _ _ _
  have zs8 : (x1.alloc (.cells #[.slice none 0 0, .slice none 0 0] 32)).heap.size = x1.heap.size + 1 := World.size_alloc _ _
  rw [← hhx] at zs8 ⊢
  have F8 := (fresh F).trans X8
  have B18 := B1x.ext X8 (by simp)
  have B48 := B4x.ext X8 (by simp)
  have Bt8 := Bt.ext X8 (by simp)
  have zw8 := (fresh F).size
  generalize x1.alloc (.cells #[.slice none 0 0, .slice none 0 0] 32) = q at *
  have hlt : hx < q.heap.size := by omega
  have fresh2 : ∀ {w' : World}, Ext [hx] q w' → Ext [] w w' := fun F => F8.new F (fun z hz => by simp only [List.mem_singleton] at hz; omega)
  have nq1 : g1 ∉ [hx] := by simp only [List.mem_singleton]; omega
  have nq4 : g4 ∉ [hx] := by simp only [List.mem_singleton]; omega
  have nqt : gt ∉ [hx] := by simp only [List.mem_singleton]; omega
  have nilb : ∀ z, z ∉ blk (.slice none 0 0) := by simp [blk, Value.ownBlock]
  refine xLoop_n ord.length (fun j => [i64 (j : Int)]) (fun j w' => Ext [hx] q w' ∧ ∃ v ns', ns'.map bare = (ord.take j).map (canN ns ord) ∧ OwnN w' v ns' ∧ Blk w' hx 32 [v, .slice none 0 0] ∧ (∀ z ∈ blk v, q.heap.size ≤ z) ∧ ∀ x ∈ ns', NOk w' x ∧ Apt (hx :: blk v) x) rfl ⟨Ext.refl _ _, .slice none 0 0, [], by simp, Own.nil, Bx0, fun z hz => absurd hz (nilb z), by simp⟩ ?_ ?_
  · rintro j hj u x2 hu ⟨F2, v, ns', hns, O, B, U, A⟩ nxt2 hnx2
    simp only [List.map_cons, List.map_nil, List.cons.injEq, and_true] at hu
    rw [hu]
    have hnl : ns'.length = j := by
      have := congrArg List.length hns
      rw [List.length_map, List.length_map, List.length_take] at this
      omega
    have Fd : Ext [hx] q x2.drew := F2.trans ((Ext.drew [] x2).more (by simp))
    obtain ⟨bo, oo, rfl, zbo, co⟩ := its_at (hr.ext0 (fresh2 Fd)) hj
    have hok := ho.ok _ (List.getElem_mem hj)
    have hq : ord[j].toNat - 1 < ns.length := by omega
    obtain ⟨bn, on, ena, zbn, c1, c2⟩ := gn_at (h.nr.ext0 (fresh2 Fd)) hq
    have zb1 := (B18.ext Fd nq1).lt
    have zd : x2.drew.heap.size = x2.heap.size := World.size_drew _
    rw [zd] at zbo zbn zb1
    have hsu : (ord.take (j + 1)).map (canN ns ord) = (ord.take j).map (canN ns ord) ++ [canN ns ord ord[j]] := by
      rw [List.take_add_one, List.getElem?_eq_getElem hj, Option.toList_some, List.map_append]
      rfl
    have hcan : canN ns ord ord[j] = ⟨(ns[ord[j].toNat - 1].p).map (noV ord), none, 0, ns[ord[j].toNat - 1].d, none, 0⟩ := by
      unfold canN ptrsOf dataOf
      rw [List.getElem?_eq_getElem hq]
    rw [hcan] at hsu
    have hxk := h.ok _ (List.getElem_mem hq)
    have hgx := hg _ (List.getElem_mem hq)
    have lx := hf.x _ (List.getElem_mem hq)
    have tq : (ord[j] - 1).toNat = ord[j].toNat - 1 := by omega
    unfold okNo at hok
    generalize ord[j] = qq at *
    generalize ns[qq.toNat - 1] = x at *
    subst ena
    have kd := fun i => (B18.ext Fd nq1).cell (i := i)
    have hqb : qq ≤ 9000 := by omega
    unfold loamref17_Pick_l2
    simp (disch := (first | omega | decide | (simp only [rsD] <;> omega) | fail)) only [↓rsC, rsK, rsL, ↓rsPck1_0, tick_eq, tickV_eq, ne_eq, Int.reduceAdd, Int.reduceSub, Int.reduceMul, Int.reduceEq, Int.reduceLT, Int.reduceLE, Int.reduceToNat, Nat.reduceMul, Nat.reduceAdd, Nat.reduceSub, ←decide_not, k1, co, kd, tq, c1, c2]
    rw [← zd]
    have Bd := B.ext (Ext.drew [] x2) (by simp)
    have Od := O.ext0 (Ext.drew [] x2)
    have Ad : ∀ y ∈ ns', NOk x2.drew y ∧ Apt (hx :: blk v) y := fun y hy => ⟨(A y hy).1.ext0 (Ext.drew [] x2), (A y hy).2⟩
    rw [← zd] at zbo zbn zb1
    generalize x2.drew = xd at *
    have C3 : Blk (xd.alloc (.cells #[.slice x.pa x.p.length x.pc, .slice x.da x.d.length x.dc] 60)) xd.heap.size 60 [.slice x.pa x.p.length x.pc, .slice x.da x.d.length x.dc] := Blk.at rfl
    have X3d : Ext [] xd (xd.alloc (.cells #[.slice x.pa x.p.length x.pc, .slice x.da x.d.length x.dc] 60)) := Ext.alloc _ _ _
    have zs3 : (xd.alloc (.cells #[.slice x.pa x.p.length x.pc, .slice x.da x.d.length x.dc] 60)).heap.size = xd.heap.size + 1 := World.size_alloc _ _
    generalize xd.alloc (.cells #[.slice x.pa x.p.length x.pc, .slice x.da x.d.length x.dc] 60) = x3 at *
    obtain ⟨hc, hhc⟩ : ∃ g, g = xd.heap.size := ⟨_, rfl⟩
    rw [← zs3]
    rw [← hhc] at C3 ⊢
    have E3 : Blk (x3.alloc (.cells #[] 5)) x3.heap.size 5 [] := Blk.at (cs := []) rfl
    have OE : Own (x3.alloc (.cells #[] 5)) 5 1 (.slice (some ⟨x3.heap.size, 0, none⟩) 0 0) 0 [] := Own.close (rest := []) (by rw [List.append_nil]; exact E3) (Nat.le_refl _) (by decide) (by rfl) (by rfl)
    have X34 : Ext [] x3 (x3.alloc (.cells #[] 5)) := Ext.alloc _ _ _
    have zs4 : (x3.alloc (.cells #[] 5)).heap.size = x3.heap.size + 1 := World.size_alloc _ _
    have UE : ∀ z ∈ blk (.slice (some ⟨x3.heap.size, 0, none⟩) 0 0), x3.heap.size ≤ z := by simp [blk, Value.ownBlock]
    generalize x3.alloc (.cells #[] 5) = x4 at *
    have Xd4 := X3d.trans X34
    have Fd4 := Fd.trans (Xd4.more (by simp))
    refine xApp (e := 5) (s := 1) (n := 0) (m := x.d.length) (xs := []) (news := bys x.d) (bytes := 1) (z := .int .u8 0) (by kernel_rfl) (by kernel_rfl) (by rfl) (by decide) OE (by simp) ((hxk.ext0 (fresh2 Fd4)).dr) hxk.dn hxk.dl bys_ok (by omega) (by omega) fun vd x5 O5 T5 => ?_
    rw [Nat.zero_add, List.nil_append] at O5
    obtain ⟨ad, cd, hvd, hdl, _, hdn, Rd, _⟩ := O5.slice
    have E45 : Ext [] x3 x5 := X34.new T5.ext (fun z hz => UE z hz)
    have Ud : ∀ z ∈ blk vd, x3.heap.size ≤ z := fun z hz => by
      rcases T5.at' z hz with h1 | h1
      · exact UE z h1
      · omega
    have Udl := O5.lt
    have Xd5 := X3d.trans E45
    subst hvd
    simp (disch := (first | omega | decide | (simp only [rsD] <;> omega) | fail)) only [↓rsC, rsK, rsL, ↓rsPck1_0, tick_eq, tickV_eq, ne_eq, Int.reduceAdd, Int.reduceSub, Int.reduceMul, Int.reduceEq, Int.reduceLT, Int.reduceLE, Int.reduceToNat, Nat.reduceMul, Nat.reduceAdd, Nat.reduceSub, ←decide_not, k1, co, kd, tq, c1, c2]
    obtain ⟨hn, hhn⟩ : ∃ g, g = x5.heap.size := ⟨_, rfl⟩
    have N60 : Blk (x5.alloc (.cells #[.slice none 0 0, .slice ad x.d.length cd] 60)) hn 60 [.slice none 0 0, .slice ad x.d.length cd] := Blk.at hhn
    have X56 : Ext [] x5 (x5.alloc (.cells #[.slice none 0 0, .slice ad x.d.length cd] 60)) := Ext.alloc _ _ _
    rw [← hhn]
    have Rd6 := Rd.ext0 X56
    have C6 := (C3.ext E45 (by simp)).ext X56 (by simp)
    have Xd6 := Xd5.trans X56
    have z56 := X56.size
    generalize x5.alloc (.cells #[.slice none 0 0, .slice ad x.d.length cd] 60) = x6 at *
    have hn6 := N60.lt
    have F06 := Fd.trans (Xd6.more (by simp))
    have B6 := Bd.ext Xd6 (by simp)
    have O6 := Od.ext0 Xd6
    have zF := Fd.size
    have hxdlt := Bd.lt
    have vdlt := Od.lt
    have zd5 := Xd5.size
    have z35 := E45.size
    have Fy : ∀ {w' : World}, Ext [hn] x6 w' → Ext [hx] q w' := fun F' => F06.cut F' (fun z hz => by simp only [List.mem_singleton] at hz; subst hz; exact .inr (by omega))
    have hxn : hx ∉ [hn] := by simp only [List.mem_singleton]; omega
    have hcn : hc ∉ [hn] := by simp only [List.mem_singleton]; omega
    have hnv : hn ∉ blk v := fun hm => by have := vdlt _ hm; omega
    have hpl : (x.p.map (noV ord)).length = x.p.length := by simp
    refine xLoop_n x.p.length (fun k => [i64 (k : Int)]) (fun k w' => Ext [hn] x6 w' ∧ ∃ vp, OwnIt w' vp ((x.p.map (noV ord)).take k) ∧ Blk w' hn 60 [vp, .slice ad x.d.length cd] ∧ ∀ z ∈ blk vp, x6.heap.size ≤ z) rfl ⟨Ext.refl _ _, .slice none 0 0, Own.nil, N60, fun z hz => absurd hz (nilb z)⟩ ?_ ?_
    · rintro k hk u x7 hu ⟨F7, vp, Op, Bp, Up⟩ nxt4 hn4
      simp only [List.map_cons, List.map_nil, List.cons.injEq, and_true] at hu
      rw [hu]
      obtain ⟨a1, c1', hv1, _⟩ := Op.slice
      subst hv1
      obtain ⟨bp, op, ep, _, cp⟩ := its_at (hxk.ext0 (fresh2 (Fy F7))).pr hk
      have hsu2 : (x.p.map (noV ord)).take (k + 1) = (x.p.map (noV ord)).take k ++ [noV ord x.p[k]] := by
        rw [List.take_add_one, List.getElem?_eq_getElem (by omega)]
        simp
      have hpg := hgx _ (List.getElem_mem hk)
      generalize x.p[k] = pk at *
      have kb := fun i => Bp.cell (i := i)
      have kc := fun i => (C6.ext F7 hcn).cell (i := i)
      have zbp := Bp.lt
      have Bt7 := Bt8.ext (Fy F7) nqt
      have kt : okNo ns.length pk → x7.cell? ⟨gt, (pk - 1).toNat, none⟩ = some (i64 (noV ord pk)) := fun hp => by rw [Bt7.cell, toK_get hp]
      have join : ∀ t : Int, t = noV ord pk → loamref17_Pick_j1 (PickR w ns rs ord) nxt4 (ptr hn) (i64 (k : Int)) (i64 t) x7 := by
        rintro t rfl
        unfold loamref17_Pick_j1
        simp (disch := (first | omega | decide | (simp only [rsD] <;> omega) | fail)) only [↓rsC, rsK, rsL, ↓rsPck1_0, tick_eq, tickV_eq, ne_eq, Int.reduceAdd, Int.reduceSub, Int.reduceMul, Int.reduceEq, Int.reduceLT, Int.reduceLE, Int.reduceToNat, Nat.reduceMul, Nat.reduceAdd, Nat.reduceSub, ←decide_not, k1, co, kd, tq, c1, c2, kb]
        refine appIt Op rfl (by simp; omega) fun v' x8 O8 T8 => ?_
        obtain ⟨F8', U8, n1, n2⟩ := grow F7 Up hn6 T8
        have B8 := Bp.ext T8.ext n1
        obtain ⟨a3, c3, hv3, _⟩ := O8.slice
        have k8 := fun i => B8.cell (i := i)
        have f8 := fun i => B8.frozen (i := i)
        rw [← hsu2] at O8 hv3
        subst hv3
        simp (disch := (first | omega | decide | (simp only [rsD] <;> omega) | fail)) only [↓rsC, rsK, rsL, ↓rsPck1_0, tick_eq, tickV_eq, ne_eq, Int.reduceAdd, Int.reduceSub, Int.reduceMul, Int.reduceEq, Int.reduceLT, Int.reduceLE, Int.reduceToNat, Nat.reduceMul, Nat.reduceAdd, Nat.reduceSub, ←decide_not, k1, co, kd, tq, c1, c2, kb, k8, f8]
        have B9 := B8.set (i := 0) (v := .slice a3 ((x.p.map (noV ord)).take (k + 1)).length c3)
        have O9 := O8.ext (Ext.set (w := x8) (b := hn) (o := 0) (v := .slice a3 ((x.p.map (noV ord)).take (k + 1)).length c3)) (fun z hz hm => by simp only [List.mem_singleton] at hm; subst hm; exact n2 hz)
        exact hn4 _ ⟨F8'.set' (.inl (by simp)), _, O9, B9, U8⟩
      unfold loamref17_Pick_l3
      rw [ep] at kc
      by_cases p0 : pk = 0
      · subst p0
        have e0 : noV ord 0 = 0 := by
          unfold noV
          rw [if_neg]
          intro hm
          have := (ho.ok _ hm).1
          omega
        simp (disch := (first | omega | decide | (simp only [rsD] <;> omega) | fail)) only [↓rsC, rsK, rsL, ↓rsPck1_0, tick_eq, tickV_eq, ne_eq, Int.reduceAdd, Int.reduceSub, Int.reduceMul, Int.reduceEq, Int.reduceLT, Int.reduceLE, Int.reduceToNat, Nat.reduceMul, Nat.reduceAdd, Nat.reduceSub, ←decide_not, k1, co, kd, tq, c1, c2, kc, cp]
        exact join 0 e0.symm
      · have hp : okNo ns.length pk := ⟨by omega, hpg.2⟩
        have kt := kt hp
        simp (disch := (first | omega | decide | (simp only [rsD] <;> omega) | fail)) only [↓rsC, rsK, rsL, ↓rsPck1_0, tick_eq, tickV_eq, ne_eq, Int.reduceAdd, Int.reduceSub, Int.reduceMul, Int.reduceEq, Int.reduceLT, Int.reduceLE, Int.reduceToNat, Nat.reduceMul, Nat.reduceAdd, Nat.reduceSub, ←decide_not, k1, co, kd, tq, c1, c2, kc, cp, kt]
        exact join _ rfl
    · rintro u x7 hu ⟨F7, vp, Op, Bp, Up⟩ nxt4
      simp only [List.map_cons, List.map_nil, List.cons.injEq, and_true] at hu
      rw [hu]
      have etk : (x.p.map (noV ord)).take x.p.length = x.p.map (noV ord) := by rw [← hpl, List.take_length]
      rw [etk] at Op
      obtain ⟨a1, c1', hv1, hc1', _, hn1, R1, _⟩ := Op.slice
      subst hv1
      obtain ⟨a0, c0', hv0, _⟩ := O.slice
      subst hv0
      have B7 := B6.ext F7 hxn
      have O7 := O6.ext F7 (fun z hz hm => by simp only [List.mem_singleton] at hm; subst hm; exact hnv hz)
      have kb := fun i => Bp.cell (i := i)
      have kc := fun i => (C6.ext F7 hcn).cell (i := i)
      have kx := fun i => B7.cell (i := i)
      unfold loamref17_Pick_l3
      simp (disch := (first | omega | decide | (simp only [rsD] <;> omega) | fail)) only [↓rsC, rsK, rsL, ↓rsPck1_0, tick_eq, tickV_eq, ne_eq, Int.reduceAdd, Int.reduceSub, Int.reduceMul, Int.reduceEq, Int.reduceLT, Int.reduceLE, Int.reduceToNat, Nat.reduceMul, Nat.reduceAdd, Nat.reduceSub, ←decide_not, k1, co, kd, tq, c1, c2, kb, kc, kx]
      have nad : ∀ b o, ad = some ⟨b, o, none⟩ → b ∉ [hn] := fun b o hb hm => by
        have := Udl b (by rw [hb]; simp [blk, Value.ownBlock])
        simp only [List.mem_singleton] at hm
        omega
      obtain ⟨X, hX⟩ : ∃ X : GN, X = ⟨x.p.map (noV ord), a1, c1', x.d, ad, cd⟩ := ⟨_, rfl⟩
      have hXb : bare X = ⟨x.p.map (noV ord), none, 0, x.d, none, 0⟩ := by rw [hX]; rfl
      have hXg : gnC X = [.slice a1 (x.p.map (noV ord)).length c1', .slice ad x.d.length cd] := by rw [hX]
      have NX : NOk x7 X := by
        rw [hX]
        exact ⟨R1, hc1', hn1, Rd6.ext F7 nad, hdl, hdn⟩
      have AX : Apt (hx :: blk (.slice a0 ns'.length c0')) X := by
        rw [hX]
        refine ⟨fun y hy _ hm => ?_, fun y hy _ hm => ?_⟩
        · have := Up y.block (by simp only at hy; rw [hy]; simp [blk, Value.ownBlock])
          rcases List.mem_cons.1 hm with e | e
          · omega
          · have := vdlt _ e; omega
        · have := Ud y.block (by simp only at hy; rw [hy]; simp [blk, Value.ownBlock])
          rcases List.mem_cons.1 hm with e | e
          · omega
          · have := vdlt _ e; omega
      have A7 : ∀ y ∈ ns', NOk x7 y ∧ Apt (hx :: blk (.slice a0 ns'.length c0')) y := fun y hy => ⟨((Ad y hy).1.ext0 Xd6).ext F7 ((Ad y hy).2.more (Ad y hy).1 (fun b hb => .inr (by simp only [List.mem_singleton] at hb; omega))), (Ad y hy).2⟩
      refine appN O7 (x := X) hXg.symm (by omega) fun v' x9 O9 T9 => ?_
      obtain ⟨F9, U9, n1, n2⟩ := grow (Fy F7) U hlt T9
      have A9 := fun {w6 : World} (F6 : Ext [hx] x9 w6) => nodes_app A7 NX AX T9 F6
      have B9 := B7.ext T9.ext n1
      obtain ⟨a3, c3, hv3, _⟩ := O9.slice
      have k9 := fun i => B9.cell (i := i)
      have f9 := fun i => B9.frozen (i := i)
      subst hv3
      simp (disch := (first | omega | decide | (simp only [rsD] <;> omega) | fail)) only [↓rsC, rsK, rsL, ↓rsPck1_0, tick_eq, tickV_eq, ne_eq, Int.reduceAdd, Int.reduceSub, Int.reduceMul, Int.reduceEq, Int.reduceLT, Int.reduceLE, Int.reduceToNat, Nat.reduceMul, Nat.reduceAdd, Nat.reduceSub, ←decide_not, k1, co, kd, tq, c1, c2, kb, kc, kx, k9, f9]
      have B10 := B9.set (i := 0) (v := .slice a3 (ns' ++ [X]).length c3)
      have O10 := O9.ext (Ext.set (w := x9) (b := hx) (o := 0) (v := .slice a3 (ns' ++ [X]).length c3)) (fun z hz hm => by simp only [List.mem_singleton] at hm; subst hm; exact n2 hz)
      exact hnx2 _ ⟨F9.set' (.inl (by simp)), _, ns' ++ [X], by rw [List.map_append, hns, hsu, List.map_singleton, hXb], O10, B10, U9, A9 Ext.set⟩
  rintro u x2 hu ⟨F2, v, ns', hns, O, B2q, U, A⟩ nxt2
  simp only [List.map_cons, List.map_nil, List.cons.injEq, and_true] at hu
  rw [hu]
  rw [List.take_length] at hns
  obtain ⟨rs', hrs⟩ : ∃ rs' : List GR, rs' = rs.map fun r => ⟨r.s, noV ord r.to⟩ := ⟨_, rfl⟩
  have hlr : rs'.length = rs.length := by rw [hrs]; simp
  unfold loamref17_Pick_l2
  simp (disch := (first | omega | decide | (simp only [rsD] <;> omega) | fail)) only [↓rsC, rsK, rsL, ↓rsPck1_0, tick_eq, tickV_eq, ne_eq, Int.reduceAdd, Int.reduceSub, Int.reduceMul, Int.reduceEq, Int.reduceLT, Int.reduceLE, Int.reduceToNat, Nat.reduceMul, Nat.reduceAdd, Nat.reduceSub, ←decide_not, k1]
  refine xLoop_n rs.length (fun j => [i64 (j : Int)]) (fun j w' => Ext [hx] q w' ∧ OwnN w' v ns' ∧ ∃ v2, OwnRt w' v2 (rs'.take j) ∧ Blk w' hx 32 [v, v2] ∧ (∀ z ∈ blk v2, q.heap.size ≤ z) ∧ (∀ z ∈ blk v2, z ∉ blk v) ∧ ∀ x ∈ ns', NOk w' x ∧ Apt (hx :: (blk v ++ blk v2)) x) rfl ⟨F2, O, .slice none 0 0, Own.nil, B2q, fun z hz => absurd hz (nilb z), fun z hz => absurd hz (nilb z), fun x hx' => ⟨(A x hx').1, by have := (A x hx').2; simpa [blk, Value.ownBlock] using this⟩⟩ ?_ ?_
  · rintro j hj u x1 hu ⟨F, O, v2, R, B, U2, D, A⟩ nxt3 hnx
    simp only [List.map_cons, List.map_nil, List.cons.injEq, and_true] at hu
    rw [hu]
    obtain ⟨a0, c0', hv0, _⟩ := R.slice
    subst hv0
    have hlenj : (rs'.take j).length = j := by rw [List.length_take]; omega
    obtain ⟨br, or', era, zbr, c1, c2⟩ := gr_at (h.rr.ext0 (fresh2 F)) hj
    have hsu : rs'.take (j + 1) = rs'.take j ++ [⟨rs[j].s, noV ord rs[j].to⟩] := by
      rw [List.take_add_one, List.getElem?_eq_getElem (by omega)]
      simp [hrs]
    have hrg := hgr _ (List.getElem_mem hj)
    generalize rs[j] = rr at *
    have kq := fun i => (B18.ext F nq1).cell (i := i)
    have zq1 := (B18.ext F nq1).lt
    have kb := fun i => B.cell (i := i)
    have zb := B.lt
    have Btx := Bt8.ext F nqt
    have ztx := Btx.lt
    have kt : okNo ns.length rr.to → x1.cell? ⟨gt, (rr.to - 1).toNat, none⟩ = some (i64 (noV ord rr.to)) := fun hp => by rw [Btx.cell, toK_get hp]
    have e0 : noV ord 0 = 0 := by
      unfold noV
      rw [if_neg]
      intro hm
      have := (ho.ok _ hm).1
      omega
    have E9 : Ext [] x1 (x1.alloc (.cells #[.string (strOf rr.s), i64 rr.to] 61)) := Ext.alloc _ _ _
    have Br : Blk (x1.alloc (.cells #[.string (strOf rr.s), i64 rr.to] 61)) x1.heap.size 61 [.string (strOf rr.s), i64 rr.to] := Blk.at rfl
    have F04 := F.trans (E9.more (by simp))
    have B4 := B.ext E9 (by simp)
    have R4' := R.ext0 E9
    have O4 := O.ext0 E9
    have kr := fun i => Br.cell (i := i)
    have k4 := fun i => B4.cell (i := i)
    have join : ∀ t : Int, t = noV ord rr.to → loamref17_Pick_j2 (PickR w ns rs ord) nxt3 (ptr hx) (i64 (j : Int)) (ptr x1.heap.size) (i64 t) (x1.alloc (.cells #[.string (strOf rr.s), i64 rr.to] 61)) := by
      rintro t rfl
      have hA : ∀ p ∈ ns', NOk (x1.alloc (.cells #[.string (strOf rr.s), i64 rr.to] 61)) p ∧ Apt (hx :: (blk v ++ blk (.slice a0 (rs'.take j).length c0'))) p := fun p hp => ⟨(A p hp).1.ext0 E9, (A p hp).2⟩
      generalize x1.alloc (.cells #[.string (strOf rr.s), i64 rr.to] 61) = x4 at *
      unfold loamref17_Pick_j2
      simp (disch := (first | omega | decide | (simp only [rsD] <;> omega) | fail)) only [↓rsC, rsK, rsL, ↓rsPck1_0, tick_eq, tickV_eq, ne_eq, Int.reduceAdd, Int.reduceSub, Int.reduceMul, Int.reduceEq, Int.reduceLT, Int.reduceLE, Int.reduceToNat, Nat.reduceMul, Nat.reduceAdd, Nat.reduceSub, ←decide_not, k1, k4, kr]
      refine appR R4' (x := ⟨rr.s, noV ord rr.to⟩) rfl (by omega) fun v' x5 R5 T5 => ?_
      obtain ⟨F5, U5, n1, n2⟩ := grow F04 U2 hlt T5
      have B5 := B4.ext T5.ext n1
      have O5 := O4.ext T5.ext (fun z hz hm => D z hm hz)
      obtain ⟨a3, c3, hv3, _⟩ := R5.slice
      have k5 := fun i => B5.cell (i := i)
      have f5 := fun i => B5.frozen (i := i)
      rw [← hsu] at R5 hv3
      subst hv3
      simp (disch := (first | omega | decide | (simp only [rsD] <;> omega) | fail)) only [↓rsC, rsK, rsL, ↓rsPck1_0, tick_eq, tickV_eq, ne_eq, Int.reduceAdd, Int.reduceSub, Int.reduceMul, Int.reduceEq, Int.reduceLT, Int.reduceLE, Int.reduceToNat, Nat.reduceMul, Nat.reduceAdd, Nat.reduceSub, ←decide_not, k1, k4, kr, k5, f5]
      have B6 := B5.set (i := 1) (v := .slice a3 (rs'.take (j + 1)).length c3)
      have hxv : hx ∉ blk v := fun hm => by have := U _ hm; omega
      have D5 : ∀ z ∈ blk (.slice a3 (rs'.take (j + 1)).length c3), z ∉ blk v := fun z hz hm => by
        rcases T5.at' z hz with h1 | h1
        · exact D z h1 hm
        · have := O4.lt z hm
          omega
      have R6 := R5.ext (Ext.set (w := x5) (b := hx) (o := 1) (v := .slice a3 (rs'.take (j + 1)).length c3)) (fun z hz hm => by simp only [List.mem_singleton] at hm; subst hm; exact n2 hz)
      have O6 := O5.ext (Ext.set (w := x5) (b := hx) (o := 1) (v := .slice a3 (rs'.take (j + 1)).length c3)) (fun z hz hm => by simp only [List.mem_singleton] at hm; subst hm; exact hxv hz)
      refine hnx _ ⟨F5.set' (.inl (by simp)), O6, _, R6, B6, U5, D5, fun q' hq => ?_⟩
      have hA := hA q' hq
      have hA2 := hA.1.ext (T5.ext.more (fun z hz => List.mem_cons_of_mem hx (List.mem_append_right _ hz))) hA.2
      have hA3 : Apt (hx :: (blk v ++ blk (.slice a3 (rs'.take (j + 1)).length c3))) q' := hA.2.more hA.1 fun b hb => by
        rcases List.mem_cons.1 hb with e | e
        · exact .inl (by rw [e]; exact List.mem_cons_self ..)
        · rcases List.mem_append.1 e with e | e
          · exact .inl (List.mem_cons_of_mem _ (List.mem_append_left _ e))
          · exact (T5.at' b e).imp (fun h => List.mem_cons_of_mem _ (List.mem_append_right _ h)) id
      exact ⟨hA2.ext (Ext.set.more (by simp)) hA3, hA3⟩
    unfold loamref17_Pick_l4
    rw [era] at kq
    by_cases p0 : rr.to = 0
    · simp (disch := (first | omega | decide | (simp only [rsD] <;> omega) | fail)) only [↓rsC, rsK, rsL, ↓rsPck1_0, tick_eq, tickV_eq, ne_eq, Int.reduceAdd, Int.reduceSub, Int.reduceMul, Int.reduceEq, Int.reduceLT, Int.reduceLE, Int.reduceToNat, Nat.reduceMul, Nat.reduceAdd, Nat.reduceSub, ←decide_not, k1, kq, c1, c2]
      exact join 0 (by rw [p0, e0])
    · have hp : okNo ns.length rr.to := ⟨by omega, hrg.2⟩
      have kt := kt hp
      simp (disch := (first | omega | decide | (simp only [rsD] <;> omega) | fail)) only [↓rsC, rsK, rsL, ↓rsPck1_0, tick_eq, tickV_eq, ne_eq, Int.reduceAdd, Int.reduceSub, Int.reduceMul, Int.reduceEq, Int.reduceLT, Int.reduceLE, Int.reduceToNat, Nat.reduceMul, Nat.reduceAdd, Nat.reduceSub, ←decide_not, k1, kq, c1, c2, kt]
      exact join _ rfl
  rintro u x1 hu ⟨F, O, v2, R, B, U2, D, A⟩ nxt3
  simp only [List.map_cons, List.map_nil, List.cons.injEq, and_true] at hu
  rw [hu]
  have etk : rs'.take rs.length = rs' := List.take_of_length_le (by omega)
  rw [etk] at R
  obtain ⟨na', nc', hvn, hnc, _, hnn, Rn, _⟩ := O.slice
  obtain ⟨ra', rc', hvr, hrc, _, hrn, Rr, _⟩ := R.slice
  subst hvn hvr
  have kq := fun i => (B18.ext F nq1).cell (i := i)
  have k3 := fun i => B.cell (i := i)
  have B4w := B48.ext F nq4
  have k4 := fun i => B4w.cell (i := i)
  have f4 := fun i => B4w.frozen (i := i)
  unfold loamref17_Pick_l4
  simp (disch := (first | omega | decide | (simp only [rsD] <;> omega) | fail)) only [↓rsC, rsK, rsL, ↓rsPck1_0, tick_eq, tickV_eq, ne_eq, Int.reduceAdd, Int.reduceSub, Int.reduceMul, Int.reduceEq, Int.reduceLT, Int.reduceLE, Int.reduceToNat, Nat.reduceMul, Nat.reduceAdd, Nat.reduceSub, ←decide_not, k1, kq, k3, k4, f4]
  have FE : Ext [g4] x1 ((x1.setCell ⟨g4, 0, none⟩ (.slice na' ns'.length nc')).setCell ⟨g4, 1, none⟩ (.slice ra' rs'.length rc')) := ((Ext.refl _ _).set' (.inl (by simp))).set' (.inl (by simp))
  have Fw := fresh2 F
  have zw4 : w.heap.size ≤ g4 := by omega
  have nna : ∀ b o, na' = some ⟨b, o, none⟩ → b ∉ [g4] := fun b o hb hm => by
    have := U b (by rw [hb]; simp [blk, Value.ownBlock])
    simp only [List.mem_cons, List.not_mem_nil, or_false] at hm
    omega
  have nra : ∀ b o, ra' = some ⟨b, o, none⟩ → b ∉ [g4] := fun b o hb hm => by
    have := U2 b (by rw [hb]; simp [blk, Value.ownBlock])
    simp only [List.mem_cons, List.not_mem_nil, or_false] at hm
    omega
  unfold PickR
  rw [← hrs]
  refine ⟨(Fw.set' (.inr zw4)).set' (.inr zw4), na', nc', ra', rc', ns', _, hns, rfl, ⟨Rn.ext FE nna, hnc, hnn, Rr.ext FE nra, hrc, hrn, fun p hp => ?_⟩, fun z hz => by have := U z.block (by rw [hz]; simp [blk, Value.ownBlock]); omega, fun z hz => by have := U2 z.block (by rw [hz]; simp [blk, Value.ownBlock]); omega, gt, by omega, rfl, ?_⟩
  · have hA := A p hp
    have hA2 := hA.2.cons hA.1 B4w (by simp)
    exact hA.1.ext (FE.more (by simp)) hA2
  · exact ((Bt8.ext F nqt).ext FE (by simp only [List.mem_singleton]; omega)).row
end Go.Proofs.Ythhcmoknppljpaa
end
section
set_option linter.unusedVariables false
set_option linter.unusedSimpArgs false
set_option maxHeartbeats 4000000
namespace Go.Proofs.Ythhcmoknppljpaa
open Go.Sh Go.RowKit

def RCanR (w : World) (ns : List GN) (rs : List GR) (u : Value) (w' : World) : Prop := Ext [] w w' ∧ ∃ na' nc' ra' rc' ns', ns'.map bare = canNs ns rs ∧ u = gV na' nc' ra' rc' ns' (canRs ns rs) ∧ GIs w' na' nc' ra' rc' ns' (canRs ns rs)
theorem GIs.away {y w' : World} {na ra : Option Addr} {nc rc g : Nat} {ns : List GN} {rs : List GR} {e : TypeId} {cells : List Value} (G : GIs y na nc ra rc ns rs) (B : Blk y g e cells) (hc : ∀ v ∈ cells, (∀ i, v ≠ i64 i) ∧ ∀ c : BitVec 8, v ≠ u8 c) (hn : ∀ z, na = some z → z.block ≠ g) (hr : ∀ z, ra = some z → z.block ≠ g) (F : Ext [g] y w') : GIs w' na nc ra rc ns rs := by
  refine ⟨G.nr.ext F fun b o hb hm => ?_, G.nl, G.nn, G.rr.ext F fun b o hb hm => ?_, G.rl, G.rn, fun x hx => ?_⟩
  · simp only [List.mem_singleton] at hm
    exact hn _ hb hm
  · simp only [List.mem_singleton] at hm
    exact hr _ hb hm
  · have hk := G.ok x hx
    have h0 : Apt [] x := ⟨fun _ _ _ h => (by cases h), fun _ _ _ h => (by cases h)⟩
    exact hk.ext F (h0.cons hk B hc)
abbrev rsRtr1_0 := (And.intro @ld_32 (And.intro @lr_32 @st_32))
theorem rcan_tail {w y : World} {g2 g3 : Nat} {ns ns' : List GN} {rs : List GR} {na' ra' : Option Addr} {nc' rc' : Nat} (F : Ext [] w y) (B2 : Blk y g2 32 [.slice none 0 0, .slice none 0 0]) (B3 : Blk y g3 32 [.slice na' ns'.length nc', .slice ra' (canRs ns rs).length rc']) (hw : w.heap.size ≤ g2) (hb : ns'.map bare = canNs ns rs) (G : GIs y na' nc' ra' rc' ns' (canRs ns rs)) (hn : ∀ z, na' = some z → z.block ≠ g2) (hr : ∀ z, ra' = some z → z.block ≠ g2) (hne : g2 ≠ g3) :
    loamref17_Canon_j1 (RCanR w ns rs) (ptr g2) (ptr g3) y := by
  have k3 := fun i => B3.cell (i := i)
  have k2 := fun i => B2.cell (i := i)
  have f2 := fun i => B2.frozen (i := i)
  unfold loamref17_Canon_j1
  simp (disch := (first | omega | decide | (simp only [rsD] <;> omega) | fail)) only [↓rsC, rsK, rsL, ↓rsRtr1_0, tick_eq, tickV_eq, ne_eq, Int.reduceAdd, Int.reduceSub, Int.reduceMul, Int.reduceEq, Int.reduceLT, Int.reduceLE, Int.reduceToNat, Nat.reduceMul, Nat.reduceAdd, Nat.reduceSub, ←decide_not, k3, k2, f2]
  exact ⟨(F.set' (.inr hw)).set' (.inr hw), na', nc', ra', rc', ns', hb, rfl, G.away B2 (by simp) hn hr (((Ext.refl _ _).set' (.inl (by simp))).set' (.inl (by simp)))⟩
abbrev rsRtr1_1 := (And.intro @ld_32 (And.intro @al_32 @st_32))
theorem RCanon_spec {w : World} {na ra : Option Addr} {nc rc : Nat} {ns : List GN} {rs : List GR} (h : GIs w na nc ra rc ns rs) (hf : FewH ns rs) (hg : GoodG ns rs) :
    Yld Try.prog n_loamref17_Canon #[gV na nc ra rc ns rs] w (RCanR w ns rs) := by
  have hfn := hf.n
  have hfr := hf.r
  have hgx := fun x hx => (hg.x x hx).1
  have hgr := fun r hr => (hg.s r hr).2
  refine loamref17_Canon_of ?_
  unfold loamref17_Canon
  have gbox : ∀ (y : World) (K : K1), xBox Try.prog 32 (gV na nc ra rc ns rs) y K = K (ptr y.heap.size) (y.alloc (.cells #[.slice na ns.length nc, .slice ra rs.length rc] 32)) := fun y K => xBox_r
  have al : ∀ (y : World) (K : K1), xAlloc Try.prog 32 y K = K (ptr y.heap.size) (y.alloc (.cells #[.slice none 0 0, .slice none 0 0] 32)) := fun y K => xAlloc_r (by kernel_rfl)
  rw [gbox, al]
  have B1 : Blk (w.alloc (.cells #[.slice na ns.length nc, .slice ra rs.length rc] 32)) w.heap.size 32 [.slice na ns.length nc, .slice ra rs.length rc] := Blk.at rfl
  have X1 : Ext [] w (w.alloc (.cells #[.slice na ns.length nc, .slice ra rs.length rc] 32)) := Ext.alloc _ _ _
  generalize w.alloc (.cells #[.slice na ns.length nc, .slice ra rs.length rc] 32) = y1 at *
  obtain ⟨g1, hg1⟩ : ∃ g, g = w.heap.size := ⟨_, rfl⟩
  rw [← hg1] at B1 ⊢
  have g1lt := B1.lt
  have B20 : Blk (y1.alloc (.cells #[.slice none 0 0, .slice none 0 0] 32)) y1.heap.size 32 [.slice none 0 0, .slice none 0 0] := Blk.at rfl
  have X2 : Ext [] y1 (y1.alloc (.cells #[.slice none 0 0, .slice none 0 0] 32)) := Ext.alloc _ _ _
  have B12 := B1.ext X2 (by simp)
  have zw := X1.size
  generalize y1.alloc (.cells #[.slice none 0 0, .slice none 0 0] 32) = y2 at *
  obtain ⟨g2, hg2⟩ : ∃ g, g = y1.heap.size := ⟨_, rfl⟩
  rw [← hg2] at B20 ⊢
  have hw2 : w.heap.size ≤ g2 := by omega
  have Xd := (X1.trans X2).trans (Ext.drew [] y2)
  have B1d := B12.ext (Ext.drew [] y2) (by simp)
  have B2d := B20.ext (Ext.drew [] y2) (by simp)
  generalize y2.drew = y at *
  have hN : ∀ {z : World}, Ext [] y z → Yld Try.prog n_loamref17_Named #[gV na nc ra rc ns rs] z fun u w' => NewIt z w' u (tosL rs) := fun E => RNamed_spec (h.ext0 (Xd.trans E)) hfr
  have hW : ∀ {z : World} {a : Option Addr} {c : Nat}, Ext [] y z → RowAt z a (its (tosL rs)) → Yld Try.prog n_loamref17_Walk #[gV na nc ra rc ns rs, .slice a (tosL rs).length c] z fun u w' => NewIt z w' u (ordV ns (tosL rs)) := fun E hr => RWalk_spec (h.ext0 (Xd.trans E)) hf hgx hr (by simp; omega)
  have hP : ∀ {z : World} {a : Option Addr} {c : Nat}, Ext [] y z → RowAt z a (its (ordV ns (tosL rs))) → Yld Try.prog n_loamref17_Pick #[gV na nc ra rc ns rs, .slice a (ordV ns (tosL rs)).length c] z fun u w' => Ext [] z w' ∧ ∃ na' nc' ra' rc' ns' v, ns'.map bare = canNs ns rs ∧ u = .tuple #[gV na' nc' ra' rc' ns' (canRs ns rs), v] ∧ GIs w' na' nc' ra' rc' ns' (canRs ns rs) ∧ (∀ x, na' = some x → z.heap.size ≤ x.block) ∧ ∀ x, ra' = some x → z.heap.size ≤ x.block := fun E hr => Yld.mono (RPick_spec (h.ext0 (Xd.trans E)) hf hgx hgr (ord_ok ns (tosL rs)) hr) (by
    rintro u w' ⟨h1, na', nc', ra', rc', ns', v, h2, h3, h4, h5, h6, _⟩
    exact ⟨h1, na', nc', ra', rc', ns', v, h2, h3, h4, h5, h6⟩)
  have gn : ∀ {z : World} {u : Value} {l : List Int}, NewIt y z u l → ∃ a c, u = .slice a l.length c ∧ RowAt z a (its l) := fun N => (by
    obtain ⟨a, c, h1, _, _, _, h2, _⟩ := N.2.1.slice
    exact ⟨a, c, h1, h2⟩)
  have g2lt := B2d.lt
  have g12 : g1 < y.heap.size := B1d.lt
  have kd := fun i => B1d.cell (i := i)
  simp (disch := (first | omega | decide | (simp only [rsD] <;> omega) | fail)) only [↓rsC, rsK, rsL, ↓rsRtr1_1, tick_eq, tickV_eq, ne_eq, Int.reduceAdd, Int.reduceSub, Int.reduceMul, Int.reduceEq, Int.reduceLT, Int.reduceLE, Int.reduceToNat, Nat.reduceMul, Nat.reduceAdd, Nat.reduceSub, ←decide_not, kd]
  -- the box of the result stands ahead of the walk over z
  have mk : ∀ {z : World}, Ext [] y z → Ext [] y (z.alloc (.cells #[.slice none 0 0, .slice none 0 0] 32)) ∧ Ext [] z (z.alloc (.cells #[.slice none 0 0, .slice none 0 0] 32)) ∧ y.heap.size ≤ z.heap.size ∧ Blk (z.alloc (.cells #[.slice none 0 0, .slice none 0 0] 32)) z.heap.size 32 [.slice none 0 0, .slice none 0 0] := fun {z} E => ⟨E.trans (Ext.alloc _ _ _), Ext.alloc _ _ _, E.size, Blk.at rfl⟩
  have fin : ∀ {z z' : World} {g3 : Nat} {na' ra' : Option Addr} {nc' rc' : Nat} {ns' : List GN}, Ext [] y z → Ext [] z z' → Blk z g3 32 [.slice none 0 0, .slice none 0 0] → y.heap.size ≤ g3 → ns'.map bare = canNs ns rs → GIs z' na' nc' ra' rc' ns' (canRs ns rs) → (∀ x, na' = some x → z.heap.size ≤ x.block) → (∀ x, ra' = some x → z.heap.size ≤ x.block) → loamref17_Canon_j1 (RCanR w ns rs) (ptr g2) (ptr g3) ((z'.setCell ⟨g3, 0, none⟩ (.slice na' ns'.length nc')).setCell ⟨g3, 1, none⟩ (.slice ra' (canRs ns rs).length rc')) := by
    intro z z' g3 na' ra' nc' rc' ns' E E' B3 h3 hb G hn hr
    have B3' := B3.ext E' (by simp)
    have g3z := B3.lt
    have zy := E.size
    have FE : Ext [g3] z' ((z'.setCell ⟨g3, 0, none⟩ (.slice na' ns'.length nc')).setCell ⟨g3, 1, none⟩ (.slice ra' (canRs ns rs).length rc')) := ((Ext.refl _ _).set' (.inl (by simp))).set' (.inl (by simp))
    have FE2 : Ext [] y ((z'.setCell ⟨g3, 0, none⟩ (.slice na' ns'.length nc')).setCell ⟨g3, 1, none⟩ (.slice ra' (canRs ns rs).length rc')) := ((E.trans E').set' (.inr h3)).set' (.inr h3)
    refine rcan_tail (Xd.trans FE2) (B2d.ext FE2 (by simp)) ((B3'.set (i := 0)).set (i := 1)) hw2 hb (G.away B3' (by simp) (fun x hx => by have := hn x hx; omega) (fun x hx => by have := hr x hx; omega) FE) (fun x hx => by have := hn x hx; omega) (fun x hx => by have := hr x hx; omega) (by omega)
  refine xAlt_i ?_ ?_
  · refine loamref17_Named_call (Yld.mono (hN (Ext.refl _ _)) ?_)
    rintro u y3 N3
    have E3 := N3.1
    obtain ⟨a3, c3, rfl, R3⟩ := gn N3
    have k3 := fun i => (B1d.ext E3 (by simp)).cell (i := i)
    have g1y3 := (B1d.ext E3 (by simp)).lt
    simp (disch := (first | omega | decide | (simp only [rsD] <;> omega) | fail)) only [↓rsC, rsK, rsL, ↓rsRtr1_1, tick_eq, tickV_eq, ne_eq, Int.reduceAdd, Int.reduceSub, Int.reduceMul, Int.reduceEq, Int.reduceLT, Int.reduceLE, Int.reduceToNat, Nat.reduceMul, Nat.reduceAdd, Nat.reduceSub, ←decide_not, kd, k3]
    refine xAlt_i ?_ ?_
    · refine loamref17_Walk_call (Yld.mono (hW E3 R3) ?_)
      rintro u y4 N4
      have E4 := E3.trans N4.1
      obtain ⟨a4, c4, rfl, R4⟩ := gn (NewR.pre E3 N4)
      have k4 := fun i => (B1d.ext E4 (by simp)).cell (i := i)
      have g1y4 := (B1d.ext E4 (by simp)).lt
      simp (disch := (first | omega | decide | (simp only [rsD] <;> omega) | fail)) only [↓rsC, rsK, rsL, ↓rsRtr1_1, tick_eq, tickV_eq, ne_eq, Int.reduceAdd, Int.reduceSub, Int.reduceMul, Int.reduceEq, Int.reduceLT, Int.reduceLE, Int.reduceToNat, Nat.reduceMul, Nat.reduceAdd, Nat.reduceSub, ←decide_not, kd, k3, k4]
      refine xAlt_i ?_ ?_
      · refine loamref17_Pick_call (Yld.mono (hP E4 R4) ?_)
        rintro u y5 ⟨F5, na', nc', ra', rc', ns', v, hb, rfl, G5, hn5, hr5⟩
        have E5 := E4.trans F5
        simp (disch := (first | omega | decide | (simp only [rsD] <;> omega) | fail)) only [↓rsC, rsK, rsL, ↓rsRtr1_1, tick_eq, tickV_eq, ne_eq, Int.reduceAdd, Int.reduceSub, Int.reduceMul, Int.reduceEq, Int.reduceLT, Int.reduceLE, Int.reduceToNat, Nat.reduceMul, Nat.reduceAdd, Nat.reduceSub, ←decide_not, kd, k3, k4]
        have zy := E4.size
        have zy5 := E5.size
        refine rcan_tail (Xd.trans (E5.trans (Ext.alloc _ _ _))) ((B2d.ext E5 (by simp)).ext (Ext.alloc [] _ _) (by simp)) (Blk.at rfl) hw2 hb (G5.ext0 (Ext.alloc _ _ _)) (fun x hx => by have := hn5 x hx; omega) (fun x hx => by have := hr5 x hx; omega) (by omega)
      · obtain ⟨Ez, Ezz, g3y, B3⟩ := mk E4
        generalize y4.alloc (.cells #[.slice none 0 0, .slice none 0 0] 32) = z at *
        refine loamref17_Pick_call (Yld.mono (hP Ez (R4.ext0 Ezz)) ?_)
        rintro u y5 ⟨F5, na', nc', ra', rc', ns', v, hb, rfl, G5, hn5, hr5⟩
        have k6 := fun i => (B3.ext F5 (by simp)).cell (i := i)
        have f6 := fun i => (B3.ext F5 (by simp)).frozen (i := i)
        simp (disch := (first | omega | decide | (simp only [rsD] <;> omega) | fail)) only [↓rsC, rsK, rsL, ↓rsRtr1_1, tick_eq, tickV_eq, ne_eq, Int.reduceAdd, Int.reduceSub, Int.reduceMul, Int.reduceEq, Int.reduceLT, Int.reduceLE, Int.reduceToNat, Nat.reduceMul, Nat.reduceAdd, Nat.reduceSub, ←decide_not, kd, k3, k4, k6, f6]
        exact fin Ez F5 B3 g3y hb G5 hn5 hr5
    · obtain ⟨Ez, Ezz, g3y, B3⟩ := mk E3
      generalize y3.alloc (.cells #[.slice none 0 0, .slice none 0 0] 32) = z at *
      refine loamref17_Walk_call (Yld.mono (hW Ez (R3.ext0 Ezz)) ?_)
      rintro u y4 N4
      have E4 := Ez.trans N4.1
      obtain ⟨a4, c4, rfl, R4⟩ := gn (NewR.pre Ez N4)
      have k4 := fun i => (B1d.ext E4 (by simp)).cell (i := i)
      simp (disch := (first | omega | decide | (simp only [rsD] <;> omega) | fail)) only [↓rsC, rsK, rsL, ↓rsRtr1_1, tick_eq, tickV_eq, ne_eq, Int.reduceAdd, Int.reduceSub, Int.reduceMul, Int.reduceEq, Int.reduceLT, Int.reduceLE, Int.reduceToNat, Nat.reduceMul, Nat.reduceAdd, Nat.reduceSub, ←decide_not, kd, k3, k4]
      refine loamref17_Pick_call (Yld.mono (hP E4 R4) ?_)
      rintro u y5 ⟨F5, na', nc', ra', rc', ns', v, hb, rfl, G5, hn5, hr5⟩
      have B34 := B3.ext N4.1 (by simp)
      have k6 := fun i => (B34.ext F5 (by simp)).cell (i := i)
      have f6 := fun i => (B34.ext F5 (by simp)).frozen (i := i)
      simp (disch := (first | omega | decide | (simp only [rsD] <;> omega) | fail)) only [↓rsC, rsK, rsL, ↓rsRtr1_1, tick_eq, tickV_eq, ne_eq, Int.reduceAdd, Int.reduceSub, Int.reduceMul, Int.reduceEq, Int.reduceLT, Int.reduceLE, Int.reduceToNat, Nat.reduceMul, Nat.reduceAdd, Nat.reduceSub, ←decide_not, kd, k3, k4, k6, f6]
      exact fin E4 F5 B34 g3y hb G5 hn5 hr5
  · obtain ⟨Ez, Ezz, g3y, B3⟩ := mk (Ext.refl [] y)
    generalize y.alloc (.cells #[.slice none 0 0, .slice none 0 0] 32) = z at *
    refine loamref17_Named_call (Yld.mono (hN Ez) ?_)
    rintro u y3 N3
    have E3 := Ez.trans N3.1
    obtain ⟨a3, c3, rfl, R3⟩ := gn (NewR.pre Ez N3)
    have k3 := fun i => (B1d.ext E3 (by simp)).cell (i := i)
    simp (disch := (first | omega | decide | (simp only [rsD] <;> omega) | fail)) only [↓rsC, rsK, rsL, ↓rsRtr1_1, tick_eq, tickV_eq, ne_eq, Int.reduceAdd, Int.reduceSub, Int.reduceMul, Int.reduceEq, Int.reduceLT, Int.reduceLE, Int.reduceToNat, Nat.reduceMul, Nat.reduceAdd, Nat.reduceSub, ←decide_not, kd, k3]
    refine loamref17_Walk_call (Yld.mono (hW E3 R3) ?_)
    rintro u y4 N4
    have E4 := E3.trans N4.1
    obtain ⟨a4, c4, rfl, R4⟩ := gn (NewR.pre E3 N4)
    have k4 := fun i => (B1d.ext E4 (by simp)).cell (i := i)
    simp (disch := (first | omega | decide | (simp only [rsD] <;> omega) | fail)) only [↓rsC, rsK, rsL, ↓rsRtr1_1, tick_eq, tickV_eq, ne_eq, Int.reduceAdd, Int.reduceSub, Int.reduceMul, Int.reduceEq, Int.reduceLT, Int.reduceLE, Int.reduceToNat, Nat.reduceMul, Nat.reduceAdd, Nat.reduceSub, ←decide_not, kd, k3, k4]
    refine loamref17_Pick_call (Yld.mono (hP E4 R4) ?_)
    rintro u y5 ⟨F5, na', nc', ra', rc', ns', v, hb, rfl, G5, hn5, hr5⟩
    have B34 := B3.ext (N3.1.trans N4.1) (by simp)
    have k6 := fun i => (B34.ext F5 (by simp)).cell (i := i)
    have f6 := fun i => (B34.ext F5 (by simp)).frozen (i := i)
    simp (disch := (first | omega | decide | (simp only [rsD] <;> omega) | fail)) only [↓rsC, rsK, rsL, ↓rsRtr1_1, tick_eq, tickV_eq, ne_eq, Int.reduceAdd, Int.reduceSub, Int.reduceMul, Int.reduceEq, Int.reduceLT, Int.reduceLE, Int.reduceToNat, Nat.reduceMul, Nat.reduceAdd, Nat.reduceSub, ←decide_not, kd, k3, k4, k6, f6]
    exact fin E4 F5 B34 g3y hb G5 hn5 hr5
end Go.Proofs.Ythhcmoknppljpaa
end
section
set_option linter.unusedVariables false
set_option linter.unusedSimpArgs false
set_option maxHeartbeats 4000000
namespace Go.Proofs.Ythhcmoknppljpaa
open Go.Sh Go.RowKit

end Go.Proofs.Ythhcmoknppljpaa
end
section
set_option linter.unusedVariables false
set_option linter.unusedSimpArgs false
set_option maxHeartbeats 4000000
namespace Go.Proofs.Ythhcmoknppljpaa
open Go.Sh Go.RowKit

structure IntsA (w : World) (l : List Int) (a : Option Addr) (n c : Nat) : Prop where
  len : n = l.length
  cap : n ≤ c
  nil : a = none → c = 0
  row : RowAt w a (its l)
theorem sints_open {H : Type} {enc : TypeId × Value → H} {W : World} {base : Nat} {v : Value} {d : DataW H} {p : List MemPlace} (hv : Value.okWide Try.prog W .any base 26 v) (h : DataW.Trod enc Try.prog W 0 (fun _ => true) true 26 v d p) :
    ∃ a n c, ∃ zs : List Int, v = .slice a n c ∧ IntsA W zs a n c := by
  obtain ⟨a, n, c, zs, e, h1, h2, _, h3, h4, _⟩ := open_row (P := Try.prog) (e := 3) (k := .i64) (by kernel_rfl) (by kernel_rfl) (by kernel_rfl) hv h
  exact ⟨a, n, c, zs, e, h1, h2, h3, h4⟩
end Go.Proofs.Ythhcmoknppljpaa
end
section
set_option linter.unusedVariables false
set_option linter.unusedSimpArgs false
set_option maxHeartbeats 4000000
namespace Go.Proofs.Ythhcmoknppljpaa
open Go.Sh Go.RowKit

theorem ptrs_at {ns : List GN} {q : Int} (h : okNo ns.length q) : ∃ hj : q.toNat - 1 < ns.length, ptrsOf ns q = ns[q.toNat - 1].p := by
  unfold okNo at h
  have hj : q.toNat - 1 < ns.length := by omega
  refine ⟨hj, ?_⟩
  unfold ptrsOf
  rw [List.getElem?_eq_getElem hj]
theorem rch_map {ns ns' : List GN} {φ : Int → Int} {fr fr' : List Int} (I : Iso ns ns' (Rch ns fr) φ) (hb : ∀ p ∈ fr, okNo ns.length p → φ p ∈ fr') : ∀ p, Rch ns fr p → Rch ns' fr' (φ p) := by
  intro p h
  induction h with
  | base a b => exact .base (hb _ a b) (I.ok _ (.base a b)).2
  | @step i p hi h1 h2 h3 ih =>
    have hfull : Rch ns fr p := .step hi h1 h2 h3
    have hok := (I.ok _ h1).2
    obtain ⟨hj, e⟩ := ptrs_at hok
    have hn := (I.node _ h1).1
    obtain ⟨hj2, e2⟩ := ptrs_at (I.ok _ h1).1
    have ei : ((i : Int) + 1).toNat - 1 = i := by omega
    have e3 : ptrsOf ns ((i : Int) + 1) = ns[i].p := by rw [e2]; simp only [ei]
    refine .step hj ?_ ?_ (I.ok _ hfull).2
    · rw [show (((φ ((i : Int) + 1)).toNat - 1 : Nat) : Int) + 1 = φ ((i : Int) + 1) by omega]
      exact ih
    · rw [← e, hn, e3]
      exact List.mem_map.2 ⟨p, h2, rfl⟩
theorem rch_bare {ns : List GN} {fr : List Int} {p : Int} : Rch (ns.map bare) fr p → Rch ns fr p := by
  intro h
  induction h with
  | base a b => exact .base a (by rwa [List.length_map] at b)
  | step hi h1 h2 h3 ih =>
    rw [List.length_map] at h3 hi
    rw [List.getElem_map] at h2
    exact .step hi ih h2 h3
theorem rk_cons (b : Bool) (bs : List Bool) (i : Nat) : rk (b :: bs) (i + 1) = (if b then 1 else 0) + rk bs i := by
  unfold rk
  rw [List.take_succ_cons, List.countP_cons]
  cases b <;> simp <;> omega
theorem rk_sur : ∀ (bs : List Bool) (j : Nat), j < bs.countP id → ∃ i, ∃ h : i < bs.length, bs[i] = true ∧ rk bs i = j
  | [], j, h => by simp at h
  | b :: bs, j, h => by
    rw [List.countP_cons] at h
    cases b with
    | true =>
      simp only [id, if_true] at h
      by_cases h0 : j = 0
      · exact ⟨0, by simp, rfl, by subst h0; simp [rk]⟩
      · obtain ⟨i, hi, h1, h2⟩ := rk_sur bs (j - 1) (by omega)
        exact ⟨i + 1, by simpa using hi, by simpa using h1, by rw [rk_cons, h2, if_pos rfl]; omega⟩
    | false =>
      simp only [id] at h
      obtain ⟨i, hi, h1, h2⟩ := rk_sur bs j (by simpa using h)
      exact ⟨i + 1, by simpa using hi, by simpa using h1, by rw [rk_cons, h2]; simp⟩
theorem trim_all {ns ns' : List GN} {fr fr' : List Int} {bs bs' : List Bool} (R : RchOk ns fr bs) (hns : ns'.map bare = trNs ns bs) (hb : ∀ p ∈ fr, okNo ns.length p → toB bs p ∈ fr') (R' : RchOk ns' fr' bs') : bs' = List.replicate ns'.length true := by
  have hl : ns'.length = bs.countP id := by
    have := congrArg List.length hns
    rw [List.length_map] at this
    rw [this]
    exact sel_len _ _ _ R.len
  refine List.ext_getElem (by simp [R'.len]) fun i h1 h2 => ?_
  rw [List.getElem_replicate, R'.iff i h1]
  have hl' := R'.len
  obtain ⟨k, hk, e1, e2⟩ := rk_sur bs i (by omega)
  have h3 := (R.iff k hk).1 e1
  have h4 := rch_map (trim_iso R) hb _ h3
  have hk' := R.len
  have ek : ((k : Int) + 1).toNat - 1 = k := by omega
  have h5 : toB bs ((k : Int) + 1) = (i : Int) + 1 := by
    rw [toB_on (by unfold okNo; omega) (by omega) (by simp only [ek]; exact e1), ek, e2]
  rw [h5, ← hns] at h4
  exact rch_bare h4
theorem sel_all {α β : Type} (f : α → β) : ∀ (l : List α), sel f l (List.replicate l.length true) = l.map f
  | [] => rfl
  | x :: l => by
    rw [List.length_cons, List.replicate_succ, sel_cons, sel_all f l]
    simp
theorem toB_all {n : Nat} {p : Int} (h : 0 ≤ p ∧ p ≤ n) : toB (List.replicate n true) p = p := by
  by_cases h0 : p = 0
  · subst h0
    unfold toB
    rw [if_neg (by unfold okNo; omega)]
  · rw [toB_on (by unfold okNo; rw [List.length_replicate]; omega) (by rw [List.length_replicate]; omega) (by simp)]
    have : rk (List.replicate n true) (p.toNat - 1) = p.toNat - 1 := by
      unfold rk
      rw [List.take_replicate, List.countP_replicate]
      simp
      omega
    rw [this]
    omega
theorem trim_id {ns : List GN} {rs : List GR} (hg : GoodG ns rs) : trNs ns (List.replicate ns.length true) = ns.map bare ∧ trRs rs (List.replicate ns.length true) = rs := by
  constructor
  · unfold trNs
    rw [sel_all]
    refine List.map_congr_left fun x hx => ?_
    have h1 := (hg.x x hx).1
    have : x.p.map (toB (List.replicate ns.length true)) = x.p := by
      refine (List.map_congr_left fun p hp => toB_all (h1 p hp)).trans (List.map_id _)
    unfold trN bare
    rw [this]
  · unfold trRs
    refine (List.map_congr_left fun r hr => ?_).trans (List.map_id _)
    rw [toB_all (hg.s r hr).2]
    rfl
def nxtL (n : Nat) (bs : List Bool) (keep : List Int) : List Int := (keep.filter fun p => decide (okNo n p)).map (toB bs)
theorem nxtL_snoc (n : Nat) (bs : List Bool) (l : List Int) (p : Int) : nxtL n bs (l ++ [p]) = nxtL n bs l ++ if okNo n p then [toB bs p] else [] := by
  unfold nxtL
  rw [List.filter_append, List.map_append]
  congr 1
  by_cases h : okNo n p
  · simp [List.filter_cons, h]
  · simp [List.filter_cons, h]
theorem nxtL_len (n : Nat) (bs : List Bool) (l : List Int) : (nxtL n bs l).length ≤ l.length := by
  unfold nxtL
  rw [List.length_map]
  exact List.length_filter_le _ _
theorem nxt_base {ns : List GN} {rs : List GR} {bs : List Bool} {keep : List Int} : ∀ p ∈ tosL rs ++ keep, okNo ns.length p → toB bs p ∈ tosL (trRs rs bs) ++ nxtL ns.length bs keep := by
  intro p hp ho
  rcases List.mem_append.1 hp with h | h
  · obtain ⟨r, hr, rfl⟩ := List.mem_map.1 h
    refine List.mem_append_left _ ?_
    unfold tosL trRs
    rw [List.map_map]
    exact List.mem_map.2 ⟨r, hr, rfl⟩
  · exact List.mem_append_right _ (List.mem_map.2 ⟨p, List.mem_filter.2 ⟨h, by simpa using ho⟩, rfl⟩)
end Go.Proofs.Ythhcmoknppljpaa
end
section
set_option linter.unusedVariables false
set_option linter.unusedSimpArgs false
set_option maxHeartbeats 4000000
namespace Go.Proofs.Ythhcmoknppljpaa
open Go.Sh Go.RowKit

end Go.Proofs.Ythhcmoknppljpaa
end
section
set_option linter.unusedVariables false
set_option linter.unusedSimpArgs false
set_option maxHeartbeats 4000000
namespace Go.Proofs.Ythhcmoknppljpaa
open Go.Sh Go.RowKit

theorem can_few {ns ns' : List GN} {rs : List GR} (hf : FewH ns rs) (h : ns'.map bare = canNs ns rs) : FewH ns' (canRs ns rs) := by
  have hl : ns'.length = (ordV ns (rs.map GR.to)).length := by
    have := congrArg List.length h
    simpa [canNs] using this
  have ho := (ord_ok ns (rs.map GR.to)).len
  refine ⟨by have := hf.n; omega, by simpa [canRs] using hf.r, fun x hx => ?_⟩
  have hm : bare x ∈ canNs ns rs := by rw [← h]; exact List.mem_map.2 ⟨x, hx, rfl⟩
  obtain ⟨q, _, e⟩ := List.mem_map.1 hm
  have e1 : x.p.length = (ptrsOf ns q).length := by
    have := congrArg (fun z => z.p.length) e
    simp only [canN, bare, List.length_map] at this
    exact this.symm
  have e2 : x.d.length = (dataOf ns q).length := by
    have := congrArg (fun z => z.d.length) e
    simp only [canN, bare] at this
    exact this.symm
  rw [e1, e2]
  unfold ptrsOf dataOf
  cases hq : ns[q.toNat - 1]? with
  | none => simp
  | some y => exact hf.x y (List.mem_of_getElem? hq)
end Go.Proofs.Ythhcmoknppljpaa
end
section
set_option linter.unusedVariables false
set_option linter.unusedSimpArgs false
set_option maxHeartbeats 4000000
namespace Go.Proofs.Ythhcmoknppljpaa
open Go.Sh Go.RowKit

abbrev rsTms1_0 := (And.intro @xu8_add (And.intro @xu8_sub (And.intro @xu8_com (And.intro @xu8_eql (And.intro @xu8_neq (And.intro @xu8_lss (And.intro @xu8_leq (And.intro @xu8_gtr (And.intro @xu8_geq (And.intro @xu16_add (And.intro @xu16_sub (And.intro @xu16_com (And.intro @xu16_eql (And.intro @xu16_neq (And.intro @xu16_lss (And.intro @xu16_leq 
  (And.intro @xu16_gtr (And.intro @xu16_geq (And.intro @xu32_add (And.intro @xu32_sub (And.intro @xu32_com (And.intro @xu32_eql (And.intro @xu32_neq (And.intro @xu32_lss (And.intro @xu32_leq (And.intro @xu32_gtr (And.intro @xu32_geq (And.intro @xu64_add (And.intro @xu64_sub (And.intro @xu64_com (And.intro @xu64_eql (And.intro @xu64_neq (And.intro @xu64_lss 
  (And.intro @xu64_leq (And.intro @xu64_gtr (And.intro @xu64_geq (And.intro @xi64_lss (And.intro @xi64_leq (And.intro @xi64_gtr (And.intro @xi64_geq (And.intro @xi64_eql (And.intro @xi64_neq (And.intro @xi64_neg (And.intro @ld_3 (And.intro @ld_22 (And.intro @ld_25 (And.intro @fa_25_0 (And.intro @al_25 (And.intro @st_25 (And.intro @ia_26 (And.intro @ln_22 
  (And.intro @ln_26 (And.intro @bs_26_0 @bs_26_1)))))))))))))))))))))))))))))))))))))))))))))))))))))
theorem GraphTrims_walk (na ra : Option Addr) (nc rc : Nat) (ns : List GN) (rs : List GR) (fr : List Int) (f : Option Addr) (fc : Nat) (w : World) (h : GIs w na nc ra rc ns rs) (hfc : fr.length ≤ fc) (hfn0 : f = none → fc = 0) (hfr0 : RowAt w f (its fr)) : Gives Try.prog n_loamlaw17_GraphTrims #[gV na nc ra rc ns rs, .slice f fr.length fc] w (.bool true) := by
  refine loamlaw17_GraphTrims_of ?_
  unfold loamlaw17_GraphTrims
  have gbox : ∀ (y : World) (K : K1), xBox Try.prog 25 (gV na nc ra rc ns rs) y K = K (ptr y.heap.size) (y.alloc (.cells #[.slice na ns.length nc, .slice ra rs.length rc] 25)) := fun y K => xBox_r
  rw [gbox]
  have B1 : Blk (w.alloc (.cells #[.slice na ns.length nc, .slice ra rs.length rc] 25)) w.heap.size 25 [.slice na ns.length nc, .slice ra rs.length rc] := Blk.at rfl
  have X1 : Ext [] w (w.alloc (.cells #[.slice na ns.length nc, .slice ra rs.length rc] 25)) := Ext.alloc _ _ _
  have G := h.ext0 X1
  have hfr1 := hfr0.ext0 X1
  generalize w.alloc (.cells #[.slice na ns.length nc, .slice ra rs.length rc] 25) = y1 at *
  have hw1 := X1.size
  generalize w.heap.size = g1 at *
  refine loamlaw17_known_call (Gives.to (known17_spec y1) fun y3 F3 => ?_)
  have k3 := fun i => (B1.ext F3 (by simp)).cell (i := i)
  simp (disch := (first | omega | decide | (simp only [rsD] <;> omega) | fail)) only [↓rsC, rsK, rsL, ↓rsTms1_0, tick_eq, tickV_eq, ne_eq, Int.reduceAdd, Int.reduceSub, Int.reduceMul, Int.reduceEq, Int.reduceLT, Int.reduceLE, Int.reduceToNat, Nat.reduceMul, Nat.reduceAdd, Nat.reduceSub, ←decide_not, k3]
  refine loamlaw17_Few_call (Yld.mono (Few_spec (G.ext0 F3)) ?_)
  rintro u y4 ⟨⟨b, rfl, hb⟩, F4⟩
  have F14 := F3.trans F4
  cases b with
  | false =>
    simp (disch := (first | omega | decide | (simp only [rsD] <;> omega) | fail)) only [↓rsC, rsK, rsL, ↓rsTms1_0, tick_eq, tickV_eq, ne_eq, Int.reduceAdd, Int.reduceSub, Int.reduceMul, Int.reduceEq, Int.reduceLT, Int.reduceLE, Int.reduceToNat, Nat.reduceMul, Nat.reduceAdd, Nat.reduceSub, ←decide_not, k3]
    exact ⟨by trivial, X1.trans F14⟩
  | true =>
  have hf := hb rfl
  have hfn := hf.n
  have hfr := hf.r
  by_cases hl : (fr.length : Int) > 40
  · simp (disch := (first | omega | decide | (simp only [rsD] <;> omega) | fail)) only [↓rsC, rsK, rsL, ↓rsTms1_0, tick_eq, tickV_eq, ne_eq, Int.reduceAdd, Int.reduceSub, Int.reduceMul, Int.reduceEq, Int.reduceLT, Int.reduceLE, Int.reduceToNat, Nat.reduceMul, Nat.reduceAdd, Nat.reduceSub, ←decide_not, k3]
    exact ⟨by trivial, X1.trans F14⟩
  have k4 := fun i => (B1.ext F14 (by simp)).cell (i := i)
  simp (disch := (first | omega | decide | (simp only [rsD] <;> omega) | fail)) only [↓rsC, rsK, rsL, ↓rsTms1_0, tick_eq, tickV_eq, ne_eq, Int.reduceAdd, Int.reduceSub, Int.reduceMul, Int.reduceEq, Int.reduceLT, Int.reduceLE, Int.reduceToNat, Nat.reduceMul, Nat.reduceAdd, Nat.reduceSub, ←decide_not, k3, k4]
  refine graph_Check_call (Gives.to (gcheck_spec (G.ext0 F14) hf.h) fun y8 F8 => ?_)
  have F18 := F14.trans F8
  by_cases hc : chkV ns rs = 0
  case neg =>
    simp (disch := (first | omega | decide | (simp only [rsD] <;> omega) | fail)) only [↓rsC, rsK, rsL, ↓rsTms1_0, tick_eq, tickV_eq, ne_eq, Int.reduceAdd, Int.reduceSub, Int.reduceMul, Int.reduceEq, Int.reduceLT, Int.reduceLE, Int.reduceToNat, Nat.reduceMul, Nat.reduceAdd, Nat.reduceSub, ←decide_not, k3, k4, hc]
    exact ⟨by trivial, X1.trans F18⟩
  have hg := chk_zero.1 hc
  have k8 := fun i => (B1.ext F18 (by simp)).cell (i := i)
  simp (disch := (first | omega | decide | (simp only [rsD] <;> omega) | fail)) only [↓rsC, rsK, rsL, ↓rsTms1_0, tick_eq, tickV_eq, ne_eq, Int.reduceAdd, Int.reduceSub, Int.reduceMul, Int.reduceEq, Int.reduceLT, Int.reduceLE, Int.reduceToNat, Nat.reduceMul, Nat.reduceAdd, Nat.reduceSub, ←decide_not, k3, k4, hc, k8]
  refine graph_Trim_call (Yld.mono (Trim_spec (keep := fr) (G.ext0 F18) hf.h (hfr1.ext0 F18) hfc hfn0 (by omega)) ?_)
  rintro u y9 ⟨F9, bs, na', nc', ra', rc', ns', v7, hbs, hns, rfl, G9, av, cv, rfl, hcv, Rv⟩
  have hbl := hbs.len
  have hf' := trim_few hbs hf.h hns
  have hg' : GoodG ns' (trRs rs bs) := by rw [← bare_good, hns]; exact trim_good hbs.len hg
  have hgW : gW ns' ≤ gW ns := by
    rw [← bare_gW ns', hns]
    exact trim_gW ns bs bs hbs.len
  have hnlen : ns'.length ≤ ns.length := by
    have := congrArg List.length hns
    rw [List.length_map] at this
    rw [this, show (trNs ns bs).length = bs.countP id from sel_len _ _ _ hbs.len, ← hbl]
    exact List.countP_le_length
  have hcan : canNs ns' (trRs rs bs) = canNs ns rs ∧ canRs ns' (trRs rs bs) = canRs ns rs := by
    rw [← (can_bare ns' _).1, ← (can_bare ns' _).2, hns]
    exact trim_can hbs fun r hr => List.mem_append_left _ (List.mem_map.2 ⟨r, hr, rfl⟩)
  have hall := fun {bs'} => trim_all (bs' := bs') hbs hns (nxt_base (rs := rs) (keep := fr))
  have hid := trim_id hg'
  generalize trRs rs bs = rs' at *
  have F19 := F18.trans F9
  have zb1 := (B1.ext F19 (by simp)).lt
  simp (disch := (first | omega | decide | (simp only [rsD] <;> omega) | fail)) only [↓rsC, rsK, rsL, ↓rsTms1_0, tick_eq, tickV_eq, ne_eq, Int.reduceAdd, Int.reduceSub, Int.reduceMul, Int.reduceEq, Int.reduceLT, Int.reduceLE, Int.reduceToNat, Nat.reduceMul, Nat.reduceAdd, Nat.reduceSub, ←decide_not, k3, k4, hc, k8]
  have B10 : Blk (y9.alloc (.cells #[.slice na' ns'.length nc', .slice ra' rs'.length rc'] 25)) y9.heap.size 25 [.slice na' ns'.length nc', .slice ra' rs'.length rc'] := Blk.at rfl
  have X10 : Ext [] y9 (y9.alloc (.cells #[.slice na' ns'.length nc', .slice ra' rs'.length rc'] 25)) := Ext.alloc _ _ _
  have G10 := G9.ext0 X10
  have Rv10 := Rv.ext0 X10
  have F110 := F19.trans X10
  generalize y9.alloc (.cells #[.slice na' ns'.length nc', .slice ra' rs'.length rc'] 25) = y10 at *
  generalize y9.heap.size = g10 at *
  have hnol : (noL bs).length = ns.length := by simp [noL]; omega
  refine xLoop_r fr.length (fun j vs w' => ∃ v, vs = [v, i64 (j : Int)] ∧ NewIt y10 w' v (nxtL ns.length bs (fr.take j))) ⟨_, rfl, NewR.nil (Ext.refl _ _)⟩ ?_ ?_
  · rintro j hj u x1 ⟨v, hu, N⟩ nxt hnx
    simp only [List.map_cons, List.map_nil, List.cons.injEq, and_true] at hu
    rw [hu.1, hu.2]
    obtain ⟨b, o, rfl, _, c1⟩ := its_at (hfr1.ext0 (F110.trans N.1)) hj
    have hsu : fr.take (j + 1) = fr.take j ++ [fr[j]] := by
      rw [List.take_add_one, List.getElem?_eq_getElem hj]
      rfl
    have hnx1 := nxtL_snoc ns.length bs (fr.take j) fr[j]
    rw [← hsu] at hnx1
    have hll := nxtL_len ns.length bs (fr.take j)
    rw [List.length_take] at hll
    generalize fr[j] = p at *
    have stay : ¬ okNo ns.length p → nxt [v, i64 ((j + 1 : Nat) : Int)] x1 := fun hno => hnx _ _ ⟨v, rfl, by rw [hnx1, if_neg hno, List.append_nil]; exact N⟩
    unfold loamlaw17_GraphTrims_l1
    by_cases p1 : p ≥ 1
    · by_cases p2 : p ≤ (ns.length : Int)
      · have hp : okNo ns.length p := ⟨p1, p2⟩
        obtain ⟨b2, o2, rfl, _, c2⟩ := its_at (Rv10.ext0 N.1) (k := p.toNat - 1) (by omega)
        have e2 : (noL bs)[p.toNat - 1]'(by omega) = toB bs p := by
          unfold toB
          rw [if_pos (by rw [hbl]; exact hp)]
          simp [noL]
        rw [e2] at c2
        have tq : (p - 1).toNat = p.toNat - 1 := by omega
        rw [if_pos hp] at hnx1
        simp (disch := (first | omega | decide | (simp only [rsD] <;> omega) | fail)) only [↓rsC, rsK, rsL, ↓rsTms1_0, tick_eq, tickV_eq, ne_eq, Int.reduceAdd, Int.reduceSub, Int.reduceMul, Int.reduceEq, Int.reduceLT, Int.reduceLE, Int.reduceToNat, Nat.reduceMul, Nat.reduceAdd, Nat.reduceSub, ←decide_not, k3, k4, hc, k8, c1, c2, tq]
        refine appIt N.2.1 (o := toB bs p) rfl (by omega) fun v' x5 O5 T5 => ?_
        have N5 := N.app O5 T5
        rw [← hnx1] at N5
        unfold loamlaw17_GraphTrims_j1
        simp (disch := (first | omega | decide | (simp only [rsD] <;> omega) | fail)) only [↓rsC, rsK, rsL, ↓rsTms1_0, tick_eq, tickV_eq, ne_eq, Int.reduceAdd, Int.reduceSub, Int.reduceMul, Int.reduceEq, Int.reduceLT, Int.reduceLE, Int.reduceToNat, Nat.reduceMul, Nat.reduceAdd, Nat.reduceSub, ←decide_not, k3, k4, hc, k8, c1, c2, tq]
        exact hnx _ _ ⟨v', by simp, N5⟩
      · simp (disch := (first | omega | decide | (simp only [rsD] <;> omega) | fail)) only [↓rsC, rsK, rsL, ↓rsTms1_0, tick_eq, tickV_eq, ne_eq, Int.reduceAdd, Int.reduceSub, Int.reduceMul, Int.reduceEq, Int.reduceLT, Int.reduceLE, Int.reduceToNat, Nat.reduceMul, Nat.reduceAdd, Nat.reduceSub, ←decide_not, k3, k4, hc, k8, c1]
        unfold loamlaw17_GraphTrims_j1
        simp (disch := (first | omega | decide | (simp only [rsD] <;> omega) | fail)) only [↓rsC, rsK, rsL, ↓rsTms1_0, tick_eq, tickV_eq, ne_eq, Int.reduceAdd, Int.reduceSub, Int.reduceMul, Int.reduceEq, Int.reduceLT, Int.reduceLE, Int.reduceToNat, Nat.reduceMul, Nat.reduceAdd, Nat.reduceSub, ←decide_not, k3, k4, hc, k8, c1]
        exact stay fun h => p2 h.2
    · simp (disch := (first | omega | decide | (simp only [rsD] <;> omega) | fail)) only [↓rsC, rsK, rsL, ↓rsTms1_0, tick_eq, tickV_eq, ne_eq, Int.reduceAdd, Int.reduceSub, Int.reduceMul, Int.reduceEq, Int.reduceLT, Int.reduceLE, Int.reduceToNat, Nat.reduceMul, Nat.reduceAdd, Nat.reduceSub, ←decide_not, k3, k4, hc, k8, c1]
      unfold loamlaw17_GraphTrims_j1
      simp (disch := (first | omega | decide | (simp only [rsD] <;> omega) | fail)) only [↓rsC, rsK, rsL, ↓rsTms1_0, tick_eq, tickV_eq, ne_eq, Int.reduceAdd, Int.reduceSub, Int.reduceMul, Int.reduceEq, Int.reduceLT, Int.reduceLE, Int.reduceToNat, Nat.reduceMul, Nat.reduceAdd, Nat.reduceSub, ←decide_not, k3, k4, hc, k8, c1]
      exact stay fun h => p1 h.1
  rintro u y11 ⟨v, hu, N⟩ nxt
  simp only [List.map_cons, List.map_nil, List.cons.injEq, and_true] at hu
  rw [hu.1, hu.2]
  rw [List.take_length] at N
  obtain ⟨an, cn, hvn, hcn, _, hnn, Rn, _⟩ := N.2.1.slice
  subst hvn
  have hnl := nxtL_len ns.length bs fr
  have F111 := F110.trans N.1
  have k11 := fun i => (B10.ext N.1 (by simp)).cell (i := i)
  unfold loamlaw17_GraphTrims_l1
  simp (disch := (first | omega | decide | (simp only [rsD] <;> omega) | fail)) only [↓rsC, rsK, rsL, ↓rsTms1_0, tick_eq, tickV_eq, ne_eq, Int.reduceAdd, Int.reduceSub, Int.reduceMul, Int.reduceEq, Int.reduceLT, Int.reduceLE, Int.reduceToNat, Nat.reduceMul, Nat.reduceAdd, Nat.reduceSub, ←decide_not, k3, k4, hc, k8, k11]
  refine graph_Trim_call (Yld.mono (Trim_spec (keep := nxtL ns.length bs fr) (G10.ext0 N.1) hf' Rn hcn hnn (by omega)) ?_)
  rintro u y12 ⟨F12, bs2, na2, nc2, ra2, rc2, ns2, v2, hbs2, hns2, rfl, G12, _⟩
  obtain rfl := hall hbs2
  rw [hid.1] at hns2
  rw [hid.2] at G12 ⊢
  have F112 := F111.trans F12
  have F1012 := N.1.trans F12
  have hf2 := few_bare hns2 hf'
  have zb12 := (B10.ext F1012 (by simp)).lt
  have zb121 := (B1.ext F112 (by simp)).lt
  have k12 := fun i => (B10.ext F1012 (by simp)).cell (i := i)
  simp (disch := (first | omega | decide | (simp only [rsD] <;> omega) | fail)) only [↓rsC, rsK, rsL, ↓rsTms1_0, tick_eq, tickV_eq, ne_eq, Int.reduceAdd, Int.reduceSub, Int.reduceMul, Int.reduceEq, Int.reduceLT, Int.reduceLE, Int.reduceToNat, Nat.reduceMul, Nat.reduceAdd, Nat.reduceSub, ←decide_not, k3, k4, hc, k8, k11, k12]
  have B13 : Blk (y12.alloc (.cells #[.slice na2 ns2.length nc2, .slice ra2 rs'.length rc2] 25)) y12.heap.size 25 [.slice na2 ns2.length nc2, .slice ra2 rs'.length rc2] := Blk.at rfl
  have X13 : Ext [] y12 (y12.alloc (.cells #[.slice na2 ns2.length nc2, .slice ra2 rs'.length rc2] 25)) := Ext.alloc _ _ _
  have B14 := B13.ext (Ext.drew [] _) (by simp)
  have X14 := X13.trans (Ext.drew [] _)
  generalize (y12.alloc (.cells #[.slice na2 ns2.length nc2, .slice ra2 rs'.length rc2] 25)).drew = y14 at *
  generalize y12.heap.size = g13 at *
  have F1014 := F1012.trans X14
  have F114 := F112.trans X14
  have hC : Gives Try.prog n_graph_Check #[gV na' nc' ra' rc' ns' rs'] y14 (i64 0) := by
    have := gcheck_spec (G10.ext0 F1014) hf'
    rw [chk_zero.2 hg'] at this
    exact this
  refine graph_Check_call (Gives.to hC fun y15 F15 => ?_)
  have F1015 := F1014.trans F15
  have k15a := fun i => (B14.ext F15 (by simp)).cell (i := i)
  have k15b := fun i => (B10.ext F1015 (by simp)).cell (i := i)
  simp (disch := (first | omega | decide | (simp only [rsD] <;> omega) | fail)) only [↓rsC, rsK, rsL, ↓rsTms1_0, tick_eq, tickV_eq, ne_eq, Int.reduceAdd, Int.reduceSub, Int.reduceMul, Int.reduceEq, Int.reduceLT, Int.reduceLE, Int.reduceToNat, Nat.reduceMul, Nat.reduceAdd, Nat.reduceSub, ←decide_not, k3, k4, hc, k8, k11, k12, k15a, k15b]
  refine graph_Equal_call (Yld.mono (GEqual_spec (G12.ext0 (X14.trans F15)) (G10.ext0 F1015) hf2 hf') ?_)
  rintro u y16 hu
  obtain ⟨rfl, F16⟩ := boolTrue hu ⟨hns2, rfl⟩
  have F1016 := F1015.trans F16
  have F116 := F114.trans (F15.trans F16)
  have k16a := fun i => (B1.ext F116 (by simp)).cell (i := i)
  have k16b := fun i => (B10.ext F1016 (by simp)).cell (i := i)
  have hnl2 : (ns'.length : Int) ≤ (ns.length : Int) := by omega
  simp (disch := (first | omega | decide | (simp only [rsD] <;> omega) | fail)) only [↓rsC, rsK, rsL, ↓rsTms1_0, tick_eq, tickV_eq, ne_eq, Int.reduceAdd, Int.reduceSub, Int.reduceMul, Int.reduceEq, Int.reduceLT, Int.reduceLE, Int.reduceToNat, Nat.reduceMul, Nat.reduceAdd, Nat.reduceSub, ←decide_not, k3, k4, hc, k8, k11, k12, k15a, k15b, k16a, k16b]
  refine graph_Words_call (Gives.to (gwords_spec (G10.ext0 F1016) hf' hg') fun y17 F17 => ?_)
  have F117 := F116.trans F17
  have k17 := fun i => (B1.ext F117 (by simp)).cell (i := i)
  simp (disch := (first | omega | decide | (simp only [rsD] <;> omega) | fail)) only [↓rsC, rsK, rsL, ↓rsTms1_0, tick_eq, tickV_eq, ne_eq, Int.reduceAdd, Int.reduceSub, Int.reduceMul, Int.reduceEq, Int.reduceLT, Int.reduceLE, Int.reduceToNat, Nat.reduceMul, Nat.reduceAdd, Nat.reduceSub, ←decide_not, k3, k4, hc, k8, k11, k12, k15a, k15b, k16a, k16b, k17]
  refine graph_Words_call (Gives.to (gwords_spec (G.ext0 F117) hf.h hg) fun y18 F18' => ?_)
  have F1018 := F1016.trans (F17.trans F18')
  have F118 := F117.trans F18'
  have k18a := fun i => (B1.ext F118 (by simp)).cell (i := i)
  have k18b := fun i => (B10.ext F1018 (by simp)).cell (i := i)
  have hgW2 : (gW ns' : Int) ≤ (gW ns : Int) := by omega
  simp (disch := (first | omega | decide | (simp only [rsD] <;> omega) | fail)) only [↓rsC, rsK, rsL, ↓rsTms1_0, tick_eq, tickV_eq, ne_eq, Int.reduceAdd, Int.reduceSub, Int.reduceMul, Int.reduceEq, Int.reduceLT, Int.reduceLE, Int.reduceToNat, Nat.reduceMul, Nat.reduceAdd, Nat.reduceSub, ←decide_not, k3, k4, hc, k8, k11, k12, k15a, k15b, k16a, k16b, k17, k18a, k18b]
  have hfn' := hf'.n
  have hfr' := hf'.r
  refine loamlaw17_Of_call (Yld.mono (Of_spec17 (G10.ext0 F1018) (by omega) (by omega)) ?_)
  rintro u y19 ⟨F19', na3, nc3, ra3, rc3, rfl, G19⟩
  have F119 := F118.trans F19'
  have k19 := fun i => (B1.ext F119 (by simp)).cell (i := i)
  simp (disch := (first | omega | decide | (simp only [rsD] <;> omega) | fail)) only [↓rsC, rsK, rsL, ↓rsTms1_0, tick_eq, tickV_eq, ne_eq, Int.reduceAdd, Int.reduceSub, Int.reduceMul, Int.reduceEq, Int.reduceLT, Int.reduceLE, Int.reduceToNat, Nat.reduceMul, Nat.reduceAdd, Nat.reduceSub, ←decide_not, k3, k4, hc, k8, k11, k12, k15a, k15b, k16a, k16b, k17, k18a, k18b, k19]
  refine loamref17_Canon_call (Yld.mono (RCanon_spec G19 hf' hg') ?_)
  rintro u y20 ⟨F20, na4, nc4, ra4, rc4, ns4, hns4, rfl, G20⟩
  have F120 := F119.trans F20
  have k20 := fun i => (B1.ext F120 (by simp)).cell (i := i)
  simp (disch := (first | omega | decide | (simp only [rsD] <;> omega) | fail)) only [↓rsC, rsK, rsL, ↓rsTms1_0, tick_eq, tickV_eq, ne_eq, Int.reduceAdd, Int.reduceSub, Int.reduceMul, Int.reduceEq, Int.reduceLT, Int.reduceLE, Int.reduceToNat, Nat.reduceMul, Nat.reduceAdd, Nat.reduceSub, ←decide_not, k3, k4, hc, k8, k11, k12, k15a, k15b, k16a, k16b, k17, k18a, k18b, k19, k20]
  refine loamlaw17_Of_call (Yld.mono (Of_spec17 (G.ext0 F120) (by omega) (by omega)) ?_)
  rintro u y21 ⟨F21, na5, nc5, ra5, rc5, rfl, G21⟩
  simp (disch := (first | omega | decide | (simp only [rsD] <;> omega) | fail)) only [↓rsC, rsK, rsL, ↓rsTms1_0, tick_eq, tickV_eq, ne_eq, Int.reduceAdd, Int.reduceSub, Int.reduceMul, Int.reduceEq, Int.reduceLT, Int.reduceLE, Int.reduceToNat, Nat.reduceMul, Nat.reduceAdd, Nat.reduceSub, ←decide_not, k3, k4, hc, k8, k11, k12, k15a, k15b, k16a, k16b, k17, k18a, k18b, k19, k20]
  refine loamref17_Canon_call (Yld.mono (RCanon_spec G21 hf.h hg) ?_)
  rintro u y22 ⟨F22, na6, nc6, ra6, rc6, ns6, hns6, rfl, G22⟩
  simp (disch := (first | omega | decide | (simp only [rsD] <;> omega) | fail)) only [↓rsC, rsK, rsL, ↓rsTms1_0, tick_eq, tickV_eq, ne_eq, Int.reduceAdd, Int.reduceSub, Int.reduceMul, Int.reduceEq, Int.reduceLT, Int.reduceLE, Int.reduceToNat, Nat.reduceMul, Nat.reduceAdd, Nat.reduceSub, ←decide_not, k3, k4, hc, k8, k11, k12, k15a, k15b, k16a, k16b, k17, k18a, k18b, k19, k20]
  refine loamref17_Equal_call (Yld.mono (REqual_spec (G20.ext0 (F21.trans F22)) G22 (can_few hf' hns4) (can_few hf.h hns6)) ?_)
  rintro u y23 hu
  obtain ⟨rfl, F23⟩ := boolTrue hu ⟨by rw [SameN, hns4, hns6, hcan.1], hcan.2⟩
  simp (disch := (first | omega | decide | (simp only [rsD] <;> omega) | fail)) only [↓rsC, rsK, rsL, ↓rsTms1_0, tick_eq, tickV_eq, ne_eq, Int.reduceAdd, Int.reduceSub, Int.reduceMul, Int.reduceEq, Int.reduceLT, Int.reduceLE, Int.reduceToNat, Nat.reduceMul, Nat.reduceAdd, Nat.reduceSub, ←decide_not, k3, k4, hc, k8, k11, k12, k15a, k15b, k16a, k16b, k17, k18a, k18b, k19, k20]
  exact ⟨by trivial, X1.trans (F120.trans (F21.trans (F22.trans F23)))⟩
theorem GraphTrims_spec (a : GP) (fr : List Int) (f : Option Addr) (n c : Nat) (w : World) (h : GIs w a.na a.nc a.ra a.rc a.ns a.rs) (hi : IntsA w fr f n c) : Gives Try.prog n_loamlaw17_GraphTrims #[gPV a, .slice f n c] w (.bool true) := by
  obtain ⟨na, nc, ra, rc, ns, rs⟩ := a
  obtain ⟨rfl, h1, h2, h3⟩ := hi
  exact GraphTrims_walk na ra nc rc ns rs fr f c w h h1 h2 h3
end Go.Proofs.Ythhcmoknppljpaa
end
