/- An image decoded (sq). Two graphs are equal, by the program (sq). Two graphs are equal, by the program and by the document (sq). Two graphs are equal, by the document (sq). What the statements on images begin with (sq). What is wrong in an image, by the document (sq). What is wrong in an image, by the document: all of it (sq). The statement CheckImages walked (sq). Words decoded by the document (sq). Words decoded by the document: all of it (sq). The statements ImageUnlike and ImageBack walked (sq). The statement ImageWords walked (sq). -/
import Derived.Test.YtdpmidgeipibbaaPk2
import Derived.Test.YtdpmidgeipibbaaPk1
section
set_option linter.unusedVariables false
set_option linter.unusedSimpArgs false
set_option maxHeartbeats 4000000
namespace Go.Proofs.Ytdpmidgeipibbaa
open Go.Sh Go.RowKit

/-- a node's rows lie apart from blocks -/
structure Apt (M : List Nat) (x : GN) : Prop where
  p : ∀ y, x.pa = some y → x.p ≠ [] → y.block ∉ M
  d : ∀ y, x.da = some y → x.d ≠ [] → y.block ∉ M
theorem NOk.ext {w w' : World} {M : List Nat} {x : GN} (h : NOk w x) (hx : Ext M w w') (ha : Apt M x) : NOk w' x := by
  refine ⟨?_, h.pl, h.pn, ?_, h.dl, h.dn⟩
  · by_cases e : x.p = []
    · rw [e]; exact .nil
    · exact h.pr.ext hx fun b o hb => ha.p _ hb e
  · by_cases e : x.d = []
    · rw [e]; exact .nil
    · exact h.dr.ext hx fun b o hb => ha.d _ hb e
theorem NOk.lt {w : World} {x : GN} (h : NOk w x) : (∀ y, x.pa = some y → x.p ≠ [] → y.block < w.heap.size) ∧ ∀ y, x.da = some y → x.d ≠ [] → y.block < w.heap.size := by
  constructor
  · intro y hy hn
    obtain ⟨b, o, h1, h2, _⟩ := h.pr.get (by simpa using hn)
    rw [hy] at h1
    cases h1
    exact h2
  · intro y hy hn
    obtain ⟨b, o, h1, h2, _⟩ := h.dr.get (by simpa using hn)
    rw [hy] at h1
    cases h1
    exact h2
/-- the blocks grow, but only by new ones -/
theorem Apt.more {w : World} {M M' : List Nat} {x : GN} (h : Apt M x) (hk : NOk w x) (hm : ∀ b ∈ M', b ∈ M ∨ w.heap.size ≤ b) : Apt M' x := by
  obtain ⟨h1, h2⟩ := hk.lt
  constructor
  · intro y hy hn hb
    rcases hm _ hb with h3 | h3
    · exact h.p y hy hn h3
    · have := h1 y hy hn; omega
  · intro y hy hn hb
    rcases hm _ hb with h3 | h3
    · exact h.d y hy hn h3
    · have := h2 y hy hn; omega
/-- a block that holds other things -/
theorem Apt.cons {w : World} {M : List Nat} {x : GN} {g : Nat} {e : TypeId} {cells : List Value} (h : Apt M x) (hk : NOk w x) (B : Blk w g e cells) (hc : ∀ v ∈ cells, (∀ i, v ≠ i64 i) ∧ ∀ c : BitVec 8, v ≠ u8 c) : Apt (g :: M) x := by
  constructor
  · intro y hy hn hm
    rcases List.mem_cons.1 hm with hm | hm
    · obtain ⟨b, o, h1, h2, h3⟩ := hk.pr.get (by simpa using hn)
      rw [hy] at h1
      cases h1
      simp only at hm
      subst hm
      have hl : 0 < (its x.p).length := by simpa using List.length_pos_iff.2 hn
      have h4 := h3 0 _ (List.getElem?_eq_getElem hl)
      rw [B.cell] at h4
      have h5 := List.mem_of_getElem? h4
      rw [List.getElem_map] at h5
      exact (hc _ h5).1 _ rfl
    · exact h.p y hy hn hm
  · intro y hy hn hm
    rcases List.mem_cons.1 hm with hm | hm
    · obtain ⟨b, o, h1, h2, h3⟩ := hk.dr.get (by simpa using hn)
      rw [hy] at h1
      cases h1
      simp only at hm
      subst hm
      have hl : 0 < (bys x.d).length := by simpa using List.length_pos_iff.2 hn
      have h4 := h3 0 _ (List.getElem?_eq_getElem hl)
      rw [B.cell] at h4
      have h5 := List.mem_of_getElem? h4
      rw [List.getElem_map] at h5
      exact (hc _ h5).2 _ rfl
    · exact h.d y hy hn hm
abbrev OwnGN (w : World) (v : Value) (l : List GN) : Prop := Own w 72 2 v l.length (l.flatMap gnC)
abbrev OwnGR (w : World) (v : Value) (l : List GR) : Prop := Own w 74 2 v l.length (l.flatMap grC)
set_option maxRecDepth 100000 in
theorem appGN {w : World} {K : K1} {v : Value} {l : List GN} {x : GN} {g : Nat} {cs : List Value} (hO : OwnGN w v l) (hcs : cs = gnC x) (hl : l.length ≤ 1000000)
    (hK : ∀ v' w', OwnGN w' v' (l ++ [x]) → Stp (blk v) (blk v') w w' → K v' w') (hg : g = w.heap.size := by first | rfl | (simp only [World.size_alloc, World.size_drew, World.size_setCell] <;> omega)) : xBuiltin Try.prog .append #[22, 22] 22 [false, false] [v, .slice (some ⟨g, 0, none⟩) 1 1] (w.alloc (.cells cs.toArray 72)) K := by
  subst hcs hg
  refine xAppL (s := 2) (n := l.length) (m := 1) (xs := l.flatMap gnC) (news := gnC x) (bytes := 48) (z := .agg #[.slice none 0 0, .slice none 0 0]) (by kernel_rfl) (by kernel_rfl) (by rfl) (by decide) hO (by rfl) (by simp [gnC, Value.oneCell']) (by omega) (by omega) fun v' w' h1 h2 => hK v' w' ?_ h2
  show Own w' 72 2 v' (l ++ [x]).length ((l ++ [x]).flatMap gnC)
  rw [List.length_append, List.flatMap_append]
  simpa using h1
set_option maxRecDepth 100000 in
theorem appGR {w : World} {K : K1} {v : Value} {l : List GR} {x : GR} {g : Nat} {cs : List Value} (hO : OwnGR w v l) (hcs : cs = grC x) (hl : l.length ≤ 1000000)
    (hK : ∀ v' w', OwnGR w' v' (l ++ [x]) → Stp (blk v) (blk v') w w' → K v' w') (hg : g = w.heap.size := by first | rfl | (simp only [World.size_alloc, World.size_drew, World.size_setCell] <;> omega)) : xBuiltin Try.prog .append #[23, 23] 23 [false, false] [v, .slice (some ⟨g, 0, none⟩) 1 1] (w.alloc (.cells cs.toArray 74)) K := by
  subst hcs hg
  refine xAppL (s := 2) (n := l.length) (m := 1) (xs := l.flatMap grC) (news := grC x) (bytes := 24) (z := .agg #[.string ⟨#[]⟩, .int .i64 0]) (by kernel_rfl) (by kernel_rfl) (by rfl) (by decide) hO (by rfl) (by simp [grC, Value.oneCell']) (by omega) (by omega) fun v' w' h1 h2 => hK v' w' ?_ h2
  show Own w' 74 2 v' (l ++ [x]).length ((l ++ [x]).flatMap grC)
  rw [List.length_append, List.flatMap_append]
  simpa using h1
theorem minI (a b : Int) (w : World) (K : K1) : xBuiltin Try.prog .min #[3, 3] 3 [false, false] [i64 a, i64 b] w K = K (i64 (if b < a then b else a)) w := xBuiltin_okv (by simp [builtin, Builtin.min_, Builtin.min2])
theorem ClipGN_spec {w : World} {b : Option Addr} {n m : Nat} (hm : n ≤ m) : Gives Try.prog n_slices_Clip_graph_Node_graph_Node #[.slice b n m] w (.slice b n n) := by
  refine slices_Clip_graph_Node_graph_Node_of ?_
  unfold slices_Clip_graph_Node_graph_Node
  have hs := fun (K : K1) (w : World) => xSlice_hms (P := Try.prog) (w := w) (K := K) (t := 22) (z := 2) (k := .i64) (k' := .i64) (a := b) (n := n) (c := m) (h := (n : Int)) (m := (n : Int)) (by kernel_rfl) (by kernel_rfl) (by omega) (by omega) (by omega)
  simp (disch := (first | omega | decide | (simp only [rsD] <;> omega) | fail)) only [↓rsC, rsK, rsL, ↓ln_22, tick_eq, tickV_eq, ne_eq, Int.reduceAdd, Int.reduceSub, Int.reduceMul, Int.reduceEq, Int.reduceLT, Int.reduceLE, Int.reduceToNat, Nat.reduceMul, Nat.reduceAdd, Nat.reduceSub, ←decide_not, hs]
  exact ⟨by simp, Ext.refl _ _⟩
theorem ClipGR_spec {w : World} {b : Option Addr} {n m : Nat} (hm : n ≤ m) : Gives Try.prog n_slices_Clip_graph_Root_graph_Root #[.slice b n m] w (.slice b n n) := by
  refine slices_Clip_graph_Root_graph_Root_of ?_
  unfold slices_Clip_graph_Root_graph_Root
  have hs := fun (K : K1) (w : World) => xSlice_hms (P := Try.prog) (w := w) (K := K) (t := 23) (z := 2) (k := .i64) (k' := .i64) (a := b) (n := n) (c := m) (h := (n : Int)) (m := (n : Int)) (by kernel_rfl) (by kernel_rfl) (by omega) (by omega) (by omega)
  simp (disch := (first | omega | decide | (simp only [rsD] <;> omega) | fail)) only [↓rsC, rsK, rsL, ↓ln_23, tick_eq, tickV_eq, ne_eq, Int.reduceAdd, Int.reduceSub, Int.reduceMul, Int.reduceEq, Int.reduceLT, Int.reduceLE, Int.reduceToNat, Nat.reduceMul, Nat.reduceAdd, Nat.reduceSub, ←decide_not, hs]
  exact ⟨by simp, Ext.refl _ _⟩
def DecR (w' : World) (l : List (BitVec 64)) (u : Value) : Prop :=
  (∃ os na nc ra rc ns, DecOk l os ∧ ns.map bare = decNs l os ∧ u = .tuple #[gV na nc ra rc ns (decRs l os), i64 0] ∧ GIs w' na nc ra rc ns (decRs l os)) ∨
  ((∀ os, ¬ DecOk l os) ∧ u = .tuple #[gV none 0 none 0 [] [], i64 2])
abbrev rsDec3_0 := (And.intro @xu8_add (And.intro @xu8_mul (And.intro @xu8_com (And.intro @xu8_neq (And.intro @xu8_lss (And.intro @xu8_gtr (And.intro @xu16_add (And.intro @xu16_mul (And.intro @xu16_com (And.intro @xu16_neq (And.intro @xu16_lss (And.intro @xu16_gtr (And.intro @xu32_add (And.intro @xu32_mul (And.intro @xu32_com (And.intro @xu32_neq 
  (And.intro @xu32_lss (And.intro @xu32_gtr (And.intro @xu64_add (And.intro @xu64_mul (And.intro @xu64_com (And.intro @xu64_neq (And.intro @xu64_lss (And.intro @xu64_gtr (And.intro @xi64_lss (And.intro @xi64_gtr (And.intro @xi64_neq (And.intro @xi64_neg (And.intro @ld_3 (And.intro @ld_22 (And.intro @ld_23 (And.intro @ld_25 (And.intro @ld_66 (And.intro @ld_69 
  (And.intro @ld_132 (And.intro @lr_25 (And.intro @fa_25_0 (And.intro @fa_25_1 (And.intro @fa_132_1 (And.intro @al_25 (And.intro @al_132 (And.intro @st_22 (And.intro @st_23 (And.intro @st_25 (And.intro @st_66 (And.intro @st_132 (And.intro @bd_132_0 (And.intro @bd_25_0_1 (And.intro @bd_25 (And.intro @cv_69_3 (And.intro @ia_28 (And.intro @ia_66 (And.intro @ln_28 (And.intro @ln_66 
  (And.intro @bs_22_1 @bs_23_1)))))))))))))))))))))))))))))))))))))))))))))))))))))))
theorem iDecode_spec {w : World} {l : List (BitVec 64)} {a : Option Addr} {c : Nat} (h : RowAt w a (wrds l)) (hc : l.length ≤ c) (hn : a = none → c = 0) (hl : l.length ≤ 8192) : Yld Try.prog n_image_Decode #[.slice a l.length c] w fun u w' => Ext [] w w' ∧ DecR w' l u := by
  refine image_Decode_of ?_
  unfold image_Decode
  have al : ∀ (y : World) (K : K1), xAlloc Try.prog 25 y K = K (ptr y.heap.size) (y.alloc (.cells #[.slice none 0 0, .slice none 0 0] 25)) := fun y K => xAlloc_r (by kernel_rfl)
  rw [al]
  have B0 : Blk (w.alloc (.cells #[.slice none 0 0, .slice none 0 0] 25)) w.heap.size 25 [.slice none 0 0, .slice none 0 0] := Blk.at rfl
  have X0 : Ext [] w (w.alloc (.cells #[.slice none 0 0, .slice none 0 0] 25)) := Ext.alloc _ _ _
  have h0 := h.ext0 X0
  obtain ⟨g0, hg0⟩ : ∃ g, g = w.heap.size := ⟨_, rfl⟩
  rw [← hg0] at B0 ⊢
  have zw : w.heap.size ≤ g0 := Nat.le_of_eq hg0.symm
  generalize w.alloc (.cells #[.slice none 0 0, .slice none 0 0] 25) = y0 at *
  have fail : ∀ y1 : World, Ext [] y0 y1 → (∀ os, ¬ DecOk l os) → Ext [] w ((y1.setCell ⟨g0, 0, none⟩ (.slice none 0 0)).setCell ⟨g0, 1, none⟩ (.slice none 0 0)) ∧ DecR ((y1.setCell ⟨g0, 0, none⟩ (.slice none 0 0)).setCell ⟨g0, 1, none⟩ (.slice none 0 0)) l (.tuple #[.agg #[.slice none 0 0, .slice none 0 0], i64 2]) :=
    fun y1 F1 hno => ⟨((X0.trans F1).set' (.inr zw)).set' (.inr zw), .inr ⟨hno, rfl⟩⟩
  refine mem_Of_call (Yld.mono (Of_spec l a c y0 hl h0 hn) ?_)
  rintro u y1 ⟨F1, g, a1, c1, rfl, M1⟩
  have k1 := fun i => (B0.ext F1 (by simp)).cell (i := i)
  have f1 := fun i => (B0.ext F1 (by simp)).frozen (i := i)
  by_cases h2 : l.length < 2
  · simp (disch := (first | omega | decide | (simp only [rsD] <;> omega) | fail)) only [↓rsC, rsK, rsL, ↓rsDec3_0, tick_eq, tickV_eq, ne_eq, Int.reduceAdd, Int.reduceSub, Int.reduceMul, Int.reduceEq, Int.reduceLT, Int.reduceLE, Int.reduceToNat, Nat.reduceMul, Nat.reduceAdd, Nat.reduceSub, ←decide_not, k1, f1]
    exact fail y1 F1 fun os D => by have := D.two; omega
  obtain ⟨b, o, rfl, hlt, hc1⟩ := row_w (h0.ext0 F1) (i := 1) (by omega)
  simp (disch := (first | omega | decide | (simp only [rsD] <;> omega) | fail)) only [↓rsC, rsK, rsL, ↓rsDec3_0, tick_eq, tickV_eq, ne_eq, Int.reduceAdd, Int.reduceSub, Int.reduceMul, Int.reduceEq, Int.reduceLT, Int.reduceLE, Int.reduceToNat, Nat.reduceMul, Nat.reduceAdd, Nat.reduceSub, ←decide_not, hc1]
  refine bits_Field_call (Gives.to (Field_spec _ _ _ y1) fun y2 F2 => ?_)
  have efr : (fieldB (wat l 1) 0 16).toInt = (nR l : Int) := by
    have : nR l < 65536 := nR_lt l
    exact BitVec.toInt_eq_toNat_of_lt (by unfold nR at this; omega)
  have hnr := nR_lt l
  simp (disch := (first | omega | decide | (simp only [rsD] <;> omega) | fail)) only [↓rsC, rsK, rsL, ↓rsDec3_0, tick_eq, tickV_eq, ne_eq, Int.reduceAdd, Int.reduceSub, Int.reduceMul, Int.reduceEq, Int.reduceLT, Int.reduceLE, Int.reduceToNat, Nat.reduceMul, Nat.reduceAdd, Nat.reduceSub, ←decide_not, hc1, efr]
  rw [efr]
  have F12 := F1.trans F2
  have M2 := M1.ext0 F2
  refine mem_Mem_Len_call (Gives.to (Len_spec M2) fun y3 F3 => ?_)
  rw [minI]
  have F13 := F12.trans F3
  refine mem_Mem_Len_call (Gives.to (Len_spec (M2.ext0 F3)) fun y4 F4 => ?_)
  refine mem_Mem_Len_call (Gives.to (Len_spec ((M2.ext0 F3).ext0 F4)) fun y5 F5 => ?_)
  have M5 := ((M2.ext0 F3).ext0 F4).ext0 F5
  have F15 := F13.trans (F4.trans F5)
  have k5 := fun i => (B0.ext F15 (by simp)).cell (i := i)
  have f5 := fun i => (B0.ext F15 (by simp)).frozen (i := i)
  by_cases hfr : l.length < 2 + 5 * nR l
  · have hno : ∀ os, ¬ DecOk l os := fun os D => by have := D.room; omega
    rw [if_pos (by omega)]
    refine space_Of_call (Yld.mono (SOf_spec M5 (Nat.le_refl l.length) (Nat.le_refl _) (Nat.le_refl _)) ?_)
    rintro u y6 ⟨F6, H6⟩
    have k6 := fun i => ((B0.ext F15 (by simp)).ext F6 (by simp)).cell (i := i)
    have f6 := fun i => ((B0.ext F15 (by simp)).ext F6 (by simp)).frozen (i := i)
    cases ho : objs l l.length l.length with
    | none =>
      rw [ho] at H6
      simp only at H6
      subst H6
      simp (disch := (first | omega | decide | (simp only [rsD] <;> omega) | fail)) only [↓rsC, rsK, rsL, ↓rsDec3_0, tick_eq, tickV_eq, ne_eq, Int.reduceAdd, Int.reduceSub, Int.reduceMul, Int.reduceEq, Int.reduceLT, Int.reduceLE, Int.reduceToNat, Nat.reduceMul, Nat.reduceAdd, Nat.reduceSub, ←decide_not, hc1, efr, k6, f6]
      exact fail y6 (F15.trans F6) hno
    | some os =>
      rw [ho] at H6
      obtain ⟨s, rfl, _, S6⟩ := H6
      simp (disch := (first | omega | decide | (simp only [rsD] <;> omega) | fail)) only [↓rsC, rsK, rsL, ↓rsDec3_0, tick_eq, tickV_eq, ne_eq, Int.reduceAdd, Int.reduceSub, Int.reduceMul, Int.reduceEq, Int.reduceLT, Int.reduceLE, Int.reduceToNat, Nat.reduceMul, Nat.reduceAdd, Nat.reduceSub, ←decide_not, hc1, efr]
      refine mem_Mem_Len_call (Gives.to (Len_spec S6.mem) fun y7 F7 => ?_)
      have k7 := fun i => (((B0.ext F15 (by simp)).ext F6 (by simp)).ext F7 (by simp)).cell (i := i)
      have f7 := fun i => (((B0.ext F15 (by simp)).ext F6 (by simp)).ext F7 (by simp)).frozen (i := i)
      simp (disch := (first | omega | decide | (simp only [rsD] <;> omega) | fail)) only [↓rsC, rsK, rsL, ↓rsDec3_0, tick_eq, tickV_eq, ne_eq, Int.reduceAdd, Int.reduceSub, Int.reduceMul, Int.reduceEq, Int.reduceLT, Int.reduceLE, Int.reduceToNat, Nat.reduceMul, Nat.reduceAdd, Nat.reduceSub, ←decide_not, hc1, efr, k7, f7]
      exact fail y7 (F15.trans (F6.trans F7)) hno
  rw [if_neg (by omega)]
  have efm : (2 + 5 * (nR l : Int)) = ((2 + 5 * nR l : Nat) : Int) := by omega
  rw [efm]
  refine space_Of_call (Yld.mono (SOf_spec M5 (b := 2 + 5 * nR l) (by omega) (Nat.le_refl _) (Nat.le_refl _)) ?_)
  rintro u y6 ⟨F6, H6⟩
  have B06 := (B0.ext F15 (by simp)).ext F6 (by simp)
  have F16 := F15.trans F6
  have k6 := fun i => B06.cell (i := i)
  have f6 := fun i => B06.frozen (i := i)
  cases ho : objs l (2 + 5 * nR l) l.length with
  | none =>
    rw [ho] at H6
    simp only at H6
    subst H6
    simp (disch := (first | omega | decide | (simp only [rsD] <;> omega) | fail)) only [↓rsC, rsK, rsL, ↓rsDec3_0, tick_eq, tickV_eq, ne_eq, Int.reduceAdd, Int.reduceSub, Int.reduceMul, Int.reduceEq, Int.reduceLT, Int.reduceLE, Int.reduceToNat, Nat.reduceMul, Nat.reduceAdd, Nat.reduceSub, ←decide_not, hc1, efr, k6, f6]
    refine fail y6 F16 fun os D => ?_
    rw [(objs_some D.room).2 D.sc.objs] at ho
    cases ho
  | some os =>
  rw [ho] at H6
  obtain ⟨s, rfl, _, S6⟩ := H6
  have hsc := ((objs_some (show 2 + 5 * nR l ≤ l.length by omega)).1 ho).sc
  simp (disch := (first | omega | decide | (simp only [rsD] <;> omega) | fail)) only [↓rsC, rsK, rsL, ↓rsDec3_0, tick_eq, tickV_eq, ne_eq, Int.reduceAdd, Int.reduceSub, Int.reduceMul, Int.reduceEq, Int.reduceLT, Int.reduceLE, Int.reduceToNat, Nat.reduceMul, Nat.reduceAdd, Nat.reduceSub, ←decide_not, hc1, efr]
  refine mem_Mem_Len_call (Gives.to (Len_spec S6.mem) fun y7 F7 => ?_)
  have B07 := B06.ext F7 (by simp)
  have F17 := F16.trans F7
  have S7 := S6.ext0 F7
  simp (disch := (first | omega | decide | (simp only [rsD] <;> omega) | fail)) only [↓rsC, rsK, rsL, ↓rsDec3_0, tick_eq, tickV_eq, ne_eq, Int.reduceAdd, Int.reduceSub, Int.reduceMul, Int.reduceEq, Int.reduceLT, Int.reduceLE, Int.reduceToNat, Nat.reduceMul, Nat.reduceAdd, Nat.reduceSub, ←decide_not, hc1, efr]
  obtain ⟨gr, hgr⟩ : ∃ g, g = y7.heap.size := ⟨_, rfl⟩
  have Br0 : Blk (y7.alloc (.cells #[ptr s, .slice none 0 0] 132)) gr 132 [ptr s, .slice none 0 0] := Blk.at hgr
  have X8 : Ext [] y7 (y7.alloc (.cells #[ptr s, .slice none 0 0] 132)) := Ext.alloc _ _ _
  rw [← hgr]
  generalize y7.alloc (.cells #[ptr s, .slice none 0 0] 132) = y8 at *
  have S8 := S7.ext0 X8
  have hob := SObjects_spec S8
  rw [ho] at hob
  refine space_Space_Objects_call (Yld.mono hob ?_)
  rintro u y9 ⟨v9, rfl, F9, pa, pc, rfl, hpc, R9⟩
  have S9 := S8.ext0 F9
  have Br9 := Br0.ext F9 (by simp)
  have k9 := fun i => Br9.cell (i := i)
  have f9 := fun i => Br9.frozen (i := i)
  have zr9 := Br9.lt
  have B09 := (B07.ext X8 (by simp)).ext F9 (by simp)
  have g0lt := B07.lt
  simp (disch := (first | omega | decide | (simp only [rsD] <;> omega) | fail)) only [↓rsC, rsK, rsL, ↓rsDec3_0, tick_eq, tickV_eq, ne_eq, Int.reduceAdd, Int.reduceSub, Int.reduceMul, Int.reduceEq, Int.reduceLT, Int.reduceLE, Int.reduceToNat, Nat.reduceMul, Nat.reduceAdd, Nat.reduceSub, ←decide_not, hc1, efr, k9, f9]
  simp only [size_sets]
  have R10 : RowAt (y9.setCell ⟨gr, 1, none⟩ (.slice pa os.length pc)) pa (nums os) := by
    by_cases he : os = []
    · subst he; exact .nil
    · refine R9.ext Ext.set fun b' o' hb hm => ?_
      simp only [List.mem_singleton] at hm
      subst hb hm
      obtain ⟨b2, o2, e2, _, hc2⟩ := R9.get (by simpa using he)
      cases e2
      have := hc2 0 _ (List.getElem?_eq_getElem (by simpa using List.length_pos_iff.2 he))
      rw [Nat.add_zero, Br9.cell] at this
      rcases o' with _ | _ | o'
      · simp at this
      · simp at this
      · simp at this
  have E10 : Ext [gr] y9 (y9.setCell ⟨gr, 1, none⟩ (.slice pa os.length pc)) := Ext.set
  have Br10 := Br9.set (i := 1) (v := .slice pa os.length pc)
  have hgs : s ∉ [gr] := by have := S7.blk.lt; simp only [List.mem_singleton]; omega
  have hgg : g ∉ [gr] := by have := S7.mem.lt; simp only [List.mem_singleton]; omega
  have hga : l ≠ [] → ∀ x ∈ blkOf a1, x ∉ [gr] := fun hw x hx => by have := S7.mem.blt hw x hx; simp only [List.mem_singleton]; omega
  have S10 := S9.ext E10 hgs hgg hga
  have B010 := B09.ext E10 (by simp only [List.mem_singleton]; omega)
  have X10 : Ext [] w (y9.setCell ⟨gr, 1, none⟩ (.slice pa os.length pc)) := (X0.trans (F17.trans (X8.trans F9))).set' (.inr (by have := (X0.trans F17).size; omega))
  have zs10 : (y9.setCell ⟨gr, 1, none⟩ (.slice pa os.length pc)).heap.size = y9.heap.size := World.size_setCell _ _ _
  generalize y9.setCell ⟨gr, 1, none⟩ (.slice pa os.length pc) = y10 at *
  have Bx0 : Blk (y10.alloc (.cells #[.slice none 0 0, .slice none 0 0] 25)) y9.heap.size 25 [.slice none 0 0, .slice none 0 0] := Blk.at zs10.symm
  have X11 : Ext [] y10 (y10.alloc (.cells #[.slice none 0 0, .slice none 0 0] 25)) := Ext.alloc _ _ _
  have zs11 : (y10.alloc (.cells #[.slice none 0 0, .slice none 0 0] 25)).heap.size = y9.heap.size + 1 := by rw [World.size_alloc, zs10]
  generalize y10.alloc (.cells #[.slice none 0 0, .slice none 0 0] 25) = y at *
  have Xy := X10.trans X11
  have Sy := S10.ext0 X11
  have Ry := R10.ext0 X11
  have Bry := Br10.ext X11 (by simp)
  have B0y := B010.ext X11 (by simp)
  obtain ⟨hx, hhx⟩ : ∃ g, g = y9.heap.size := ⟨_, rfl⟩
  rw [← hhx] at Bx0 ⊢
  have hlt : hx < y.heap.size := by omega
  have zS := S9.blk.lt
  have zg := S9.mem.lt
  have zB0 := B09.lt
  have fresh : ∀ {w' : World}, Ext [hx] y w' → Ext [] w w' := fun F => Xy.new F (fun z hz => by simp only [List.mem_singleton] at hz; have := (X10.size); omega)
  have ner : gr ∉ [hx] := by simp only [List.mem_singleton]; omega
  have ne0 : g0 ∉ [hx] := by simp only [List.mem_singleton]; omega
  have neS : s ∉ [hx] := by simp only [List.mem_singleton]; omega
  have neg : g ∉ [hx] := by simp only [List.mem_singleton]; omega
  have nea : l ≠ [] → ∀ x ∈ blkOf a1, x ∉ [hx] := fun hw x hx' => by have := S9.mem.blt hw x hx'; simp only [List.mem_singleton]; omega
  have nilb : ∀ z, z ∉ blk (.slice none 0 0) := by simp [blk, Value.ownBlock]
  have Ra : ∀ {w' : World}, Ext [hx] y w' → RowAt w' pa (nums os) := fun F => by
    by_cases he : os = []
    · subst he; exact .nil
    · obtain ⟨b2, o2, e2, hlt2, _⟩ := R10.get (by simpa using he)
      exact Ry.ext F fun b' o' hb hm => by
        simp only [List.mem_singleton] at hm
        rw [e2] at hb
        cases hb
        omega
  obtain ⟨hsort, hall⟩ := hsc.all
  have hcount := hsc.count
  have hob2 : ∀ y ∈ os, y ≤ 1000000 := fun y hy => by have := (hall y hy).2.2; omega
  have hosl : os.length ≤ 100000 := by omega
  have Sx : ∀ {w' : World}, Ext [hx] y w' → SpIs w' y0.heap.size s g a1 c1 l (2 + 5 * nR l) l.length l.length := fun F => Sy.ext F neS neg nea
  refine xLoop_n os.length (fun j => [i64 (j : Int)]) (fun j w' => Ext [hx] y w' ∧ ∃ v ns, ns.map bare = (decNs l os).take j ∧ OwnGN w' v ns ∧ Blk w' hx 25 [v, .slice none 0 0] ∧ (∀ z ∈ blk v, y.heap.size ≤ z) ∧ ∀ x ∈ ns, NOk w' x ∧ Apt (hx :: blk v) x) rfl ⟨Ext.refl _ _, .slice none 0 0, [], by simp, Own.nil, Bx0, fun z hz => absurd hz (nilb z), by simp⟩ ?_ ?_
  · rintro j hj u x1 hu ⟨F, v, ns, hns, O, B, U, A⟩ nxt hnx
    simp only [List.map_cons, List.map_nil, List.cons.injEq, and_true] at hu
    rw [hu]
    obtain ⟨a0, c0', hv0, _⟩ := O.slice
    subst hv0
    obtain ⟨bb, oo, rfl, hbl, hcc⟩ := (Ra F).at (i := j) (by simpa using hj)
    have hcj : x1.cell? ⟨bb, oo + j, none⟩ = some (i64 (os[j] : Int)) := by rw [hcc]; simp
    have nsl : ns.length = j := by
      have := congrArg List.length hns
      rw [List.length_map, List.length_take, decNs_len] at this
      omega
    unfold image_Decode_l1
    have Ed := Ext.drew [] x1
    have kr := fun i => ((Bry.ext F ner).ext Ed (by simp)).cell (i := i)
    have kb := fun i => (B.ext Ed (by simp)).cell (i := i)
    have hm : os[j] ∈ os := List.getElem_mem hj
    have hO : ObjAt l (2 + 5 * nR l) l.length os[j] := ⟨(hall _ hm).1, (hall _ hm).2.1, (hall _ hm).2.2⟩
    simp (disch := (first | omega | decide | (simp only [rsD] <;> omega) | fail)) only [↓rsC, rsK, rsL, ↓rsDec3_0, tick_eq, tickV_eq, ne_eq, Int.reduceAdd, Int.reduceSub, Int.reduceMul, Int.reduceEq, Int.reduceLT, Int.reduceLE, Int.reduceToNat, Nat.reduceMul, Nat.reduceAdd, Nat.reduceSub, ←decide_not, hc1, efr, k9, f9, hcj, kr, kb]
    have Fd := F.trans (Ed.more (by simp))
    refine image_reader_node_call (Yld.mono (rnode_spec (Sx Fd) hO (Ra Fd) hsort hosl hob2) ?_)
    rintro u x2 ⟨F2, x, rfl, hxp, hxd, hxk, hfa, hfb⟩
    have F02 := Fd.trans (F2.more (by simp))
    have B2 := (B.ext Ed (by simp)).ext F2 (by simp)
    have O2 := (O.ext0 Ed).ext0 F2
    have zb2 := B2.lt
    have k2 := fun i => B2.cell (i := i)
    simp (disch := (first | omega | decide | (simp only [rsD] <;> omega) | fail)) only [↓rsC, rsK, rsL, ↓rsDec3_0, tick_eq, tickV_eq, ne_eq, Int.reduceAdd, Int.reduceSub, Int.reduceMul, Int.reduceEq, Int.reduceLT, Int.reduceLE, Int.reduceToNat, Nat.reduceMul, Nat.reduceAdd, Nat.reduceSub, ←decide_not, hc1, efr, k9, f9, hcj, kr, kb, k2]
    refine appGN O2 rfl (by omega) fun v' x5 O5 T5 => ?_
    obtain ⟨F5, U5, n1, n2⟩ := grow F02 U hlt T5
    have B5 := B2.ext T5.ext n1
    obtain ⟨a3, c3, hv3, _⟩ := O5.slice
    have k5 := fun i => B5.cell (i := i)
    have f5 := fun i => B5.frozen (i := i)
    subst hv3
    simp (disch := (first | omega | decide | (simp only [rsD] <;> omega) | fail)) only [↓rsC, rsK, rsL, ↓rsDec3_0, tick_eq, tickV_eq, ne_eq, Int.reduceAdd, Int.reduceSub, Int.reduceMul, Int.reduceEq, Int.reduceLT, Int.reduceLE, Int.reduceToNat, Nat.reduceMul, Nat.reduceAdd, Nat.reduceSub, ←decide_not, hc1, efr, k9, f9, hcj, kr, kb, k2, k5, f5]
    have B6 := B5.set (i := 0) (v := .slice a3 (ns ++ [x]).length c3)
    have O6 := O5.ext (Ext.set (w := x5) (b := hx) (o := 0) (v := .slice a3 (ns ++ [x]).length c3)) (fun z hz hm => by simp only [List.mem_singleton] at hm; subst hm; exact n2 hz)
    refine hnx _ ⟨F5.set' (.inl (by simp)), _, ns ++ [x], ?_, O6, B6, U5, fun q hq => ?_⟩
    · rw [List.map_append, hns, List.take_add_one, List.getElem?_eq_getElem (by rw [decNs_len]; exact hj), decNs_get]
      simp [bare, decN, hxp, hxd]
    · have hA : NOk x2 q ∧ Apt (hx :: blk (.slice a0 ns.length c0')) q := by
        rcases List.mem_append.1 hq with hq | hq
        · exact ⟨((A q hq).1.ext0 Ed).ext0 F2, (A q hq).2⟩
        · rw [List.mem_singleton] at hq
          subst hq
          have hz1 : hx < x1.drew.heap.size := (B.ext Ed (by simp)).lt
          have hz2 := (O.ext0 Ed).lt
          refine ⟨hxk, fun y hy _ hm => ?_, fun y hy _ hm => ?_⟩
          · have := hfa y hy
            rcases List.mem_cons.1 hm with e | e
            · omega
            · have := hz2 _ e; omega
          · have := hfb y hy
            rcases List.mem_cons.1 hm with e | e
            · omega
            · have := hz2 _ e; omega
      have hA2 := hA.1.ext (T5.ext.more (fun z hz => List.mem_cons_of_mem hx hz)) hA.2
      have hA3 : Apt (hx :: blk (.slice a3 (ns ++ [x]).length c3)) q := hA.2.more hA.1 fun b hb => by
        rcases List.mem_cons.1 hb with e | e
        · exact .inl (by rw [e]; exact List.mem_cons_self ..)
        · exact (T5.at' b e).imp (List.mem_cons_of_mem _) id
      exact ⟨hA2.ext (Ext.set.more (by simp)) hA3, hA3⟩
  rintro u x1 hu ⟨F, v, ns, hns, O, B, U, A⟩ nxt
  simp only [List.map_cons, List.map_nil, List.cons.injEq, and_true] at hu
  rw [hu]
  have hns : ns.map bare = decNs l os := by rw [hns]; exact List.take_of_length_le (by rw [decNs_len]; exact Nat.le_refl _)
  have nsl : ns.length = os.length := by
    have := congrArg List.length hns
    rwa [List.length_map, decNs_len] at this
  unfold image_Decode_l1
  simp (disch := (first | omega | decide | (simp only [rsD] <;> omega) | fail)) only [↓rsC, rsK, rsL, ↓rsDec3_0, tick_eq, tickV_eq, ne_eq, Int.reduceAdd, Int.reduceSub, Int.reduceMul, Int.reduceEq, Int.reduceLT, Int.reduceLE, Int.reduceToNat, Nat.reduceMul, Nat.reduceAdd, Nat.reduceSub, ←decide_not, hc1, efr, k9, f9]
  refine xLoop_n (nR l) (fun j => [i64 (j : Int)]) (fun j w' => Ext [hx] y w' ∧ OwnGN w' v ns ∧ ∃ v2, OwnGR w' v2 ((decRs l os).take j) ∧ Blk w' hx 25 [v, v2] ∧ (∀ z ∈ blk v2, y.heap.size ≤ z) ∧ (∀ z ∈ blk v2, z ∉ blk v) ∧ ∀ x ∈ ns, NOk w' x ∧ Apt (hx :: (blk v ++ blk v2)) x) rfl ⟨F, O, .slice none 0 0, Own.nil, B, fun z hz => absurd hz (nilb z), fun z hz => absurd hz (nilb z), fun x hx' => ⟨(A x hx').1, by have := (A x hx').2; simpa [blk, Value.ownBlock] using this⟩⟩ ?_ ?_
  · rintro j hj u x1 hu ⟨F, O, v2, R, B, U2, D, A⟩ nxt hnx
    simp only [List.map_cons, List.map_nil, List.cons.injEq, and_true] at hu
    rw [hu]
    obtain ⟨a0, c0', hv0, _⟩ := R.slice
    subst hv0
    have hlen : ((decRs l os).take j).length = j := by rw [List.length_take, decRs_len]; omega
    unfold image_Decode_l2
    have Ed := Ext.drew [] x1
    have kr := fun i => ((Bry.ext F ner).ext Ed (by simp)).cell (i := i)
    have kb := fun i => (B.ext Ed (by simp)).cell (i := i)
    have ea : (2 + 5 * (j : Int)) = ((2 + 5 * j : Nat) : Int) := by omega
    simp (disch := (first | omega | decide | (simp only [rsD] <;> omega) | fail)) only [↓rsC, rsK, rsL, ↓rsDec3_0, tick_eq, tickV_eq, ne_eq, Int.reduceAdd, Int.reduceSub, Int.reduceMul, Int.reduceEq, Int.reduceLT, Int.reduceLE, Int.reduceToNat, Nat.reduceMul, Nat.reduceAdd, Nat.reduceSub, ←decide_not, hc1, efr, k9, f9, kr, kb, ea]
    have Fd := F.trans (Ed.more (by simp))
    refine image_reader_root_call (Gives.to (rroot_spec (Sx Fd) (Ra Fd) hsort hosl hob2 (2 + 5 * j) (by omega)) fun x2 F2 => ?_)
    have F02 := Fd.trans (F2.more (by simp))
    have B2 := (B.ext Ed (by simp)).ext F2 (by simp)
    have R2 := (R.ext0 Ed).ext0 F2
    have O2 := (O.ext0 Ed).ext0 F2
    have zb2 := B2.lt
    have k2 := fun i => B2.cell (i := i)
    simp (disch := (first | omega | decide | (simp only [rsD] <;> omega) | fail)) only [↓rsC, rsK, rsL, ↓rsDec3_0, tick_eq, tickV_eq, ne_eq, Int.reduceAdd, Int.reduceSub, Int.reduceMul, Int.reduceEq, Int.reduceLT, Int.reduceLE, Int.reduceToNat, Nat.reduceMul, Nat.reduceAdd, Nat.reduceSub, ←decide_not, hc1, efr, k9, f9, kr, kb, ea, k2]
    refine appGR R2 (x := ⟨nameS l (2 + 5 * j), numb os (wat l (2 + 5 * j + 4))⟩) rfl (by omega) fun v' x5 R5 T5 => ?_
    obtain ⟨F5, U5, n1, n2⟩ := grow F02 U2 hlt T5
    have B5 := B2.ext T5.ext n1
    have O5 := O2.ext T5.ext (fun z hz hm => D z hm hz)
    obtain ⟨a3, c3, hv3, _⟩ := R5.slice
    have k5 := fun i => B5.cell (i := i)
    have f5 := fun i => B5.frozen (i := i)
    have hsu : (decRs l os).take (j + 1) = (decRs l os).take j ++ [⟨nameS l (2 + 5 * j), numb os (wat l (2 + 5 * j + 4))⟩] := by
      rw [List.take_add_one, List.getElem?_eq_getElem (by rw [decRs_len]; exact hj), decRs_get]
      rfl
    rw [← hsu] at R5 hv3
    subst hv3
    simp (disch := (first | omega | decide | (simp only [rsD] <;> omega) | fail)) only [↓rsC, rsK, rsL, ↓rsDec3_0, tick_eq, tickV_eq, ne_eq, Int.reduceAdd, Int.reduceSub, Int.reduceMul, Int.reduceEq, Int.reduceLT, Int.reduceLE, Int.reduceToNat, Nat.reduceMul, Nat.reduceAdd, Nat.reduceSub, ←decide_not, hc1, efr, k9, f9, kr, kb, ea, k2, k5, f5]
    have B6 := B5.set (i := 1) (v := .slice a3 ((decRs l os).take (j + 1)).length c3)
    have hxv : hx ∉ blk v := fun hm => by have := U _ hm; omega
    have D5 : ∀ z ∈ blk (.slice a3 ((decRs l os).take (j + 1)).length c3), z ∉ blk v := fun z hz hm => by
      rcases T5.at' z hz with h1 | h1
      · exact D z h1 hm
      · have := O2.lt z hm
        omega
    have R6 := R5.ext (Ext.set (w := x5) (b := hx) (o := 1) (v := .slice a3 ((decRs l os).take (j + 1)).length c3)) (fun z hz hm => by simp only [List.mem_singleton] at hm; subst hm; exact n2 hz)
    have O6 := O5.ext (Ext.set (w := x5) (b := hx) (o := 1) (v := .slice a3 ((decRs l os).take (j + 1)).length c3)) (fun z hz hm => by simp only [List.mem_singleton] at hm; subst hm; exact hxv hz)
    refine hnx _ ⟨F5.set' (.inl (by simp)), O6, _, R6, B6, U5, D5, fun q hq => ?_⟩
    have hA : NOk x2 q ∧ Apt (hx :: (blk v ++ blk (.slice a0 ((decRs l os).take j).length c0'))) q := ⟨((A q hq).1.ext0 Ed).ext0 F2, (A q hq).2⟩
    have hA2 := hA.1.ext (T5.ext.more (fun z hz => List.mem_cons_of_mem hx (List.mem_append_right _ hz))) hA.2
    have hA3 : Apt (hx :: (blk v ++ blk (.slice a3 ((decRs l os).take (j + 1)).length c3))) q := hA.2.more hA.1 fun b hb => by
      rcases List.mem_cons.1 hb with e | e
      · exact .inl (by rw [e]; exact List.mem_cons_self ..)
      · rcases List.mem_append.1 e with e | e
        · exact .inl (List.mem_cons_of_mem _ (List.mem_append_left _ e))
        · exact (T5.at' b e).imp (fun h => List.mem_cons_of_mem _ (List.mem_append_right _ h)) id
    exact ⟨hA2.ext (Ext.set.more (by simp)) hA3, hA3⟩
  rintro u x1 hu ⟨F, O, v2, R, B, U2, D, A⟩ nxt
  simp only [List.map_cons, List.map_nil, List.cons.injEq, and_true] at hu
  rw [hu]
  have etk : (decRs l os).take (nR l) = decRs l os := List.take_of_length_le (by rw [decRs_len]; exact Nat.le_refl _)
  rw [etk] at R
  obtain ⟨na, nc, hvn, hnc, _, hnn, Rn, _⟩ := O.slice
  obtain ⟨ra, rc, hvr, hrc, _, hrn, Rr, _⟩ := R.slice
  subst hvn hvr
  have G : GIs x1 na nc ra rc ns (decRs l os) := ⟨Rn, hnc, hnn, Rr, hrc, hrn, fun x hx' => (A x hx').1⟩
  have k1 := fun i => B.cell (i := i)
  unfold image_Decode_l2
  simp (disch := (first | omega | decide | (simp only [rsD] <;> omega) | fail)) only [↓rsC, rsK, rsL, ↓rsDec3_0, tick_eq, tickV_eq, ne_eq, Int.reduceAdd, Int.reduceSub, Int.reduceMul, Int.reduceEq, Int.reduceLT, Int.reduceLE, Int.reduceToNat, Nat.reduceMul, Nat.reduceAdd, Nat.reduceSub, ←decide_not, hc1, efr, k9, f9, k1]
  have hxl : ∀ x ∈ ns, x.p.length ≤ 64 ∧ x.d.length ≤ 1024 := fun x hx' => by
    have : bare x ∈ decNs l os := by rw [← hns]; exact List.mem_map.2 ⟨x, hx', rfl⟩
    obtain ⟨o, ho', e⟩ := List.mem_map.1 this
    obtain ⟨v1, v2, v3, v4, v5, v6, v7, v8⟩ := okW_v (hall o ho').2.1
    have e1 : x.p = decP l os o := congrArg GN.p e.symm
    have e2 : x.d = decD l o := congrArg GN.d e.symm
    rw [e1, e2]
    refine ⟨by simpa [decP] using v7, by simpa [decD, bytesW_length] using v8⟩
  have hf : FewH ns (decRs l os) := ⟨by omega, by rw [decRs_len]; omega, fun x hx' => by have := hxl x hx'; omega⟩
  refine image_Encode_call (Yld.mono (iEncode_spec G hf) ?_)
  have hEn : encW ns (decRs l os) = encW (decNs l os) (decRs l os) := by rw [← hns, bare_enc]
  have hGn : GoodG (decNs l os) (decRs l os) ↔ GoodG ns (decRs l os) := by rw [← hns, bare_good]
  have hgW : gW (decNs l os) = gW ns := by rw [← hns, bare_gW]
  have fail2 : ∀ y1 : World, Ext [] w y1 → (∀ os, ¬ DecOk l os) → Ext [] w ((y1.setCell ⟨g0, 0, none⟩ (.slice none 0 0)).setCell ⟨g0, 1, none⟩ (.slice none 0 0)) ∧ DecR ((y1.setCell ⟨g0, 0, none⟩ (.slice none 0 0)).setCell ⟨g0, 1, none⟩ (.slice none 0 0)) l (.tuple #[.agg #[.slice none 0 0, .slice none 0 0], i64 2]) :=
    fun y1 F1 hno => ⟨(F1.set' (.inr zw)).set' (.inr zw), .inr ⟨hno, rfl⟩⟩
  have uniq : ∀ os', DecOk l os' → os' = os := fun os' D => (D.sc.uniq hsc).1
  rintro u x2 (⟨hne, rfl, E2⟩ | ⟨h0', hgood, hneed, ae, ce, rfl, hce, _, Re, E2⟩)
  · have B02 := (B0y.ext F ne0).ext E2 (by simp)
    have k2 := fun i => B02.cell (i := i)
    have f2 := fun i => B02.frozen (i := i)
    simp (disch := (first | omega | decide | (simp only [rsD] <;> omega) | fail)) only [↓rsC, rsK, rsL, ↓rsDec3_0, tick_eq, tickV_eq, ne_eq, Int.reduceAdd, Int.reduceSub, Int.reduceMul, Int.reduceEq, Int.reduceLT, Int.reduceLE, Int.reduceToNat, Nat.reduceMul, Nat.reduceAdd, Nat.reduceSub, ←decide_not, hc1, efr, k9, f9, k1, hne, k2, f2]
    refine fail2 x2 ((fresh F).trans E2) fun os' Q => hne ?_
    have := uniq os' Q
    subst this
    have hlen := enc_len Q.good
    rw [Q.enc, hgW] at hlen
    unfold encC
    rw [if_neg (by rw [chk_zero.2 (hGn.1 Q.good)]; simp), if_neg (by omega)]
  · have hel : (encW ns (decRs l os)).length ≤ 1000000 := by rw [enc_len hgood]; omega
    simp (disch := (first | omega | decide | (simp only [rsD] <;> omega) | fail)) only [↓rsC, rsK, rsL, ↓rsDec3_0, tick_eq, tickV_eq, ne_eq, Int.reduceAdd, Int.reduceSub, Int.reduceMul, Int.reduceEq, Int.reduceLT, Int.reduceLE, Int.reduceToNat, Nat.reduceMul, Nat.reduceAdd, Nat.reduceSub, ←decide_not, hc1, efr, k9, f9, k1]
    refine slices_Equal_uint64_uint64_call (Gives.to (EqualW_spec Re (h.ext0 ((fresh F).trans E2)) hel (by omega)) fun x3 E3 => ?_)
    have E23 := E2.trans E3
    have B03 := (B0y.ext F ne0).ext E23 (by simp)
    have k3 := fun i => B03.cell (i := i)
    have f3 := fun i => B03.frozen (i := i)
    by_cases heq : encW ns (decRs l os) = l
    case neg =>
      rw [decide_eq_false heq]
      simp (disch := (first | omega | decide | (simp only [rsD] <;> omega) | fail)) only [↓rsC, rsK, rsL, ↓rsDec3_0, tick_eq, tickV_eq, ne_eq, Int.reduceAdd, Int.reduceSub, Int.reduceMul, Int.reduceEq, Int.reduceLT, Int.reduceLE, Int.reduceToNat, Nat.reduceMul, Nat.reduceAdd, Nat.reduceSub, ←decide_not, hc1, efr, k9, f9, k1, k3, f3]
      refine fail2 x3 ((fresh F).trans E23) fun os' Q => heq ?_
      have := uniq os' Q
      subst this
      rw [hEn]
      exact Q.enc
    rw [decide_eq_true heq]
    have DO : DecOk l os := ⟨by omega, by omega, hsc, hGn.2 hgood, by rw [← hEn]; exact heq⟩
    have Ed := Ext.drew [] x3
    have B3 := (B.ext E23 (by simp)).ext Ed (by simp)
    have k3d := fun i => B3.cell (i := i)
    have E3d := E23.trans Ed
    simp (disch := (first | omega | decide | (simp only [rsD] <;> omega) | fail)) only [↓rsC, rsK, rsL, ↓rsDec3_0, tick_eq, tickV_eq, ne_eq, Int.reduceAdd, Int.reduceSub, Int.reduceMul, Int.reduceEq, Int.reduceLT, Int.reduceLE, Int.reduceToNat, Nat.reduceMul, Nat.reduceAdd, Nat.reduceSub, ←decide_not, hc1, efr, k9, f9, k1, k3d]
    refine slices_Clip_graph_Node_graph_Node_call (Gives.to (ClipGN_spec hnc) fun x4 E4 => ?_)
    have B4 := B3.ext E4 (by simp)
    have k4 := fun i => B4.cell (i := i)
    simp (disch := (first | omega | decide | (simp only [rsD] <;> omega) | fail)) only [↓rsC, rsK, rsL, ↓rsDec3_0, tick_eq, tickV_eq, ne_eq, Int.reduceAdd, Int.reduceSub, Int.reduceMul, Int.reduceEq, Int.reduceLT, Int.reduceLE, Int.reduceToNat, Nat.reduceMul, Nat.reduceAdd, Nat.reduceSub, ←decide_not, hc1, efr, k9, f9, k1, k3d, k4]
    refine slices_Clip_graph_Root_graph_Root_call (Gives.to (ClipGR_spec hrc) fun x5 E5 => ?_)
    have B5 := B4.ext E5 (by simp)
    have k5 := fun i => B5.cell (i := i)
    have f5 := fun i => B5.frozen (i := i)
    have E15 := E3d.trans (E4.trans E5)
    have B05 := (B0y.ext F ne0).ext E15 (by simp)
    have k05 := fun i => B05.cell (i := i)
    have f05 := fun i => B05.frozen (i := i)
    have ne0x : g0 ≠ hx := by omega
    simp (disch := (first | omega | decide | (simp only [rsD] <;> omega) | fail)) only [↓rsC, rsK, rsL, ↓rsDec3_0, tick_eq, tickV_eq, ne_eq, Int.reduceAdd, Int.reduceSub, Int.reduceMul, Int.reduceEq, Int.reduceLT, Int.reduceLE, Int.reduceToNat, Nat.reduceMul, Nat.reduceAdd, Nat.reduceSub, ←decide_not, hc1, efr, k9, f9, k1, k3d, k4, k5, f5, k05, f05, ne0x]
    have FE : Ext [g0, hx] x5 ((((x5.setCell ⟨hx, 0, none⟩ (.slice na ns.length ns.length)).setCell ⟨hx, 1, none⟩ (.slice ra (decRs l os).length (decRs l os).length)).setCell ⟨g0, 0, none⟩ (.slice na ns.length ns.length)).setCell ⟨g0, 1, none⟩ (.slice ra (decRs l os).length (decRs l os).length)) := ((((Ext.refl _ _).set' (.inl (by simp))).set' (.inl (by simp))).set' (.inl (by simp))).set' (.inl (by simp))
    have Fw := (fresh F).trans E15
    have zX : w.heap.size ≤ hx := by have := X10.size; omega
    refine ⟨(((Fw.set' (.inr zX)).set' (.inr zX)).set' (.inr zw)).set' (.inr zw), .inl ⟨os, na, ns.length, ra, (decRs l os).length, ns, DO, hns, rfl, ?_⟩⟩
    have nna : ∀ b o, na = some ⟨b, o, none⟩ → b ∉ [g0, hx] := fun b o hb hm => by
      have := U b (by rw [hb]; simp [blk, Value.ownBlock])
      simp only [List.mem_cons, List.not_mem_nil, or_false] at hm
      omega
    have nra : ∀ b o, ra = some ⟨b, o, none⟩ → b ∉ [g0, hx] := fun b o hb hm => by
      have := U2 b (by rw [hb]; simp [blk, Value.ownBlock])
      simp only [List.mem_cons, List.not_mem_nil, or_false] at hm
      omega
    refine ⟨(Rn.ext0 E15).ext FE nna, Nat.le_refl _, fun e => by have := hnn e; omega, (Rr.ext0 E15).ext FE nra, Nat.le_refl _, fun e => by have := hrn e; omega, fun q hq => ?_⟩
    have hA := A q hq
    have hk := hA.1.ext0 E15
    have hA2 := hA.2.cons hk B05 (by simp)
    exact hk.ext (FE.more (by simp)) hA2
end Go.Proofs.Ytdpmidgeipibbaa
end
section
set_option linter.unusedVariables false
set_option linter.unusedSimpArgs false
set_option maxHeartbeats 4000000
namespace Go.Proofs.Ytdpmidgeipibbaa
open Go.Sh Go.RowKit

theorem strOf_inj {p q : List (BitVec 8)} : strOf p = strOf q ↔ p = q := by
  constructor
  · intro h
    have h2 : (strOf p).toList = (strOf q).toList := by rw [h]
    rw [strOf_list, strOf_list] at h2
    have := congrArg (List.map UInt8.toBitVec) h2
    rw [List.map_map, List.map_map] at this
    have e : (UInt8.toBitVec ∘ UInt8.ofBitVec) = id := rfl
    rw [e, List.map_id, List.map_id] at this
    exact this
  · intro h; rw [h]
abbrev rsEqg1_0 := (And.intro @xu8_add (And.intro @xu8_neq (And.intro @xu8_lss (And.intro @xu16_add (And.intro @xu16_neq (And.intro @xu16_lss (And.intro @xu32_add (And.intro @xu32_neq (And.intro @xu32_lss (And.intro @xu64_add (And.intro @xu64_neq (And.intro @xu64_lss (And.intro @xi64_lss (And.intro @xi64_neq (And.intro @xi64_neg (And.intro @ld_3 
  (And.intro @ia_66 @ln_66)))))))))))))))))
theorem EqualI_spec {w : World} {p q : List Int} {a a' : Option Addr} {c c' : Nat} (h : RowAt w a (its p)) (h' : RowAt w a' (its q)) (hp : p.length ≤ 1000000) (hq : q.length ≤ 1000000) : Gives Try.prog n_slices_Equal_int_int #[.slice a p.length c, .slice a' q.length c'] w (.bool (decide (p = q))) := by
  refine slices_Equal_int_int_of ?_
  unfold slices_Equal_int_int
  by_cases hne : p.length = q.length
  case neg =>
    have : ¬ ((p.length : Int) = q.length) := by omega
    simp (disch := (first | omega | decide | (simp only [rsD] <;> omega) | fail)) only [↓rsC, rsK, rsL, ↓rsEqg1_0, tick_eq, tickV_eq, ne_eq, Int.reduceAdd, Int.reduceSub, Int.reduceMul, Int.reduceEq, Int.reduceLT, Int.reduceLE, Int.reduceToNat, Nat.reduceMul, Nat.reduceAdd, Nat.reduceSub, ←decide_not, eq_self]
    exact ⟨by rw [decide_eq_false (fun e => hne (by rw [e]))], Ext.refl _ _⟩
  have : ((p.length : Int) = q.length) := by omega
  simp (disch := (first | omega | decide | (simp only [rsD] <;> omega) | fail)) only [↓rsC, rsK, rsL, ↓rsEqg1_0, tick_eq, tickV_eq, ne_eq, Int.reduceAdd, Int.reduceSub, Int.reduceMul, Int.reduceEq, Int.reduceLT, Int.reduceLE, Int.reduceToNat, Nat.reduceMul, Nat.reduceAdd, Nat.reduceSub, ←decide_not, eq_self]
  refine xLoop_n p.length (fun j => [i64 (j : Int)]) (fun j w' => Ext [] w w' ∧ ∀ i (hi : i < p.length) (hi' : i < q.length), i < j → p[i] = q[i]) rfl ⟨Ext.refl _ _, by intro i _ _ hi; omega⟩ ?_ ?_
  · rintro j hj u w1 hu ⟨F, hq2⟩ nxt hn
    simp only [List.map_cons, List.map_nil, List.cons.injEq, and_true] at hu
    rw [hu]
    unfold slices_Equal_int_int_l1
    have F1 := F.trans (Ext.drew [] w1)
    have hj' : j < q.length := by omega
    obtain ⟨b, o, rfl, hlt, hc⟩ := its_at (h.ext0 F1) hj
    obtain ⟨b', o', rfl, hlt', hc'⟩ := its_at (h'.ext0 F1) hj'
    by_cases e : p[j] = q[j]
    · have hnx : Ext [] w w1.drew ∧ ∀ i (hi : i < p.length) (hi' : i < q.length), i < j + 1 → p[i] = q[i] := ⟨F1, fun i hi hi' h3 => by
        by_cases ei : i = j
        · subst ei; exact e
        · exact hq2 i hi hi' (by omega)⟩
      rw [e] at hc
      generalize q[j] = z at *
      simp (disch := (first | omega | decide | (simp only [rsD] <;> omega) | fail)) only [↓rsC, rsK, rsL, ↓rsEqg1_0, tick_eq, tickV_eq, ne_eq, Int.reduceAdd, Int.reduceSub, Int.reduceMul, Int.reduceEq, Int.reduceLT, Int.reduceLE, Int.reduceToNat, Nat.reduceMul, Nat.reduceAdd, Nat.reduceSub, ←decide_not, hc, hc']
      exact hn _ hnx
    · have hno : ¬ p = q := fun e2 => e (by subst e2; rfl)
      generalize q[j] = z at *
      generalize p[j] = y at *
      simp (disch := (first | omega | decide | (simp only [rsD] <;> omega) | fail)) only [↓rsC, rsK, rsL, ↓rsEqg1_0, tick_eq, tickV_eq, ne_eq, Int.reduceAdd, Int.reduceSub, Int.reduceMul, Int.reduceEq, Int.reduceLT, Int.reduceLE, Int.reduceToNat, Nat.reduceMul, Nat.reduceAdd, Nat.reduceSub, ←decide_not, hc, hc', e]
      exact ⟨by rw [decide_eq_false hno], F1⟩
  · rintro u w1 hu ⟨F, hq2⟩ nxt
    simp only [List.map_cons, List.map_nil, List.cons.injEq, and_true] at hu
    rw [hu]
    unfold slices_Equal_int_int_l1
    simp (disch := (first | omega | decide | (simp only [rsD] <;> omega) | fail)) only [↓rsC, rsK, rsL, ↓rsEqg1_0, tick_eq, tickV_eq, ne_eq, Int.reduceAdd, Int.reduceSub, Int.reduceMul, Int.reduceEq, Int.reduceLT, Int.reduceLE, Int.reduceToNat, Nat.reduceMul, Nat.reduceAdd, Nat.reduceSub, ←decide_not, eq_self]
    refine ⟨?_, F⟩
    rw [decide_eq_true]
    exact List.ext_getElem hne fun i h1 h2 => hq2 i h1 h2 h1
abbrev rsEqg1_1 := (And.intro @xu8_eql (And.intro @xu16_eql (And.intro @xu32_eql (And.intro @xu64_eql @xi64_eql))))
theorem EqualB_spec {w : World} {p q : List (BitVec 8)} {a a' : Option Addr} {c c' : Nat} (h : RowAt w a (bys p)) (h' : RowAt w a' (bys q)) (hp : p.length ≤ 1000000) (hq : q.length ≤ 1000000) : Gives Try.prog n_bytes_Equal #[.slice a p.length c, .slice a' q.length c'] w (.bool (decide (p = q))) := by
  refine bytes_Equal_of ?_
  unfold bytes_Equal
  have hcv := fun (K : K1) => xConv_str (P := Try.prog) (w := w) (s := 70) (d := 9) (e := 5) (a := a) (n := p.length) (c := c) (l := p) (K := K) (by kernel_rfl) (by kernel_rfl) (by kernel_rfl) rfl h
  have hcv' := fun (K : K1) => xConv_str (P := Try.prog) (w := w) (s := 70) (d := 9) (e := 5) (a := a') (n := q.length) (c := c') (l := q) (K := K) (by kernel_rfl) (by kernel_rfl) (by kernel_rfl) rfl h'
  simp (disch := (first | omega | decide | (simp only [rsD] <;> omega) | fail)) only [↓rsC, rsK, rsL, ↓rsEqg1_1, tick_eq, tickV_eq, ne_eq, Int.reduceAdd, Int.reduceSub, Int.reduceMul, Int.reduceEq, Int.reduceLT, Int.reduceLE, Int.reduceToNat, Nat.reduceMul, Nat.reduceAdd, Nat.reduceSub, ←decide_not, hcv, hcv']
  exact ⟨by rw [decide_eq_decide.2 strOf_inj], Ext.refl _ _⟩
abbrev rsEqg1_2 := (And.intro @ld_66 (And.intro @ld_70 (And.intro @fa_72_0 @fa_72_1)))
theorem eqN_spec {w : World} {x y : GN} (hx : NOk w x) (hy : NOk w y) (lx : x.p.length ≤ 1000000 ∧ x.d.length ≤ 1000000) (ly : y.p.length ≤ 1000000 ∧ y.d.length ≤ 1000000) : Gives Try.prog n_graph_Equal_1 #[.agg (gnC x).toArray, .agg (gnC y).toArray] w (.bool (decide (x.p = y.p ∧ x.d = y.d))) := by
  refine graph_Equal_1_of ?_
  unfold graph_Equal_1
  have bx : ∀ (z : GN) (y : World) (K : K1), xBox Try.prog 72 (.agg (gnC z).toArray) y K = K (ptr y.heap.size) (y.alloc (.cells (gnC z).toArray 72)) := fun z y K => xBox_r
  rw [bx, bx]
  have B1 : Blk (w.alloc (.cells (gnC x).toArray 72)) w.heap.size 72 (gnC x) := Blk.at rfl
  have X1 : Ext [] w (w.alloc (.cells (gnC x).toArray 72)) := Ext.alloc _ _ _
  generalize w.alloc (.cells (gnC x).toArray 72) = y1 at *
  generalize w.heap.size = g1 at *
  have B2 : Blk (y1.alloc (.cells (gnC y).toArray 72)) y1.heap.size 72 (gnC y) := Blk.at rfl
  have X2 : Ext [] y1 (y1.alloc (.cells (gnC y).toArray 72)) := Ext.alloc _ _ _
  generalize y1.alloc (.cells (gnC y).toArray 72) = y2 at *
  generalize y1.heap.size = g2 at *
  have B12 := B1.ext X2 (by simp)
  have X12 := X1.trans X2
  have k1 := fun i => B12.cell (i := i)
  have k2 := fun i => B2.cell (i := i)
  have hx2 := hx.ext0 X12
  have hy2 := hy.ext0 X12
  simp (disch := (first | omega | decide | (simp only [rsD] <;> omega) | fail)) only [↓rsC, rsK, rsL, ↓rsEqg1_2, tick_eq, tickV_eq, ne_eq, Int.reduceAdd, Int.reduceSub, Int.reduceMul, Int.reduceEq, Int.reduceLT, Int.reduceLE, Int.reduceToNat, Nat.reduceMul, Nat.reduceAdd, Nat.reduceSub, ←decide_not, k1, k2]
  refine slices_Equal_int_int_call (Gives.to (EqualI_spec hx2.pr hy2.pr lx.1 ly.1) fun y3 F3 => ?_)
  have k3 := fun i => (B12.ext F3 (by simp)).cell (i := i)
  have k4 := fun i => (B2.ext F3 (by simp)).cell (i := i)
  by_cases hp : x.p = y.p
  · rw [decide_eq_true hp]
    simp (disch := (first | omega | decide | (simp only [rsD] <;> omega) | fail)) only [↓rsC, rsK, rsL, ↓rsEqg1_2, tick_eq, tickV_eq, ne_eq, Int.reduceAdd, Int.reduceSub, Int.reduceMul, Int.reduceEq, Int.reduceLT, Int.reduceLE, Int.reduceToNat, Nat.reduceMul, Nat.reduceAdd, Nat.reduceSub, ←decide_not, k1, k2, k3, k4]
    refine bytes_Equal_call (Gives.to (EqualB_spec (hx2.dr.ext0 F3) (hy2.dr.ext0 F3) lx.2 ly.2) fun y4 F4 => ?_)
    simp (disch := (first | omega | decide | (simp only [rsD] <;> omega) | fail)) only [↓rsC, rsK, rsL, ↓rsEqg1_2, tick_eq, tickV_eq, ne_eq, Int.reduceAdd, Int.reduceSub, Int.reduceMul, Int.reduceEq, Int.reduceLT, Int.reduceLE, Int.reduceToNat, Nat.reduceMul, Nat.reduceAdd, Nat.reduceSub, ←decide_not, k1, k2, k3, k4]
    have e : decide (x.d = y.d) = decide (x.p = y.p ∧ x.d = y.d) := decide_eq_decide.2 ⟨fun h => ⟨hp, h⟩, fun h => h.2⟩
    rw [e]
    exact ⟨rfl, X12.trans (F3.trans F4)⟩
  · rw [decide_eq_false hp]
    simp (disch := (first | omega | decide | (simp only [rsD] <;> omega) | fail)) only [↓rsC, rsK, rsL, ↓rsEqg1_2, tick_eq, tickV_eq, ne_eq, Int.reduceAdd, Int.reduceSub, Int.reduceMul, Int.reduceEq, Int.reduceLT, Int.reduceLE, Int.reduceToNat, Nat.reduceMul, Nat.reduceAdd, Nat.reduceSub, ←decide_not, k1, k2]
    exact ⟨by rw [decide_eq_false (fun h => hp h.1)], X12.trans F3⟩
abbrev SameN (ns ns' : List GN) : Prop := ns.map bare = ns'.map bare
abbrev SameG (ns : List GN) (rs : List GR) (ns' : List GN) (rs' : List GR) : Prop := SameN ns ns' ∧ rs = rs'
theorem bare_eq {x y : GN} : bare x = bare y ↔ x.p = y.p ∧ x.d = y.d := by
  constructor
  · intro h
    show (bare x).p = (bare y).p ∧ (bare x).d = (bare y).d
    rw [h]
    exact ⟨rfl, rfl⟩
  · rintro ⟨h1, h2⟩
    unfold bare
    rw [h1, h2]
theorem sameN_at {ns ns' : List GN} (hl : ns.length = ns'.length) : SameN ns ns' ↔ ∀ i (h : i < ns.length) (h' : i < ns'.length), ns[i].p = ns'[i].p ∧ ns[i].d = ns'[i].d := by
  constructor
  · intro h i h1 h2
    have : (ns.map bare)[i]? = (ns'.map bare)[i]? := by rw [h]
    rw [List.getElem?_map, List.getElem?_map, List.getElem?_eq_getElem h1, List.getElem?_eq_getElem h2] at this
    exact bare_eq.1 (Option.some.inj this)
  · intro h
    refine List.ext_getElem (by simpa using hl) fun i h1 h2 => ?_
    rw [List.getElem_map, List.getElem_map]
    exact bare_eq.2 (h i (by simpa using h1) (by simpa using h2))
abbrev BoolR (p : Prop) (w w' : World) (u : Value) : Prop := (∃ b : Bool, u = .bool b ∧ (b = true ↔ p)) ∧ Ext [] w w'
abbrev rsEqg1_3 := (And.intro @xu8_add (And.intro @xu8_com (And.intro @xu8_neq (And.intro @xu8_lss (And.intro @xu16_add (And.intro @xu16_com (And.intro @xu16_neq (And.intro @xu16_lss (And.intro @xu32_add (And.intro @xu32_com (And.intro @xu32_neq (And.intro @xu32_lss (And.intro @xu64_add (And.intro @xu64_com (And.intro @xu64_neq (And.intro @xu64_lss 
  (And.intro @xi64_lss (And.intro @xi64_neq (And.intro @xi64_neg (And.intro @ld_72 (And.intro @al_72 (And.intro @st_72 (And.intro @ia_22 @ln_22)))))))))))))))))))))))
theorem eqNs_spec {w : World} {ns ns' : List GN} {na na' : Option Addr} {nc nc' : Nat} (h : RowAt w na (ns.flatMap gnC)) (h' : RowAt w na' (ns'.flatMap gnC)) (hk : ∀ x ∈ ns, NOk w x) (hk' : ∀ x ∈ ns', NOk w x)
    (hf : ns.length ≤ 100000 ∧ ∀ x ∈ ns, x.p.length ≤ 1000000 ∧ x.d.length ≤ 1000000) (hf' : ns'.length ≤ 100000 ∧ ∀ x ∈ ns', x.p.length ≤ 1000000 ∧ x.d.length ≤ 1000000) :
    Yld Try.prog n_slices_EqualFunc_graph_Node_graph_Node_graph_Node_graph_Node #[.slice na ns.length nc, .slice na' ns'.length nc', .func (.func n_graph_Equal_1) #[] #[]] w fun u w' => BoolR (SameN ns ns') w w' u := by
  refine slices_EqualFunc_graph_Node_graph_Node_graph_Node_graph_Node_of ?_
  unfold slices_EqualFunc_graph_Node_graph_Node_graph_Node_graph_Node
  by_cases hne : ns.length = ns'.length
  case neg =>
    have : ¬ ((ns.length : Int) = ns'.length) := by omega
    simp (disch := (first | omega | decide | (simp only [rsD] <;> omega) | fail)) only [↓rsC, rsK, rsL, ↓rsEqg1_3, tick_eq, tickV_eq, ne_eq, Int.reduceAdd, Int.reduceSub, Int.reduceMul, Int.reduceEq, Int.reduceLT, Int.reduceLE, Int.reduceToNat, Nat.reduceMul, Nat.reduceAdd, Nat.reduceSub, ←decide_not, eq_self]
    exact ⟨⟨false, rfl, by simp; intro h; exact hne (by simpa using congrArg List.length h)⟩, Ext.refl _ _⟩
  have : ((ns.length : Int) = ns'.length) := by omega
  simp (disch := (first | omega | decide | (simp only [rsD] <;> omega) | fail)) only [↓rsC, rsK, rsL, ↓rsEqg1_3, tick_eq, tickV_eq, ne_eq, Int.reduceAdd, Int.reduceSub, Int.reduceMul, Int.reduceEq, Int.reduceLT, Int.reduceLE, Int.reduceToNat, Nat.reduceMul, Nat.reduceAdd, Nat.reduceSub, ←decide_not, eq_self]
  refine xLoop_n ns.length (fun j => [i64 (j : Int)]) (fun j w' => Ext [] w w' ∧ ∀ i (hi : i < ns.length) (hi' : i < ns'.length), i < j → ns[i].p = ns'[i].p ∧ ns[i].d = ns'[i].d) rfl ⟨Ext.refl _ _, by intro i _ _ hi; omega⟩ ?_ ?_
  · rintro j hj u w1 hu ⟨F, hq2⟩ nxt hn
    simp only [List.map_cons, List.map_nil, List.cons.injEq, and_true] at hu
    rw [hu]
    have hj' : j < ns'.length := by omega
    obtain ⟨b, o, rfl, hlt, c1, c2⟩ := gn_at (h.ext0 F) hj
    have m1 := List.getElem_mem hj
    have m2 := List.getElem_mem hj'
    have x1 := (hk _ m1).ext0 F
    have x2 := (hk' _ m2).ext0 F
    have l1 := hf.2 _ m1
    have l2 := hf'.2 _ m2
    unfold slices_EqualFunc_graph_Node_graph_Node_graph_Node_graph_Node_l1
    simp (disch := (first | omega | decide | (simp only [rsD] <;> omega) | fail)) only [↓rsC, rsK, rsL, ↓rsEqg1_3, tick_eq, tickV_eq, ne_eq, Int.reduceAdd, Int.reduceSub, Int.reduceMul, Int.reduceEq, Int.reduceLT, Int.reduceLE, Int.reduceToNat, Nat.reduceMul, Nat.reduceAdd, Nat.reduceSub, ←decide_not, c1, c2]
    have B1 : Blk (w1.alloc (.cells (gnC ns[j]).toArray 72)) w1.heap.size 72 (gnC ns[j]) := Blk.at rfl
    have X1 : Ext [] w1 (w1.alloc (.cells (gnC ns[j]).toArray 72)) := Ext.alloc _ _ _
    obtain ⟨bb, oo, rfl, hlt2, c3, c4⟩ := gn_at (h'.ext0 (F.trans X1)) hj'
    have x1 := x1.ext0 X1
    have x2 := x2.ext0 X1
    have F1 := F.trans X1
    generalize w1.alloc (.cells (gnC ns[j]).toArray 72) = y1 at *
    generalize w1.heap.size = g1 at *
    simp (disch := (first | omega | decide | (simp only [rsD] <;> omega) | fail)) only [↓rsC, rsK, rsL, ↓rsEqg1_3, tick_eq, tickV_eq, ne_eq, Int.reduceAdd, Int.reduceSub, Int.reduceMul, Int.reduceEq, Int.reduceLT, Int.reduceLE, Int.reduceToNat, Nat.reduceMul, Nat.reduceAdd, Nat.reduceSub, ←decide_not, c1, c2, c3, c4]
    have B2 : Blk (y1.alloc (.cells (gnC ns'[j]).toArray 72)) y1.heap.size 72 (gnC ns'[j]) := Blk.at rfl
    have X2 : Ext [] y1 (y1.alloc (.cells (gnC ns'[j]).toArray 72)) := Ext.alloc _ _ _
    have x1 := x1.ext0 X2
    have x2 := x2.ext0 X2
    have F2 := F1.trans X2
    have B12 := B1.ext X2 (by simp)
    generalize y1.alloc (.cells (gnC ns'[j]).toArray 72) = y2 at *
    generalize y1.heap.size = g2 at *
    have k1 := fun i => B12.cell (i := i)
    have k2 := fun i => B2.cell (i := i)
    simp (disch := (first | omega | decide | (simp only [rsD] <;> omega) | fail)) only [↓rsC, rsK, rsL, ↓rsEqg1_3, tick_eq, tickV_eq, ne_eq, Int.reduceAdd, Int.reduceSub, Int.reduceMul, Int.reduceEq, Int.reduceLT, Int.reduceLE, Int.reduceToNat, Nat.reduceMul, Nat.reduceAdd, Nat.reduceSub, ←decide_not, c1, c2, c3, c4, k1, k2]
    refine graph_Equal_1_call (Gives.to (eqN_spec x1 x2 l1 l2) fun y3 F3 => ?_)
    by_cases he : ns[j].p = ns'[j].p ∧ ns[j].d = ns'[j].d
    · rw [decide_eq_true he]
      simp (disch := (first | omega | decide | (simp only [rsD] <;> omega) | fail)) only [↓rsC, rsK, rsL, ↓rsEqg1_3, tick_eq, tickV_eq, ne_eq, Int.reduceAdd, Int.reduceSub, Int.reduceMul, Int.reduceEq, Int.reduceLT, Int.reduceLE, Int.reduceToNat, Nat.reduceMul, Nat.reduceAdd, Nat.reduceSub, ←decide_not, c1, c2, c3, c4, k1, k2]
      refine hn _ ⟨F2.trans F3, fun i hi hi' h3 => ?_⟩
      by_cases ei : i = j
      · subst ei; exact he
      · exact hq2 i hi hi' (by omega)
    · rw [decide_eq_false he]
      simp (disch := (first | omega | decide | (simp only [rsD] <;> omega) | fail)) only [↓rsC, rsK, rsL, ↓rsEqg1_3, tick_eq, tickV_eq, ne_eq, Int.reduceAdd, Int.reduceSub, Int.reduceMul, Int.reduceEq, Int.reduceLT, Int.reduceLE, Int.reduceToNat, Nat.reduceMul, Nat.reduceAdd, Nat.reduceSub, ←decide_not, c1, c2, c3, c4, k1, k2]
      exact ⟨⟨false, rfl, by simp only [Bool.false_eq_true, false_iff]; exact fun h => he ((sameN_at hne).1 h j hj hj')⟩, F2.trans F3⟩
  · rintro u w1 hu ⟨F, hq2⟩ nxt
    simp only [List.map_cons, List.map_nil, List.cons.injEq, and_true] at hu
    rw [hu]
    unfold slices_EqualFunc_graph_Node_graph_Node_graph_Node_graph_Node_l1
    simp (disch := (first | omega | decide | (simp only [rsD] <;> omega) | fail)) only [↓rsC, rsK, rsL, ↓rsEqg1_3, tick_eq, tickV_eq, ne_eq, Int.reduceAdd, Int.reduceSub, Int.reduceMul, Int.reduceEq, Int.reduceLT, Int.reduceLE, Int.reduceToNat, Nat.reduceMul, Nat.reduceAdd, Nat.reduceSub, ←decide_not, eq_self]
    exact ⟨⟨true, rfl, by simp only [true_iff]; exact (sameN_at hne).2 fun i h1 h2 => hq2 i h1 h2 h1⟩, F⟩
end Go.Proofs.Ytdpmidgeipibbaa
end
section
set_option linter.unusedVariables false
set_option linter.unusedSimpArgs false
set_option maxHeartbeats 4000000
namespace Go.Proofs.Ytdpmidgeipibbaa
open Go.Sh Go.RowKit

theorem rs_ext {rs rs' : List GR} (hl : rs.length = rs'.length) (h : ∀ i (h1 : i < rs.length) (h2 : i < rs'.length), rs[i].s = rs'[i].s ∧ rs[i].to = rs'[i].to) : rs = rs' := by
  refine List.ext_getElem hl fun i h1 h2 => ?_
  obtain ⟨e1, e2⟩ := h i h1 h2
  generalize rs[i] = x at *
  generalize rs'[i] = y at *
  cases x
  cases y
  simp only at e1 e2
  rw [e1, e2]
abbrev rsEqg2_0 := (And.intro @xu8_add (And.intro @xu8_neq (And.intro @xu8_lss (And.intro @xu16_add (And.intro @xu16_neq (And.intro @xu16_lss (And.intro @xu32_add (And.intro @xu32_neq (And.intro @xu32_lss (And.intro @xu64_add (And.intro @xu64_neq (And.intro @xu64_lss (And.intro @xi64_lss (And.intro @xi64_neq (And.intro @xi64_neg (And.intro @ld_74 
  (And.intro @ns_74 (And.intro @ia_23 @ln_23))))))))))))))))))
theorem eqRs_spec {w : World} {rs rs' : List GR} {ra ra' : Option Addr} {rc rc' : Nat} (h : RowAt w ra (rs.flatMap grC)) (h' : RowAt w ra' (rs'.flatMap grC)) (hf : rs.length ≤ 100000) (hf' : rs'.length ≤ 100000) :
    Yld Try.prog n_slices_Equal_graph_Root_graph_Root #[.slice ra rs.length rc, .slice ra' rs'.length rc'] w fun u w' => BoolR (rs = rs') w w' u := by
  refine slices_Equal_graph_Root_graph_Root_of ?_
  unfold slices_Equal_graph_Root_graph_Root
  by_cases hne : rs.length = rs'.length
  case neg =>
    have : ¬ ((rs.length : Int) = rs'.length) := by omega
    simp (disch := (first | omega | decide | (simp only [rsD] <;> omega) | fail)) only [↓rsC, rsK, rsL, ↓rsEqg2_0, tick_eq, tickV_eq, ne_eq, Int.reduceAdd, Int.reduceSub, Int.reduceMul, Int.reduceEq, Int.reduceLT, Int.reduceLE, Int.reduceToNat, Nat.reduceMul, Nat.reduceAdd, Nat.reduceSub, ←decide_not, eq_self]
    exact ⟨⟨false, rfl, by simp; intro h; exact hne (by rw [h])⟩, Ext.refl _ _⟩
  have : ((rs.length : Int) = rs'.length) := by omega
  simp (disch := (first | omega | decide | (simp only [rsD] <;> omega) | fail)) only [↓rsC, rsK, rsL, ↓rsEqg2_0, tick_eq, tickV_eq, ne_eq, Int.reduceAdd, Int.reduceSub, Int.reduceMul, Int.reduceEq, Int.reduceLT, Int.reduceLE, Int.reduceToNat, Nat.reduceMul, Nat.reduceAdd, Nat.reduceSub, ←decide_not, eq_self]
  refine xLoop_n rs.length (fun j => [i64 (j : Int)]) (fun j w' => Ext [] w w' ∧ ∀ i (hi : i < rs.length) (hi' : i < rs'.length), i < j → rs[i].s = rs'[i].s ∧ rs[i].to = rs'[i].to) rfl ⟨Ext.refl _ _, by intro i _ _ hi; omega⟩ ?_ ?_
  · rintro j hj u w1 hu ⟨F, hq2⟩ nxt hn
    simp only [List.map_cons, List.map_nil, List.cons.injEq, and_true] at hu
    rw [hu]
    have hj' : j < rs'.length := by omega
    have F1 := F.trans (Ext.drew [] w1)
    obtain ⟨b, o, rfl, hlt, c1, c2⟩ := gr_at (h.ext0 F1) hj
    obtain ⟨bb, oo, rfl, hlt2, c3, c4⟩ := gr_at (h'.ext0 F1) hj'
    unfold slices_Equal_graph_Root_graph_Root_l1
    by_cases he : rs[j].s = rs'[j].s ∧ rs[j].to = rs'[j].to
    · have hnx : ∀ i (hi : i < rs.length) (hi' : i < rs'.length), i < j + 1 → rs[i].s = rs'[i].s ∧ rs[i].to = rs'[i].to := fun i hi hi' h3 => by
        by_cases ei : i = j
        · subst ei; exact he
        · exact hq2 i hi hi' (by omega)
      rw [he.1] at c1
      rw [he.2] at c2
      generalize rs'[j] = y at *
      simp (disch := (first | omega | decide | (simp only [rsD] <;> omega) | fail)) only [↓rsC, rsK, rsL, ↓rsEqg2_0, tick_eq, tickV_eq, ne_eq, Int.reduceAdd, Int.reduceSub, Int.reduceMul, Int.reduceEq, Int.reduceLT, Int.reduceLE, Int.reduceToNat, Nat.reduceMul, Nat.reduceAdd, Nat.reduceSub, ←decide_not, c1, c2, c3, c4]
      exact hn _ ⟨F1, hnx⟩
    · have hno : ¬ rs = rs' := fun e2 => he (by subst e2; exact ⟨rfl, rfl⟩)
      have hb : (decide (strOf rs[j].s = strOf rs'[j].s) && decide (rs[j].to = rs'[j].to)) = false := by
        rw [Bool.and_eq_false_iff, decide_eq_false_iff_not, decide_eq_false_iff_not, strOf_inj]
        exact Classical.not_and_iff_not_or_not.1 he
      simp (disch := (first | omega | decide | (simp only [rsD] <;> omega) | fail)) only [↓rsC, rsK, rsL, ↓rsEqg2_0, tick_eq, tickV_eq, ne_eq, Int.reduceAdd, Int.reduceSub, Int.reduceMul, Int.reduceEq, Int.reduceLT, Int.reduceLE, Int.reduceToNat, Nat.reduceMul, Nat.reduceAdd, Nat.reduceSub, ←decide_not, c1, c2, c3, c4, hb]
      exact ⟨⟨false, rfl, by simpa using hno⟩, F1⟩
  · rintro u w1 hu ⟨F, hq2⟩ nxt
    simp only [List.map_cons, List.map_nil, List.cons.injEq, and_true] at hu
    rw [hu]
    unfold slices_Equal_graph_Root_graph_Root_l1
    simp (disch := (first | omega | decide | (simp only [rsD] <;> omega) | fail)) only [↓rsC, rsK, rsL, ↓rsEqg2_0, tick_eq, tickV_eq, ne_eq, Int.reduceAdd, Int.reduceSub, Int.reduceMul, Int.reduceEq, Int.reduceLT, Int.reduceLE, Int.reduceToNat, Nat.reduceMul, Nat.reduceAdd, Nat.reduceSub, ←decide_not, eq_self]
    exact ⟨⟨true, rfl, by simp only [true_iff]; exact rs_ext hne fun i h1 h2 => hq2 i h1 h2 h1⟩, F⟩
abbrev rsEqg2_1 := (And.intro @ld_22 (And.intro @ld_23 (And.intro @fa_25_0 @fa_25_1)))
theorem GEqual_spec {w : World} {ns ns' : List GN} {rs rs' : List GR} {na na' ra ra' : Option Addr} {nc nc' rc rc' : Nat} (h : GIs w na nc ra rc ns rs) (h' : GIs w na' nc' ra' rc' ns' rs') (hf : FewH ns rs) (hf' : FewH ns' rs') :
    Yld Try.prog n_graph_Equal #[gV na nc ra rc ns rs, gV na' nc' ra' rc' ns' rs'] w fun u w' => BoolR (SameG ns rs ns' rs') w w' u := by
  have few : ∀ {ns : List GN} {rs : List GR}, FewH ns rs → ns.length ≤ 100000 ∧ ∀ x ∈ ns, x.p.length ≤ 1000000 ∧ x.d.length ≤ 1000000 := fun hf => ⟨by have := hf.n; omega, fun x hx => by have := hf.x x hx; omega⟩
  refine graph_Equal_of ?_
  unfold graph_Equal
  have bx : ∀ (na : Option Addr) (nc : Nat) (ra : Option Addr) (rc : Nat) (ns : List GN) (rs : List GR) (y : World) (K : K1), xBox Try.prog 25 (gV na nc ra rc ns rs) y K = K (ptr y.heap.size) (y.alloc (.cells #[.slice na ns.length nc, .slice ra rs.length rc] 25)) := fun _ _ _ _ _ _ y K => xBox_r
  rw [bx, bx]
  have B1 : Blk (w.alloc (.cells #[.slice na ns.length nc, .slice ra rs.length rc] 25)) w.heap.size 25 [.slice na ns.length nc, .slice ra rs.length rc] := Blk.at rfl
  have X1 : Ext [] w (w.alloc (.cells #[.slice na ns.length nc, .slice ra rs.length rc] 25)) := Ext.alloc _ _ _
  generalize w.alloc (.cells #[.slice na ns.length nc, .slice ra rs.length rc] 25) = y1 at *
  generalize w.heap.size = g1 at *
  have B2 : Blk (y1.alloc (.cells #[.slice na' ns'.length nc', .slice ra' rs'.length rc'] 25)) y1.heap.size 25 [.slice na' ns'.length nc', .slice ra' rs'.length rc'] := Blk.at rfl
  have X2 : Ext [] y1 (y1.alloc (.cells #[.slice na' ns'.length nc', .slice ra' rs'.length rc'] 25)) := Ext.alloc _ _ _
  generalize y1.alloc (.cells #[.slice na' ns'.length nc', .slice ra' rs'.length rc'] 25) = y2 at *
  generalize y1.heap.size = g2 at *
  have X12 := X1.trans X2
  have B12 := B1.ext X2 (by simp)
  have g := h.ext0 X12
  have g' := h'.ext0 X12
  have k1 := fun i => B12.cell (i := i)
  have k2 := fun i => B2.cell (i := i)
  simp (disch := (first | omega | decide | (simp only [rsD] <;> omega) | fail)) only [↓rsC, rsK, rsL, ↓rsEqg2_1, tick_eq, tickV_eq, ne_eq, Int.reduceAdd, Int.reduceSub, Int.reduceMul, Int.reduceEq, Int.reduceLT, Int.reduceLE, Int.reduceToNat, Nat.reduceMul, Nat.reduceAdd, Nat.reduceSub, ←decide_not, k1, k2]
  refine slices_EqualFunc_graph_Node_graph_Node_graph_Node_graph_Node_call (Yld.mono (eqNs_spec g.nr g'.nr g.ok g'.ok (few hf) (few hf')) ?_)
  rintro u y3 ⟨⟨b, rfl, hb⟩, F3⟩
  have k3 := fun i => (B12.ext F3 (by simp)).cell (i := i)
  have k4 := fun i => (B2.ext F3 (by simp)).cell (i := i)
  cases b with
  | false =>
    simp (disch := (first | omega | decide | (simp only [rsD] <;> omega) | fail)) only [↓rsC, rsK, rsL, ↓rsEqg2_1, tick_eq, tickV_eq, ne_eq, Int.reduceAdd, Int.reduceSub, Int.reduceMul, Int.reduceEq, Int.reduceLT, Int.reduceLE, Int.reduceToNat, Nat.reduceMul, Nat.reduceAdd, Nat.reduceSub, ←decide_not, k1, k2]
    exact ⟨⟨false, rfl, by simp only [Bool.false_eq_true, false_iff]; exact fun h => by have := hb.2 h.1; cases this⟩, X12.trans F3⟩
  | true =>
    simp (disch := (first | omega | decide | (simp only [rsD] <;> omega) | fail)) only [↓rsC, rsK, rsL, ↓rsEqg2_1, tick_eq, tickV_eq, ne_eq, Int.reduceAdd, Int.reduceSub, Int.reduceMul, Int.reduceEq, Int.reduceLT, Int.reduceLE, Int.reduceToNat, Nat.reduceMul, Nat.reduceAdd, Nat.reduceSub, ←decide_not, k1, k2, k3, k4]
    refine slices_Equal_graph_Root_graph_Root_call (Yld.mono (eqRs_spec (g.rr.ext0 F3) (g'.rr.ext0 F3) (by have := hf.r; omega) (by have := hf'.r; omega)) ?_)
    rintro u y4 ⟨⟨b, rfl, hb2⟩, F4⟩
    simp (disch := (first | omega | decide | (simp only [rsD] <;> omega) | fail)) only [↓rsC, rsK, rsL, ↓rsEqg2_1, tick_eq, tickV_eq, ne_eq, Int.reduceAdd, Int.reduceSub, Int.reduceMul, Int.reduceEq, Int.reduceLT, Int.reduceLE, Int.reduceToNat, Nat.reduceMul, Nat.reduceAdd, Nat.reduceSub, ←decide_not, k1, k2, k3, k4]
    exact ⟨⟨b, rfl, ⟨fun h => ⟨hb.1 rfl, hb2.1 h⟩, fun h => hb2.2 h.2⟩⟩, X12.trans (F3.trans F4)⟩
abbrev rsEqg2_2 := (And.intro @xu8_add (And.intro @xu8_neq (And.intro @xu8_lss (And.intro @xu16_add (And.intro @xu16_neq (And.intro @xu16_lss (And.intro @xu32_add (And.intro @xu32_neq (And.intro @xu32_lss (And.intro @xu64_add (And.intro @xu64_neq (And.intro @xu64_lss (And.intro @xi64_lss (And.intro @xi64_neq (And.intro @xi64_neg (And.intro @ld_69 
  (And.intro @ia_28 @ln_28)))))))))))))))))
theorem w23_spec {w : World} {p q : List (BitVec 64)} {a a' : Option Addr} {c c' : Nat} (h : RowAt w a (wrds p)) (h' : RowAt w a' (wrds q)) (hp : p.length ≤ 1000000) (hq : q.length ≤ 1000000) : Gives Try.prog n_loamlaw23_words #[.slice a p.length c, .slice a' q.length c'] w (.bool (decide (p = q))) := by
  refine loamlaw23_words_of ?_
  unfold loamlaw23_words
  by_cases hne : p.length = q.length
  case neg =>
    have : ¬ ((p.length : Int) = q.length) := by omega
    simp (disch := (first | omega | decide | (simp only [rsD] <;> omega) | fail)) only [↓rsC, rsK, rsL, ↓rsEqg2_2, tick_eq, tickV_eq, ne_eq, Int.reduceAdd, Int.reduceSub, Int.reduceMul, Int.reduceEq, Int.reduceLT, Int.reduceLE, Int.reduceToNat, Nat.reduceMul, Nat.reduceAdd, Nat.reduceSub, ←decide_not, eq_self]
    exact ⟨by rw [decide_eq_false (fun e => hne (by rw [e]))], Ext.refl _ _⟩
  have : ((p.length : Int) = q.length) := by omega
  simp (disch := (first | omega | decide | (simp only [rsD] <;> omega) | fail)) only [↓rsC, rsK, rsL, ↓rsEqg2_2, tick_eq, tickV_eq, ne_eq, Int.reduceAdd, Int.reduceSub, Int.reduceMul, Int.reduceEq, Int.reduceLT, Int.reduceLE, Int.reduceToNat, Nat.reduceMul, Nat.reduceAdd, Nat.reduceSub, ←decide_not, eq_self]
  refine xLoop_n p.length (fun j => [i64 (j : Int)]) (fun j w' => Ext [] w w' ∧ ∀ i, i < j → wat p i = wat q i) rfl ⟨Ext.refl _ _, by intro i hi; omega⟩ ?_ ?_
  · rintro j hj u w1 hu ⟨F, hq2⟩ nxt hn
    simp only [List.map_cons, List.map_nil, List.cons.injEq, and_true] at hu
    rw [hu]
    unfold loamlaw23_words_l1
    have F1 := F.trans (Ext.drew [] w1)
    obtain ⟨b, o, rfl, hlt, hc⟩ := row_w (h.ext0 F1) (i := j) (by omega)
    obtain ⟨b', o', rfl, hlt', hc'⟩ := row_w (h'.ext0 F1) (i := j) (by omega)
    by_cases e : wat p j = wat q j
    · rw [e] at hc
      simp (disch := (first | omega | decide | (simp only [rsD] <;> omega) | fail)) only [↓rsC, rsK, rsL, ↓rsEqg2_2, tick_eq, tickV_eq, ne_eq, Int.reduceAdd, Int.reduceSub, Int.reduceMul, Int.reduceEq, Int.reduceLT, Int.reduceLE, Int.reduceToNat, Nat.reduceMul, Nat.reduceAdd, Nat.reduceSub, ←decide_not, hc, hc']
      exact hn _ ⟨F1, fun i hi => by
        by_cases ei : i = j
        · subst ei; exact e
        · exact hq2 i (by omega)⟩
    · simp (disch := (first | omega | decide | (simp only [rsD] <;> omega) | fail)) only [↓rsC, rsK, rsL, ↓rsEqg2_2, tick_eq, tickV_eq, ne_eq, Int.reduceAdd, Int.reduceSub, Int.reduceMul, Int.reduceEq, Int.reduceLT, Int.reduceLE, Int.reduceToNat, Nat.reduceMul, Nat.reduceAdd, Nat.reduceSub, ←decide_not, hc, hc', e]
      exact ⟨by rw [decide_eq_false (fun e2 => e (by rw [e2]))], F1⟩
  · rintro u w1 hu ⟨F, hq2⟩ nxt
    simp only [List.map_cons, List.map_nil, List.cons.injEq, and_true] at hu
    rw [hu]
    unfold loamlaw23_words_l1
    simp (disch := (first | omega | decide | (simp only [rsD] <;> omega) | fail)) only [↓rsC, rsK, rsL, ↓rsEqg2_2, tick_eq, tickV_eq, ne_eq, Int.reduceAdd, Int.reduceSub, Int.reduceMul, Int.reduceEq, Int.reduceLT, Int.reduceLE, Int.reduceToNat, Nat.reduceMul, Nat.reduceAdd, Nat.reduceSub, ←decide_not, eq_self]
    refine ⟨?_, F⟩
    rw [decide_eq_true]
    refine List.ext_getElem hne fun i h1 h2 => ?_
    have := hq2 i h1
    unfold wat at this
    simpa [List.getD_eq_getElem?_getD, List.getElem?_eq_getElem h1, List.getElem?_eq_getElem h2] using this
end Go.Proofs.Ytdpmidgeipibbaa
end
section
set_option linter.unusedVariables false
set_option linter.unusedSimpArgs false
set_option maxHeartbeats 4000000
namespace Go.Proofs.Ytdpmidgeipibbaa
open Go.Sh Go.RowKit

abbrev rsEqg3_0 := (And.intro @xu8_add (And.intro @xu8_neq (And.intro @xu8_lss (And.intro @xu16_add (And.intro @xu16_neq (And.intro @xu16_lss (And.intro @xu32_add (And.intro @xu32_neq (And.intro @xu32_lss (And.intro @xu64_add (And.intro @xu64_neq (And.intro @xu64_lss (And.intro @xi64_lss (And.intro @xi64_neq (And.intro @xi64_neg (And.intro @ld_3 
  (And.intro @ld_9 (And.intro @ld_31 (And.intro @ld_32 (And.intro @ld_66 (And.intro @ld_70 (And.intro @ld_76 (And.intro @fa_34_0 (And.intro @fa_34_1 (And.intro @fa_76_0 (And.intro @fa_76_1 (And.intro @fa_78_0 (And.intro @fa_78_1 (And.intro @al_76 (And.intro @st_76 (And.intro @ia_31 (And.intro @ia_32 (And.intro @ia_66 (And.intro @ln_31 (And.intro @ln_32 @ln_66)))))))))))))))))))))))))))))))))))
theorem REqual_spec {w : World} {ns ns' : List GN} {rs rs' : List GR} {na na' ra ra' : Option Addr} {nc nc' rc rc' : Nat} (h : GIs w na nc ra rc ns rs) (h' : GIs w na' nc' ra' rc' ns' rs') (hf : FewH ns rs) (hf' : FewH ns' rs') :
    Yld Try.prog n_loamref17_Equal #[gV na nc ra rc ns rs, gV na' nc' ra' rc' ns' rs'] w fun u w' => BoolR (SameG ns rs ns' rs') w w' u := by
  have hn1 := hf.n
  have hn2 := hf'.n
  have hr1 := hf.r
  have hr2 := hf'.r
  refine loamref17_Equal_of ?_
  unfold loamref17_Equal
  have bx : ∀ (na : Option Addr) (nc : Nat) (ra : Option Addr) (rc : Nat) (ns : List GN) (rs : List GR) (y : World) (K : K1), xBox Try.prog 34 (gV na nc ra rc ns rs) y K = K (ptr y.heap.size) (y.alloc (.cells #[.slice na ns.length nc, .slice ra rs.length rc] 34)) := fun _ _ _ _ _ _ y K => xBox_r
  rw [bx, bx]
  have B1 : Blk (w.alloc (.cells #[.slice na ns.length nc, .slice ra rs.length rc] 34)) w.heap.size 34 [.slice na ns.length nc, .slice ra rs.length rc] := Blk.at rfl
  have X1 : Ext [] w (w.alloc (.cells #[.slice na ns.length nc, .slice ra rs.length rc] 34)) := Ext.alloc _ _ _
  generalize w.alloc (.cells #[.slice na ns.length nc, .slice ra rs.length rc] 34) = y1 at *
  generalize w.heap.size = g1 at *
  have B2 : Blk (y1.alloc (.cells #[.slice na' ns'.length nc', .slice ra' rs'.length rc'] 34)) y1.heap.size 34 [.slice na' ns'.length nc', .slice ra' rs'.length rc'] := Blk.at rfl
  have X2 : Ext [] y1 (y1.alloc (.cells #[.slice na' ns'.length nc', .slice ra' rs'.length rc'] 34)) := Ext.alloc _ _ _
  generalize y1.alloc (.cells #[.slice na' ns'.length nc', .slice ra' rs'.length rc'] 34) = y2 at *
  generalize y1.heap.size = g2 at *
  have X12 := X1.trans X2
  have B12 := B1.ext X2 (by simp)
  have G := h.ext0 X12
  have G' := h'.ext0 X12
  have k1 := fun i => B12.cell (i := i)
  have k2 := fun i => B2.cell (i := i)
  by_cases hnl : ns.length = ns'.length
  case neg =>
    have : ¬ ((ns.length : Int) = ns'.length) := by omega
    simp (disch := (first | omega | decide | (simp only [rsD] <;> omega) | fail)) only [↓rsC, rsK, rsL, ↓rsEqg3_0, tick_eq, tickV_eq, ne_eq, Int.reduceAdd, Int.reduceSub, Int.reduceMul, Int.reduceEq, Int.reduceLT, Int.reduceLE, Int.reduceToNat, Nat.reduceMul, Nat.reduceAdd, Nat.reduceSub, ←decide_not, k1, k2]
    exact ⟨⟨false, rfl, by simp only [Bool.false_eq_true, false_iff]; exact fun e => hnl (by simpa using congrArg List.length e.1)⟩, X12⟩
  by_cases hrl : rs.length = rs'.length
  case neg =>
    have : ¬ ((rs.length : Int) = rs'.length) := by omega
    have : ((ns.length : Int) = ns'.length) := by omega
    simp (disch := (first | omega | decide | (simp only [rsD] <;> omega) | fail)) only [↓rsC, rsK, rsL, ↓rsEqg3_0, tick_eq, tickV_eq, ne_eq, Int.reduceAdd, Int.reduceSub, Int.reduceMul, Int.reduceEq, Int.reduceLT, Int.reduceLE, Int.reduceToNat, Nat.reduceMul, Nat.reduceAdd, Nat.reduceSub, ←decide_not, k1, k2]
    exact ⟨⟨false, rfl, by simp only [Bool.false_eq_true, false_iff]; exact fun e => hrl (by rw [e.2])⟩, X12⟩
  have hnl' : ((ns.length : Int) = ns'.length) := by omega
  have hrl' : ((rs.length : Int) = rs'.length) := by omega
  simp (disch := (first | omega | decide | (simp only [rsD] <;> omega) | fail)) only [↓rsC, rsK, rsL, ↓rsEqg3_0, tick_eq, tickV_eq, ne_eq, Int.reduceAdd, Int.reduceSub, Int.reduceMul, Int.reduceEq, Int.reduceLT, Int.reduceLE, Int.reduceToNat, Nat.reduceMul, Nat.reduceAdd, Nat.reduceSub, ←decide_not, k1, k2]
  refine xLoop_n ns.length (fun j => [i64 (j : Int)]) (fun j w' => Ext [] y2 w' ∧ ∀ i (hi : i < ns.length) (hi' : i < ns'.length), i < j → ns[i].p = ns'[i].p ∧ ns[i].d = ns'[i].d) rfl ⟨Ext.refl _ _, by intro i _ _ hi; omega⟩ ?_ ?_
  · rintro j hj u w1 hu ⟨F, hq2⟩ nxt hn
    simp only [List.map_cons, List.map_nil, List.cons.injEq, and_true] at hu
    rw [hu]
    have hj' : j < ns'.length := by omega
    obtain ⟨b, o, rfl, hlt, c1, c2⟩ := gn_at (G.nr.ext0 F) hj
    have m1 := List.getElem_mem hj
    have m2 := List.getElem_mem hj'
    have x1 := (G.ok _ m1).ext0 F
    have x2 := (G'.ok _ m2).ext0 F
    have l1 := hf.x _ m1
    have l2 := hf'.x _ m2
    have diff : ∀ w' : World, Ext [] y2 w' → ¬ (ns[j].p = ns'[j].p ∧ ns[j].d = ns'[j].d) → BoolR (SameG ns rs ns' rs') w w' (.bool false) := fun w' F' hne => ⟨⟨false, rfl, by simp only [Bool.false_eq_true, false_iff]; exact fun e => hne ((sameN_at hnl).1 e.1 j hj hj')⟩, X12.trans F'⟩
    have kk1 := fun i => (B12.ext F (by simp)).cell (i := i)
    have zg2 := (B2.ext F (by simp)).lt
    have kk2 := fun i => (B2.ext F (by simp)).cell (i := i)
    unfold loamref17_Equal_l1
    simp (disch := (first | omega | decide | (simp only [rsD] <;> omega) | fail)) only [↓rsC, rsK, rsL, ↓rsEqg3_0, tick_eq, tickV_eq, ne_eq, Int.reduceAdd, Int.reduceSub, Int.reduceMul, Int.reduceEq, Int.reduceLT, Int.reduceLE, Int.reduceToNat, Nat.reduceMul, Nat.reduceAdd, Nat.reduceSub, ←decide_not, k1, k2, kk1, c1, c2, kk2]
    obtain ⟨bb, oo, rfl, hlt2, c3, c4⟩ := gn_at (G'.nr.ext0 F) hj'
    simp (disch := (first | omega | decide | (simp only [rsD] <;> omega) | fail)) only [↓rsC, rsK, rsL, ↓rsEqg3_0, tick_eq, tickV_eq, ne_eq, Int.reduceAdd, Int.reduceSub, Int.reduceMul, Int.reduceEq, Int.reduceLT, Int.reduceLE, Int.reduceToNat, Nat.reduceMul, Nat.reduceAdd, Nat.reduceSub, ←decide_not, k1, k2, kk1, c1, c2, kk2, c3, c4]
    have hq3 : (ns[j].p = ns'[j].p ∧ ns[j].d = ns'[j].d) → ∀ i (hi : i < ns.length) (hi' : i < ns'.length), i < j + 1 → ns[i].p = ns'[i].p ∧ ns[i].d = ns'[i].d := fun he i hi hi' h3 => by
      by_cases ei : i = j
      · subst ei; exact he
      · exact hq2 i hi hi' (by omega)
    generalize ns[j] = x at *
    generalize ns'[j] = y at *
    have B3 : Blk (w1.alloc (.cells #[.slice x.pa x.p.length x.pc, .slice x.da x.d.length x.dc] 76)) w1.heap.size 76 [.slice x.pa x.p.length x.pc, .slice x.da x.d.length x.dc] := Blk.at rfl
    have X3 : Ext [] w1 (w1.alloc (.cells #[.slice x.pa x.p.length x.pc, .slice x.da x.d.length x.dc] 76)) := Ext.alloc _ _ _
    generalize w1.alloc (.cells #[.slice x.pa x.p.length x.pc, .slice x.da x.d.length x.dc] 76) = y3 at *
    generalize w1.heap.size = g3 at *
    have B4 : Blk (y3.alloc (.cells #[.slice y.pa y.p.length y.pc, .slice y.da y.d.length y.dc] 76)) y3.heap.size 76 [.slice y.pa y.p.length y.pc, .slice y.da y.d.length y.dc] := Blk.at rfl
    have X4 : Ext [] y3 (y3.alloc (.cells #[.slice y.pa y.p.length y.pc, .slice y.da y.d.length y.dc] 76)) := Ext.alloc _ _ _
    generalize y3.alloc (.cells #[.slice y.pa y.p.length y.pc, .slice y.da y.d.length y.dc] 76) = y4 at *
    generalize y3.heap.size = g4 at *
    have X34 := X3.trans X4
    have F4 := F.trans X34
    have B34 := B3.ext X4 (by simp)
    have x1 := x1.ext0 X34
    have x2 := x2.ext0 X34
    have k3 := fun i => B34.cell (i := i)
    have k4 := fun i => B4.cell (i := i)
    by_cases hp : x.p.length = y.p.length
    case neg =>
      have hp' : ¬ ((x.p.length : Int) = y.p.length) := by omega
      simp (disch := (first | omega | decide | (simp only [rsD] <;> omega) | fail)) only [↓rsC, rsK, rsL, ↓rsEqg3_0, tick_eq, tickV_eq, ne_eq, Int.reduceAdd, Int.reduceSub, Int.reduceMul, Int.reduceEq, Int.reduceLT, Int.reduceLE, Int.reduceToNat, Nat.reduceMul, Nat.reduceAdd, Nat.reduceSub, ←decide_not, k1, k2, kk1, c1, c2, kk2, c3, c4, hp']
      exact diff y4 F4 fun e => hp (by rw [e.1])
    have hp' : ((x.p.length : Int) = y.p.length) := by omega
    have hcv := fun (K : K1) => xConv_str (P := Try.prog) (w := y4) (s := 70) (d := 9) (e := 5) (a := x.da) (n := x.d.length) (c := x.dc) (l := x.d) (K := K) (by kernel_rfl) (by kernel_rfl) (by kernel_rfl) rfl x1.dr
    have hcv' := fun (K : K1) => xConv_str (P := Try.prog) (w := y4) (s := 70) (d := 9) (e := 5) (a := y.da) (n := y.d.length) (c := y.dc) (l := y.d) (K := K) (by kernel_rfl) (by kernel_rfl) (by kernel_rfl) rfl x2.dr
    by_cases hd : x.d = y.d
    case neg =>
      have hd' : ¬ (strOf x.d = strOf y.d) := fun e => hd (strOf_inj.1 e)
      simp (disch := (first | omega | decide | (simp only [rsD] <;> omega) | fail)) only [↓rsC, rsK, rsL, ↓rsEqg3_0, tick_eq, tickV_eq, ne_eq, Int.reduceAdd, Int.reduceSub, Int.reduceMul, Int.reduceEq, Int.reduceLT, Int.reduceLE, Int.reduceToNat, Nat.reduceMul, Nat.reduceAdd, Nat.reduceSub, ←decide_not, k1, k2, kk1, c1, c2, kk2, c3, c4, hp', k3, k4, hcv, hcv', hd']
      exact diff y4 F4 fun e => hd e.2
    have hd' : strOf x.d = strOf y.d := by rw [hd]
    simp (disch := (first | omega | decide | (simp only [rsD] <;> omega) | fail)) only [↓rsC, rsK, rsL, ↓rsEqg3_0, tick_eq, tickV_eq, ne_eq, Int.reduceAdd, Int.reduceSub, Int.reduceMul, Int.reduceEq, Int.reduceLT, Int.reduceLE, Int.reduceToNat, Nat.reduceMul, Nat.reduceAdd, Nat.reduceSub, ←decide_not, k1, k2, kk1, c1, c2, kk2, c3, c4, hp', k3, k4, hcv, hcv', hd']
    refine xLoop_n x.p.length (fun i => [i64 (i : Int)]) (fun k w' => Ext [] y4 w' ∧ ∀ i (hi : i < x.p.length) (hi' : i < y.p.length), i < k → x.p[i] = y.p[i]) rfl ⟨Ext.refl _ _, by intro i _ _ hi; omega⟩ ?_ ?_
    · rintro k hk u w5 hu ⟨F5, hq5⟩ nxt2 hn5
      simp only [List.map_cons, List.map_nil, List.cons.injEq, and_true] at hu
      rw [hu]
      have hk' : k < y.p.length := by omega
      have F5d := F5.trans (Ext.drew [] w5)
      have k3 := fun i => (B34.ext F5 (by simp)).cell (i := i)
      have k3d := fun i => (B34.ext F5d (by simp)).cell (i := i)
      have k4d := fun i => (B4.ext F5d (by simp)).cell (i := i)
      obtain ⟨ba, oa, ea, _, ca⟩ := its_at (x1.pr.ext0 F5) hk
      obtain ⟨bc, oc, ec, _, cc⟩ := its_at (x2.pr.ext0 F5) hk'
      have hq6 : x.p[k] = y.p[k] → ∀ i (hi : i < x.p.length) (hi' : i < y.p.length), i < k + 1 → x.p[i] = y.p[i] := fun he i hi hi' h3 => by
        by_cases ei : i = k
        · subst ei; exact he
        · exact hq5 i hi hi' (by omega)
      have hdf : ¬ x.p[k] = y.p[k] → ¬ (x.p = y.p ∧ x.d = y.d) := fun hne e => hne (by have := e.1; simp only [this])
      unfold loamref17_Equal_l2
      by_cases he : x.p[k] = y.p[k]
      case neg =>
        have hdf2 := hdf he
        generalize x.p[k] = xk at *
        generalize y.p[k] = yk at *
        simp (disch := (first | omega | decide | (simp only [rsD] <;> omega) | fail)) only [↓rsC, rsK, rsL, ↓rsEqg3_0, tick_eq, tickV_eq, ne_eq, Int.reduceAdd, Int.reduceSub, Int.reduceMul, Int.reduceEq, Int.reduceLT, Int.reduceLE, Int.reduceToNat, Nat.reduceMul, Nat.reduceAdd, Nat.reduceSub, ←decide_not, k1, k2, kk1, c1, c2, kk2, c3, c4, hp', k3, k4, hcv, hcv', hd', k3d, k4d, ea, ec, ca, cc, he]
        exact diff _ (F4.trans F5d) hdf2
      have hq7 := hq6 he
      rw [he] at ca
      generalize y.p[k] = yk at *
      simp (disch := (first | omega | decide | (simp only [rsD] <;> omega) | fail)) only [↓rsC, rsK, rsL, ↓rsEqg3_0, tick_eq, tickV_eq, ne_eq, Int.reduceAdd, Int.reduceSub, Int.reduceMul, Int.reduceEq, Int.reduceLT, Int.reduceLE, Int.reduceToNat, Nat.reduceMul, Nat.reduceAdd, Nat.reduceSub, ←decide_not, k1, k2, kk1, c1, c2, kk2, c3, c4, hp', k3, k4, hcv, hcv', hd', k3d, k4d, ea, ec, ca, cc]
      exact hn5 _ ⟨F5d, hq7⟩
    · rintro u w5 hu ⟨F5, hq5⟩ nxt2
      simp only [List.map_cons, List.map_nil, List.cons.injEq, and_true] at hu
      rw [hu]
      have k3 := fun i => (B34.ext F5 (by simp)).cell (i := i)
      have hxy : x.p = y.p := List.ext_getElem hp fun i h1 h2 => hq5 i h1 h2 h1
      unfold loamref17_Equal_l2
      simp (disch := (first | omega | decide | (simp only [rsD] <;> omega) | fail)) only [↓rsC, rsK, rsL, ↓rsEqg3_0, tick_eq, tickV_eq, ne_eq, Int.reduceAdd, Int.reduceSub, Int.reduceMul, Int.reduceEq, Int.reduceLT, Int.reduceLE, Int.reduceToNat, Nat.reduceMul, Nat.reduceAdd, Nat.reduceSub, ←decide_not, k1, k2, kk1, c1, c2, kk2, c3, c4, hp', k3, k4, hcv, hcv', hd']
      exact hn _ ⟨F4.trans F5, hq3 ⟨hxy, hd⟩⟩
  · rintro u w1 hu ⟨F, hq2⟩ nxt
    simp only [List.map_cons, List.map_nil, List.cons.injEq, and_true] at hu
    rw [hu]
    have hsn : SameN ns ns' := (sameN_at hnl).2 fun i h1 h2 => hq2 i h1 h2 h1
    have kk1 := fun i => (B12.ext F (by simp)).cell (i := i)
    unfold loamref17_Equal_l1
    simp (disch := (first | omega | decide | (simp only [rsD] <;> omega) | fail)) only [↓rsC, rsK, rsL, ↓rsEqg3_0, tick_eq, tickV_eq, ne_eq, Int.reduceAdd, Int.reduceSub, Int.reduceMul, Int.reduceEq, Int.reduceLT, Int.reduceLE, Int.reduceToNat, Nat.reduceMul, Nat.reduceAdd, Nat.reduceSub, ←decide_not, k1, k2, kk1]
    refine xLoop_n rs.length (fun j => [i64 (j : Int)]) (fun j w' => Ext [] y2 w' ∧ ∀ i (hi : i < rs.length) (hi' : i < rs'.length), i < j → rs[i].s = rs'[i].s ∧ rs[i].to = rs'[i].to) rfl ⟨F, by intro i _ _ hi; omega⟩ ?_ ?_
    · rintro j hj u w5 hu ⟨F5, hq5⟩ nxt2 hn5
      simp only [List.map_cons, List.map_nil, List.cons.injEq, and_true] at hu
      rw [hu]
      have hj' : j < rs'.length := by omega
      have F5d := F5.trans (Ext.drew [] w5)
      have k3 := fun i => (B12.ext F5 (by simp)).cell (i := i)
      have k3d := fun i => (B12.ext F5d (by simp)).cell (i := i)
      have k4d := fun i => (B2.ext F5d (by simp)).cell (i := i)
      obtain ⟨b, o, rfl, hlt, c1, c2⟩ := gr_at (G.rr.ext0 F5d) hj
      obtain ⟨bb, oo, rfl, hlt2, c3, c4⟩ := gr_at (G'.rr.ext0 F5d) hj'
      have diff : ∀ w' : World, Ext [] y2 w' → ¬ (rs[j].s = rs'[j].s ∧ rs[j].to = rs'[j].to) → BoolR (SameG ns rs ns' rs') w w' (.bool false) := fun w' F' hne => ⟨⟨false, rfl, by simp only [Bool.false_eq_true, false_iff]; exact fun e => hne (by have := e.2; subst this; exact ⟨rfl, rfl⟩)⟩, X12.trans F'⟩
      have hq6 : (rs[j].s = rs'[j].s ∧ rs[j].to = rs'[j].to) → ∀ i (hi : i < rs.length) (hi' : i < rs'.length), i < j + 1 → rs[i].s = rs'[i].s ∧ rs[i].to = rs'[i].to := fun he i hi hi' h3 => by
        by_cases ei : i = j
        · subst ei; exact he
        · exact hq5 i hi hi' (by omega)
      generalize rs[j] = x at *
      generalize rs'[j] = y at *
      unfold loamref17_Equal_l3
      by_cases hs : x.s = y.s
      case neg =>
        have hs' : ¬ (strOf x.s = strOf y.s) := fun e => hs (strOf_inj.1 e)
        simp (disch := (first | omega | decide | (simp only [rsD] <;> omega) | fail)) only [↓rsC, rsK, rsL, ↓rsEqg3_0, tick_eq, tickV_eq, ne_eq, Int.reduceAdd, Int.reduceSub, Int.reduceMul, Int.reduceEq, Int.reduceLT, Int.reduceLE, Int.reduceToNat, Nat.reduceMul, Nat.reduceAdd, Nat.reduceSub, ←decide_not, k1, k2, kk1, k3, k3d, k4d, c1, c3, hs']
        exact diff _ F5d fun e => hs e.1
      have hs' : strOf x.s = strOf y.s := by rw [hs]
      by_cases ht : x.to = y.to
      case neg =>
        simp (disch := (first | omega | decide | (simp only [rsD] <;> omega) | fail)) only [↓rsC, rsK, rsL, ↓rsEqg3_0, tick_eq, tickV_eq, ne_eq, Int.reduceAdd, Int.reduceSub, Int.reduceMul, Int.reduceEq, Int.reduceLT, Int.reduceLE, Int.reduceToNat, Nat.reduceMul, Nat.reduceAdd, Nat.reduceSub, ←decide_not, k1, k2, kk1, k3, k3d, k4d, c1, c2, c3, c4, hs', ht]
        exact diff _ F5d fun e => ht e.2
      simp (disch := (first | omega | decide | (simp only [rsD] <;> omega) | fail)) only [↓rsC, rsK, rsL, ↓rsEqg3_0, tick_eq, tickV_eq, ne_eq, Int.reduceAdd, Int.reduceSub, Int.reduceMul, Int.reduceEq, Int.reduceLT, Int.reduceLE, Int.reduceToNat, Nat.reduceMul, Nat.reduceAdd, Nat.reduceSub, ←decide_not, k1, k2, kk1, k3, k3d, k4d, c1, c2, c3, c4, hs', ht]
      exact hn5 _ ⟨F5d, hq6 ⟨hs, ht⟩⟩
    · rintro u w5 hu ⟨F5, hq5⟩ nxt2
      simp only [List.map_cons, List.map_nil, List.cons.injEq, and_true] at hu
      rw [hu]
      have k3 := fun i => (B12.ext F5 (by simp)).cell (i := i)
      have hrs : rs = rs' := rs_ext hrl fun i h1 h2 => hq5 i h1 h2 h1
      unfold loamref17_Equal_l3
      simp (disch := (first | omega | decide | (simp only [rsD] <;> omega) | fail)) only [↓rsC, rsK, rsL, ↓rsEqg3_0, tick_eq, tickV_eq, ne_eq, Int.reduceAdd, Int.reduceSub, Int.reduceMul, Int.reduceEq, Int.reduceLT, Int.reduceLE, Int.reduceToNat, Nat.reduceMul, Nat.reduceAdd, Nat.reduceSub, ←decide_not, k1, k2, kk1, k3]
      exact ⟨⟨true, rfl, by simp only [true_iff]; exact ⟨hsn, hrs⟩⟩, X12.trans F5⟩
end Go.Proofs.Ytdpmidgeipibbaa
end
section
set_option linter.unusedVariables false
set_option linter.unusedSimpArgs false
set_option maxHeartbeats 4000000
namespace Go.Proofs.Ytdpmidgeipibbaa
open Go.Sh Go.RowKit

def kN (a b : Nat) : GN := ⟨[1], some ⟨a, 0, none⟩, 1, [120#8], some ⟨b, 0, none⟩, 1⟩
def kR : GR := ⟨[97#8], 1⟩
def kW : List (BitVec 64) := [1296125772#64, 655361#64, 97#64, 0#64, 0#64, 0#64, 8#64, packW 1 1 false 0, 8#64, 120#64]
theorem k_bare (a b : Nat) : [kN a b].map bare = [⟨[1], none, 0, [120#8], none, 0⟩] := rfl
theorem k_enc (a b : Nat) : encW [kN a b] [kR] = kW := by
  rw [← bare_enc, k_bare]
  decide +kernel
theorem k_good (a b : Nat) : GoodG [kN a b] [kR] := by
  rw [← bare_good, k_bare]
  refine ⟨fun x hx => ?_, by decide, fun r hr => ?_, fun i hi => ?_⟩
  · rw [List.mem_singleton] at hx
    subst hx
    refine ⟨fun p hp => ?_, by decide, by decide⟩
    rw [List.mem_singleton] at hp
    subst hp
    decide
  · rw [List.mem_singleton] at hr
    subst hr
    decide
  · simp at hi
theorem k_need (a b : Nat) : 2 + 5 * [kR].length + gW [kN a b] = 10 := by
  rw [← bare_gW, k_bare]
  decide
theorem k_encC (a b : Nat) : encC [kN a b] [kR] = 0 := by
  unfold encC
  rw [chk_zero.2 (k_good a b), k_need]
  decide
theorem noDec : ∀ os, ¬ DecOk [] os := fun os D => by have := D.two; simp at this
/-- a graph's words, decoded: that graph -/
theorem decR_enc {w' : World} {ns : List GN} {rs : List GR} {u : Value} (hg : GoodG ns rs) (hN : 2 + 5 * rs.length + gW ns ≤ 8192) (D : DecR w' (encW ns rs) u) : ∃ na nc ra rc ns', SameN ns' ns ∧ u = .tuple #[gV na nc ra rc ns' rs, i64 0] ∧ GIs w' na nc ra rc ns' rs := by
  have h0 := dec_ok hg hN
  rcases D with ⟨os, na, nc, ra, rc, ns', DO, hb, rfl, G⟩ | ⟨hno, _⟩
  · obtain ⟨rfl, _⟩ := DO.sc.uniq h0.sc
    obtain ⟨e1, e2⟩ := dec_enc hg hN
    rw [e2] at G ⊢
    exact ⟨na, nc, ra, rc, ns', hb.trans e1, rfl, G⟩
  · exact absurd h0 (hno _)
theorem few_same {ns ns' : List GN} {rs : List GR} (h : SameN ns' ns) (hf : FewH ns rs) : FewH ns' rs := by
  have hl : ns'.length = ns.length := by simpa using congrArg List.length h
  refine ⟨by have := hf.n; omega, hf.r, fun x hx => ?_⟩
  obtain ⟨i, hi, rfl⟩ := List.getElem_of_mem hx
  obtain ⟨e1, e2⟩ := (sameN_at hl).1 h i hi (by omega)
  rw [e1, e2]
  exact hf.x _ (List.getElem_mem _)
theorem boolR_true {p : Prop} {w w' : World} {u : Value} (h : BoolR p w w' u) (hp : p) : u = .bool true ∧ Ext [] w w' := by
  obtain ⟨⟨b, rfl, hb⟩, F⟩ := h
  rw [hb.2 hp]
  exact ⟨rfl, F⟩
abbrev rsImg3_0 := (And.intro @xu8_add (And.intro @xu8_eql (And.intro @xu16_add (And.intro @xu16_eql (And.intro @xu32_add (And.intro @xu32_eql (And.intro @xu64_add (And.intro @xu64_eql (And.intro @xi64_eql (And.intro @ld_25 (And.intro @ld_69 (And.intro @al_25 (And.intro @st_25 (And.intro @bd_25_0_1 (And.intro @bd_25 (And.intro @bd_72_0_1 (And.intro @bd_72_1 
  (And.intro @bd_74_0_1 (And.intro @ia_28 (And.intro @ln_28 (And.intro @bs_22_1 (And.intro @bs_23_1 (And.intro @bs_66_0 (And.intro @bs_66_1 (And.intro @bs_70_0 @bs_70_1)))))))))))))))))))))))))
theorem known23_spec (w : World) : Gives Try.prog n_loamlaw23_known #[] w (.bool true) := by
  refine loamlaw23_known_of ?_
  unfold loamlaw23_known
  simp (disch := (first | omega | decide | (simp only [rsD] <;> omega) | fail)) only [↓rsC, rsK, rsL, ↓rsImg3_0, tick_eq, tickV_eq, ne_eq, Int.reduceAdd, Int.reduceSub, Int.reduceMul, Int.reduceEq, Int.reduceLT, Int.reduceLE, Int.reduceToNat, Nat.reduceMul, Nat.reduceAdd, Nat.reduceSub, ←decide_not, eq_self]
  have B1 : Blk (w.alloc (.cells #[i64 1] 3)) w.heap.size 3 [i64 1] := Blk.at rfl
  have X1 : Ext [] w (w.alloc (.cells #[i64 1] 3)) := Ext.alloc _ _ _
  have zs1 : (w.alloc (.cells #[i64 1] 3)).heap.size = w.heap.size + 1 := World.size_alloc _ _
  generalize w.alloc (.cells #[i64 1] 3) = y1 at *
  rw [← zs1]
  refine xConv_bytes (cs := bys [120#8]) (by kernel_rfl) (by kernel_rfl) fun y2 X2 R2 z2 => ?_
  have R1 := B1.row.ext0 X2
  generalize w.heap.size = g1 at *
  generalize y1.heap.size = g2 at *
  simp (disch := (first | omega | decide | (simp only [rsD] <;> omega) | fail)) only [↓rsC, rsK, rsL, ↓rsImg3_0, tick_eq, tickV_eq, ne_eq, Int.reduceAdd, Int.reduceSub, Int.reduceMul, Int.reduceEq, Int.reduceLT, Int.reduceLE, Int.reduceToNat, Nat.reduceMul, Nat.reduceAdd, Nat.reduceSub, ←decide_not, eq_self]
  have B3 : Blk (y2.alloc (.cells #[.slice (some ⟨g1, 0, none⟩) 1 1, .slice (some ⟨g2, 0, none⟩) 1 1] 72)) y2.heap.size 72 [.slice (some ⟨g1, 0, none⟩) 1 1, .slice (some ⟨g2, 0, none⟩) 1 1] := Blk.at rfl
  have X3 : Ext [] y2 (y2.alloc (.cells #[.slice (some ⟨g1, 0, none⟩) 1 1, .slice (some ⟨g2, 0, none⟩) 1 1] 72)) := Ext.alloc _ _ _
  have zs3 : (y2.alloc (.cells #[.slice (some ⟨g1, 0, none⟩) 1 1, .slice (some ⟨g2, 0, none⟩) 1 1] 72)).heap.size = y2.heap.size + 1 := World.size_alloc _ _
  generalize y2.alloc (.cells #[.slice (some ⟨g1, 0, none⟩) 1 1, .slice (some ⟨g2, 0, none⟩) 1 1] 72) = y3 at *
  rw [← zs3]
  generalize y2.heap.size = g3 at *
  have B4 : Blk (y3.alloc (.cells #[.string ⟨#[97]⟩, i64 1] 74)) y3.heap.size 74 [.string ⟨#[97]⟩, i64 1] := Blk.at rfl
  have X4 : Ext [] y3 (y3.alloc (.cells #[.string ⟨#[97]⟩, i64 1] 74)) := Ext.alloc _ _ _
  generalize y3.alloc (.cells #[.string ⟨#[97]⟩, i64 1] 74) = y4 at *
  generalize y3.heap.size = g4 at *
  have B5 : Blk (y4.alloc (.cells #[.slice (some ⟨g3, 0, none⟩) 1 1, .slice (some ⟨g4, 0, none⟩) 1 1] 25)) y4.heap.size 25 [.slice (some ⟨g3, 0, none⟩) 1 1, .slice (some ⟨g4, 0, none⟩) 1 1] := Blk.at rfl
  have X5 : Ext [] y4 (y4.alloc (.cells #[.slice (some ⟨g3, 0, none⟩) 1 1, .slice (some ⟨g4, 0, none⟩) 1 1] 25)) := Ext.alloc _ _ _
  generalize y4.alloc (.cells #[.slice (some ⟨g3, 0, none⟩) 1 1, .slice (some ⟨g4, 0, none⟩) 1 1] 25) = y5 at *
  generalize y4.heap.size = g5 at *
  have cA : ({ data := #[97] } : ByteArray) = strOf [97#8] := by decide +kernel
  have X25 := X3.trans (X4.trans X5)
  have Xw : Ext [] w y5 := X1.trans (X2.trans X25)
  have G : GIs y5 (some ⟨g3, 0, none⟩) 1 (some ⟨g4, 0, none⟩) 1 [kN g1 g2] [kR] := by
    refine ⟨(B3.ext (X4.trans X5) (by simp)).row, Nat.le_refl _, fun e => (by cases e), ?_, Nat.le_refl _, fun e => (by cases e), fun x hx => ?_⟩
    · have := (B4.ext X5 (by simp)).row
      rw [cA] at this
      exact this
    · rw [List.mem_singleton] at hx
      subst hx
      exact ⟨R1.ext0 X25, Nat.le_refl _, fun e => (by cases e), R2.ext0 X25, Nat.le_refl _, fun e => (by cases e)⟩
  have hf : FewH [kN g1 g2] [kR] := ⟨by simp, by simp, fun x hx => by rw [List.mem_singleton] at hx; subst hx; simp [kN]⟩
  have hneed := k_need g1 g2
  have hE : Yld Try.prog n_image_Encode #[.agg #[.slice (some ⟨g3, 0, none⟩) 1 1, .slice (some ⟨g4, 0, none⟩) 1 1]] y5 fun u w' => EncR y5 w' [kN g1 g2] [kR] u := iEncode_spec G hf
  refine image_Encode_call (Yld.mono hE ?_)
  rintro u y6 (⟨hne, _⟩ | ⟨_, _, _, ae, ce, rfl, hce, hae, R6, F6⟩)
  · exact absurd (k_encC g1 g2) hne
  have hD6 : ∀ {w' u}, DecR w' kW u → DecR w' (encW [kN g1 g2] [kR]) u := fun h => by rw [k_enc]; exact h
  rw [k_enc] at hce R6 ⊢
  simp (disch := (first | omega | decide | (simp only [rsD] <;> omega) | fail)) only [↓rsC, rsK, rsL, ↓rsImg3_0, tick_eq, tickV_eq, ne_eq, Int.reduceAdd, Int.reduceSub, Int.reduceMul, Int.reduceEq, Int.reduceLT, Int.reduceLE, Int.reduceToNat, Nat.reduceMul, Nat.reduceAdd, Nat.reduceSub, ←decide_not, eq_self]
  refine image_Decode_call (Yld.mono (iDecode_spec R6 hce hae (by decide)) ?_)
  rintro u y7 ⟨F7, D7⟩
  obtain ⟨na, nc, ra, rc, ns', hsame, rfl, G7⟩ := decR_enc (k_good g1 g2) (by omega) (hD6 D7)
  have hf7 := few_same hsame hf
  have hnl : ns'.length = 1 := by simpa using congrArg List.length hsame
  simp (disch := (first | omega | decide | (simp only [rsD] <;> omega) | fail)) only [↓rsC, rsK, rsL, ↓rsImg3_0, tick_eq, tickV_eq, ne_eq, Int.reduceAdd, Int.reduceSub, Int.reduceMul, Int.reduceEq, Int.reduceLT, Int.reduceLE, Int.reduceToNat, Nat.reduceMul, Nat.reduceAdd, Nat.reduceSub, ←decide_not, eq_self]
  have B8 : Blk (y7.alloc (.cells #[.slice na ns'.length nc, .slice ra [kR].length rc] 25)) y7.heap.size 25 [.slice na ns'.length nc, .slice ra [kR].length rc] := Blk.at rfl
  have X8 : Ext [] y7 (y7.alloc (.cells #[.slice na ns'.length nc, .slice ra [kR].length rc] 25)) := Ext.alloc _ _ _
  generalize y7.alloc (.cells #[.slice na ns'.length nc, .slice ra [kR].length rc] 25) = y8 at *
  generalize y7.heap.size = g8 at *
  refine image_Decode_call (Yld.mono (iDecode_spec (l := []) (a := none) (c := 0) .nil (Nat.le_refl _) (fun _ => rfl) (by decide)) ?_)
  rintro u y9 ⟨F9, D9⟩
  rcases D9 with ⟨os, _, _, _, _, _, DO, _⟩ | ⟨_, rfl⟩
  · exact absurd DO (noDec os)
  simp (disch := (first | omega | decide | (simp only [rsD] <;> omega) | fail)) only [↓rsC, rsK, rsL, ↓rsImg3_0, tick_eq, tickV_eq, ne_eq, Int.reduceAdd, Int.reduceSub, Int.reduceMul, Int.reduceEq, Int.reduceLT, Int.reduceLE, Int.reduceToNat, Nat.reduceMul, Nat.reduceAdd, Nat.reduceSub, ←decide_not, eq_self]
  have X10 : Ext [] y9 (y9.alloc (.cells #[.slice none 0 0, .slice none 0 0] 25)) := Ext.alloc _ _ _
  generalize y9.alloc (.cells #[.slice none 0 0, .slice none 0 0] 25) = y10 at *
  have F610 := F7.trans (X8.trans (F9.trans X10))
  have R10 := R6.ext0 F610
  have G10 := G.ext0 (F6.trans F610)
  have G10' := G7.ext0 (X8.trans (F9.trans X10))
  have B5x := (B5.ext (F6.trans F610) (by simp))
  have B8x := (B8.ext (F9.trans X10) (by simp))
  have hkw : ∀ i, i < kW.length → ∃ b o, ae = some ⟨b, o, none⟩ ∧ y10.cell? ⟨b, o + i, none⟩ = some (u64 (wat kW i)) := fun i hi => by
    obtain ⟨b, o, h1, _, h2⟩ := row_w R10 hi
    exact ⟨b, o, h1, h2⟩
  obtain ⟨bw, ow, rfl, c0⟩ := hkw 0 (by decide)
  have hkw : ∀ i, i < kW.length → y10.cell? ⟨bw, ow + i, none⟩ = some (u64 (wat kW i)) := fun i hi => by
    obtain ⟨b, o, h1, h2⟩ := hkw i hi
    cases h1
    exact h2
  rw [Nat.add_zero] at c0
  have c1 := hkw 1 (by decide)
  have c2 := hkw 2 (by decide)
  have c6 := hkw 6 (by decide)
  have c8 := hkw 8 (by decide)
  have c9 := hkw 9 (by decide)
  have e0 : wat kW 0 = BitVec.ofNat 64 1296125772 := rfl
  have e1 : wat kW 1 = BitVec.ofNat 64 655361 := rfl
  have e2 : wat kW 2 = BitVec.ofNat 64 97 := rfl
  have e6 : wat kW 6 = BitVec.ofNat 64 8 := rfl
  have e8 : wat kW 8 = BitVec.ofNat 64 8 := rfl
  have e9 : wat kW 9 = BitVec.ofNat 64 120 := rfl
  rw [e0] at c0
  rw [e1] at c1
  rw [e2] at c2
  rw [e6] at c6
  rw [e8] at c8
  rw [e9] at c9
  have k8 := fun i => B8x.cell (i := i)
  have k5 := fun i => B5x.cell (i := i)
  simp (disch := (first | omega | decide | (simp only [rsD] <;> omega) | fail)) only [↓rsC, rsK, rsL, ↓rsImg3_0, tick_eq, tickV_eq, ne_eq, Int.reduceAdd, Int.reduceSub, Int.reduceMul, Int.reduceEq, Int.reduceLT, Int.reduceLE, Int.reduceToNat, Nat.reduceMul, Nat.reduceAdd, Nat.reduceSub, ←decide_not, c0, c1, c2, c6, c8, c9, k8, k5]
  have hQ : Yld Try.prog n_graph_Equal #[.agg #[.slice na ns'.length nc, .slice ra [kR].length rc], .agg #[.slice (some ⟨g3, 0, none⟩) 1 1, .slice (some ⟨g4, 0, none⟩) 1 1]] y10 fun u w' => BoolR (SameG ns' [kR] [kN g1 g2] [kR]) y10 w' u := GEqual_spec G10' G10 hf7 hf
  refine graph_Equal_call (Yld.mono hQ ?_)
  intro u y11 hb
  obtain ⟨rfl, F11⟩ := boolR_true hb ⟨hsame, rfl⟩
  have k11 := fun i => (B5x.ext F11 (by simp)).cell (i := i)
  simp (disch := (first | omega | decide | (simp only [rsD] <;> omega) | fail)) only [↓rsC, rsK, rsL, ↓rsImg3_0, tick_eq, tickV_eq, ne_eq, Int.reduceAdd, Int.reduceSub, Int.reduceMul, Int.reduceEq, Int.reduceLT, Int.reduceLE, Int.reduceToNat, Nat.reduceMul, Nat.reduceAdd, Nat.reduceSub, ←decide_not, c0, c1, c2, c6, c8, c9, k8, k5, k11]
  have hNd : Gives Try.prog n_image_Need #[.agg #[.slice (some ⟨g3, 0, none⟩) 1 1, .slice (some ⟨g4, 0, none⟩) 1 1]] y11 (i64 ((10 : Nat) : Int)) := by
    have := gneed_spec (G10.ext0 F11) hf (k_good g1 g2)
    rw [hneed] at this
    exact this
  refine image_Need_call (Gives.to hNd fun y12 F12 => ?_)
  simp (disch := (first | omega | decide | (simp only [rsD] <;> omega) | fail)) only [↓rsC, rsK, rsL, ↓rsImg3_0, tick_eq, tickV_eq, ne_eq, Int.reduceAdd, Int.reduceSub, Int.reduceMul, Int.reduceEq, Int.reduceLT, Int.reduceLE, Int.reduceToNat, Nat.reduceMul, Nat.reduceAdd, Nat.reduceSub, ←decide_not, c0, c1, c2, c6, c8, c9, k8, k5, k11]
  exact ⟨by trivial, Xw.trans (F6.trans (F610.trans (F11.trans F12)))⟩
end Go.Proofs.Ytdpmidgeipibbaa
end
section
set_option linter.unusedVariables false
set_option linter.unusedSimpArgs false
set_option maxHeartbeats 4000000
namespace Go.Proofs.Ytdpmidgeipibbaa
open Go.Sh Go.RowKit

theorem cutN_is {l : List (BitVec 8)} {n : Nat} (hn : n ≤ l.length) (h1 : ∀ i (hi : i < l.length), i < n → l[i] ≠ z8) (h2 : ∀ h : n < l.length, l[n] = z8) : cutN l = l.take n := by
  have e : l = l.take n ++ l.drop n := (List.take_append_drop n l).symm
  have hz : z8 ∉ l.take n := fun hm => by
    obtain ⟨i, hi, he⟩ := List.getElem_of_mem hm
    rw [List.getElem_take] at he
    rw [List.length_take] at hi
    exact h1 i (by omega) (by omega) he
  have h3 : cutN (l.take n) = l.take n := cutN_self hz
  unfold cutN at h3 ⊢
  conv => lhs; rw [e]
  rw [List.takeWhile_append, h3, if_pos rfl]
  by_cases h : n < l.length
  · rw [List.drop_eq_getElem_cons h, List.takeWhile_cons, h2 h]
    simp
  · rw [List.drop_of_length_le (by omega)]
    simp
/-- a name with nothing but noughts behind it -/
theorem nameB_is {q : List (BitVec 64)} {at' n : Nat} (hn : n ≤ 32) (hc : nameS q at' = (bytesW q (8 * at') 32).take n) : nameB q at' ↔ 0 < n ∧ ∀ i (hi : i < (bytesW q (8 * at') 32).length), n ≤ i → (bytesW q (8 * at') 32)[i] = z8 := by
  have hbl : (bytesW q (8 * at') 32).length = 32 := bytesW_length
  have hsl : (nameS q at').length = n := by rw [hc, List.length_take, hbl]; omega
  unfold nameB
  generalize hL : bytesW q (8 * at') 32 = L at *
  have hno : z8 ∉ nameS q at' := by unfold nameS; exact cutN_no _
  constructor
  · rintro ⟨h1, h2⟩
    refine ⟨by have := h1.1; omega, fun i hi hni => ?_⟩
    unfold fixN at h2
    rw [if_pos h1] at h2
    have : L[i]? = (nameS q at' ++ List.replicate (32 - (nameS q at').length) z8)[i]? := by rw [h2]
    rw [List.getElem?_append_right (by omega), List.getElem?_replicate, if_pos (by omega), List.getElem?_eq_getElem hi] at this
    exact Option.some.inj this
  · rintro ⟨h1, h2⟩
    have hok : nmOk (nameS q at') := ⟨by omega, by omega, hno⟩
    refine ⟨hok, ?_⟩
    unfold fixN
    rw [if_pos hok]
    refine List.ext_getElem (by simp; omega) fun i h3 h4 => ?_
    by_cases hi : i < n
    · rw [List.getElem_append_left (by omega)]
      have e : (nameS q at')[i]? = (L.take n)[i]? := by rw [hc]
      rw [List.getElem?_eq_getElem (by omega), List.getElem?_take, if_pos hi, List.getElem?_eq_getElem h4] at e
      exact Option.some.inj e
    · rw [List.getElem_append_right (by omega), List.getElem_replicate, h2 i h4 (by omega)]
abbrev rsChk11_0 := (And.intro @xu8_add (And.intro @xu8_mul (And.intro @xu8_neq (And.intro @xu8_lss (And.intro @xu8_gtr (And.intro @xu16_add (And.intro @xu16_mul (And.intro @xu16_neq (And.intro @xu16_lss (And.intro @xu16_gtr (And.intro @xu32_add (And.intro @xu32_mul (And.intro @xu32_neq (And.intro @xu32_lss (And.intro @xu32_gtr (And.intro @xu64_add 
  (And.intro @xu64_mul (And.intro @xu64_neq (And.intro @xu64_lss (And.intro @xu64_gtr (And.intro @xi64_lss (And.intro @xi64_gtr (And.intro @xi64_neq (And.intro @xi64_neg (And.intro @ld_5 (And.intro @ia_70 (And.intro @sh_70 @sm_70)))))))))))))))))))))))))))
theorem rname_spec (l : List (BitVec 64)) (a : Option Addr) (c at' : Nat) (w : World) (h : RowAt w a (wrds l)) (hl : l.length ≤ 8192) (h4 : at' + 4 ≤ l.length) :
    Gives Try.prog n_loamref17_name #[.slice a l.length c, i64 (at' : Int)] w (.tuple #[.string (strOf (if nameB l at' then nameS l at' else [])), .bool (decide (nameB l at'))]) := by
  refine loamref17_name_of ?_
  unfold loamref17_name
  have e8 : 8 * (at' : Int) = ((8 * at' : Nat) : Int) := by omega
  simp (disch := (first | omega | decide | (simp only [rsD] <;> omega) | fail)) only [↓rsC, rsK, rsL, ↓rsChk11_0, tick_eq, tickV_eq, ne_eq, Int.reduceAdd, Int.reduceSub, Int.reduceMul, Int.reduceEq, Int.reduceLT, Int.reduceLE, Int.reduceToNat, Nat.reduceMul, Nat.reduceAdd, Nat.reduceSub, ←decide_not, e8]
  refine loamref14_Bytes_call (Yld.mono (rBytes_spec l a c (8 * at') 32 h (by omega) (by omega)) ?_)
  rintro u w1 N
  obtain ⟨b1, c1, rfl, hc1, _, _, R1, _⟩ := N.2.1.slice
  have F1 := N.1
  have hbl : (bytesW l (8 * at') 32).length = 32 := bytesW_length
  have hnS : nameS l at' = cutN (bytesW l (8 * at') 32) := rfl
  have hnB : ∀ n, n ≤ 32 → nameS l at' = (bytesW l (8 * at') 32).take n → (nameB l at' ↔ 0 < n ∧ ∀ i (hi : i < (bytesW l (8 * at') 32).length), n ≤ i → (bytesW l (8 * at') 32)[i] = z8) := fun n hn hc => nameB_is hn hc
  generalize hL : bytesW l (8 * at') 32 = L at *
  have fin : ∀ (n : Nat) (w2 : World) nxt, Ext [] w1 w2 → n ≤ 32 → (∀ i (hi : i < L.length), i < n → L[i] ≠ z8) → (∀ h : n < L.length, L[n] = z8) →
      loamref17_name_l1 (fun u w' => u = .tuple #[.string (strOf (if nameB l at' then nameS l at' else [])), .bool (decide (nameB l at'))] ∧ Ext [] w w') nxt (.slice b1 32 c1) (i64 (n : Int)) w2 := by
    intro n w2 nxt F2 hn h1 h2
    have hc : nameS l at' = L.take n := by rw [hnS]; exact cutN_is (by omega) h1 h2
    have hB := hnB n hn hc
    have inner : xLoop [i64 (n : Int)] w2 [8] (fun u wx nxt2 => loamref17_name_l2 (fun u w' => u = .tuple #[.string (strOf (if nameB l at' then nameS l at' else [])), .bool (decide (nameB l at'))] ∧ Ext [] w w') nxt2 (.slice b1 32 c1) (i64 (n : Int)) (u 8) wx) := by
      obtain ⟨m, hm⟩ : ∃ m, n + m = 32 := ⟨32 - n, by omega⟩
      refine xLoop_n m (fun j => [i64 ((n + j : Nat) : Int)]) (fun j w' => Ext [] w1 w' ∧ ∀ i (hi : i < L.length), n ≤ i → i < n + j → L[i] = z8) rfl ⟨F2, fun i hi h3 h4 => by omega⟩ ?_ ?_
      · rintro j hj u w3 hu ⟨F3, hq⟩ nxt hnx
        simp only [List.map_cons, List.map_nil, List.cons.injEq, and_true] at hu
        rw [hu]
        obtain ⟨bb, oo, rfl, hbl2, hcc⟩ := (R1.ext0 F3).at (i := n + j) (by simp; omega)
        rw [List.getElem_map] at hcc
        unfold loamref17_name_l2
        by_cases hz : L[n + j] = z8
        · rw [hz] at hcc
          simp (disch := (first | omega | decide | (simp only [rsD] <;> omega) | fail)) only [↓rsC, rsK, rsL, ↓rsChk11_0, tick_eq, tickV_eq, ne_eq, Int.reduceAdd, Int.reduceSub, Int.reduceMul, Int.reduceEq, Int.reduceLT, Int.reduceLE, Int.reduceToNat, Nat.reduceMul, Nat.reduceAdd, Nat.reduceSub, ←decide_not, e8, hcc]
          refine hnx _ ⟨F3, fun i hi h5 h6 => ?_⟩
          by_cases e : i = n + j
          · subst e; exact hz
          · exact hq i hi h5 (by omega)
        · have hnot : ¬ nameB l at' := fun hb => hz ((hB.1 hb).2 (n + j) (by omega) (by omega))
          have hz' : ¬ (L[n + j] = BitVec.ofNat 8 0) := hz
          generalize L[n + j] = y at *
          simp (disch := (first | omega | decide | (simp only [rsD] <;> omega) | fail)) only [↓rsC, rsK, rsL, ↓rsChk11_0, tick_eq, tickV_eq, ne_eq, Int.reduceAdd, Int.reduceSub, Int.reduceMul, Int.reduceEq, Int.reduceLT, Int.reduceLE, Int.reduceToNat, Nat.reduceMul, Nat.reduceAdd, Nat.reduceSub, ←decide_not, e8, hcc, hz']
          exact ⟨by rw [if_neg hnot, decide_eq_false hnot]; rfl, F1.trans F3⟩
      · rintro u w3 hu ⟨F3, hq⟩ nxt
        simp only [List.map_cons, List.map_nil, List.cons.injEq, and_true] at hu
        rw [hu]
        have Rn : RowAt w3 b1 (bys (L.take n)) := by
          rw [show bys (L.take n) = (bys L).take n by rw [← List.map_take]]
          exact (R1.ext0 F3).take n
        have hcv := fun (K : K1) => xConv_str (P := Try.prog) (w := w3) (s := 70) (d := 9) (e := 5) (a := b1) (n := n) (c := c1) (l := L.take n) (K := K) (by kernel_rfl) (by kernel_rfl) (by kernel_rfl) (by rw [List.length_take]; omega) Rn
        unfold loamref17_name_l2
        simp (disch := (first | omega | decide | (simp only [rsD] <;> omega) | fail)) only [↓rsC, rsK, rsL, ↓rsChk11_0, tick_eq, tickV_eq, ne_eq, Int.reduceAdd, Int.reduceSub, Int.reduceMul, Int.reduceEq, Int.reduceLT, Int.reduceLE, Int.reduceToNat, Nat.reduceMul, Nat.reduceAdd, Nat.reduceSub, ←decide_not, e8, hcv]
        refine ⟨?_, F1.trans F3⟩
        by_cases h0 : 0 < n
        · have hb : nameB l at' := hB.2 ⟨h0, fun i hi hni => hq i hi hni (by omega)⟩
          rw [if_pos hb, decide_eq_true hb, decide_eq_true (by omega), hc]
        · have hb : ¬ nameB l at' := fun h => h0 (hB.1 h).1
          have : n = 0 := by omega
          subst this
          rw [if_neg hb, decide_eq_false hb]
          simp
    unfold loamref17_name_l1
    by_cases hlt : n < 32
    · obtain ⟨bb, oo, rfl, hbl2, hcc⟩ := (R1.ext0 F2).at (i := n) (by simp; omega)
      have hz := h2 (by omega)
      have hcc2 : w2.cell? ⟨bb, oo + n, none⟩ = some (u8 z8) := by rw [hcc, List.getElem_map, hz]
      simp (disch := (first | omega | decide | (simp only [rsD] <;> omega) | fail)) only [↓rsC, rsK, rsL, ↓rsChk11_0, tick_eq, tickV_eq, ne_eq, Int.reduceAdd, Int.reduceSub, Int.reduceMul, Int.reduceEq, Int.reduceLT, Int.reduceLE, Int.reduceToNat, Nat.reduceMul, Nat.reduceAdd, Nat.reduceSub, ←decide_not, e8, hcc2]
      exact inner
    · have : n = 32 := by omega
      subst this
      simp (disch := (first | omega | decide | (simp only [rsD] <;> omega) | fail)) only [↓rsC, rsK, rsL, ↓rsChk11_0, tick_eq, tickV_eq, ne_eq, Int.reduceAdd, Int.reduceSub, Int.reduceMul, Int.reduceEq, Int.reduceLT, Int.reduceLE, Int.reduceToNat, Nat.reduceMul, Nat.reduceAdd, Nat.reduceSub, ←decide_not, e8]
      exact inner
  rw [hbl]
  refine xLoop_n 32 (fun j => [i64 (j : Int)]) (fun j w' => Ext [] w1 w' ∧ ∀ i (hi : i < L.length), i < j → L[i] ≠ z8) rfl ⟨Ext.refl _ _, fun i hi h => by omega⟩ ?_ ?_
  · rintro j hj u w2 hu ⟨F2, hq⟩ nxt hnx
    simp only [List.map_cons, List.map_nil, List.cons.injEq, and_true] at hu
    rw [hu]
    by_cases hz : L[j] = z8
    · exact fin j w2 nxt F2 (by omega) hq (fun _ => hz)
    · obtain ⟨bb, oo, rfl, hbl2, hcc⟩ := (R1.ext0 F2).at (i := j) (by simp; omega)
      rw [List.getElem_map] at hcc
      unfold loamref17_name_l1
      have hz' : ¬ (L[j] = BitVec.ofNat 8 0) := hz
      generalize hy : L[j] = y at *
      simp (disch := (first | omega | decide | (simp only [rsD] <;> omega) | fail)) only [↓rsC, rsK, rsL, ↓rsChk11_0, tick_eq, tickV_eq, ne_eq, Int.reduceAdd, Int.reduceSub, Int.reduceMul, Int.reduceEq, Int.reduceLT, Int.reduceLE, Int.reduceToNat, Nat.reduceMul, Nat.reduceAdd, Nat.reduceSub, ←decide_not, e8, hcc, hz']
      refine hnx _ ⟨F2, fun i hi hij => ?_⟩
      by_cases e : i = j
      · subst e; rw [hy]; exact hz
      · exact hq i hi (by omega)
  · rintro u w2 hu ⟨F2, hq⟩ nxt
    simp only [List.map_cons, List.map_nil, List.cons.injEq, and_true] at hu
    rw [hu]
    exact fin 32 w2 nxt F2 (Nat.le_refl _) hq (fun h => by omega)
end Go.Proofs.Ytdpmidgeipibbaa
end
section
set_option linter.unusedVariables false
set_option linter.unusedSimpArgs false
set_option maxHeartbeats 4000000
namespace Go.Proofs.Ytdpmidgeipibbaa
open Go.Sh Go.RowKit

theorem appFrs {w w0 : World} {K : K1} {v : Value} {F G : List Fnd} {a : Option Addr} {c : Nat} (N : NewFr w0 w v F) (hr : RowAt w a (G.flatMap fC)) (hn : a = none → c = 0) (hc : G.length ≤ c) (hl : F.length + G.length ≤ 1000000)
    (hK : ∀ v' w', NewFr w0 w' v' (F ++ G) → Stp (blk v) (blk v') w w' → K v' w') : xBuiltin Try.prog .append #[49, 49] 49 [false, false] [v, .slice a G.length c] w K := by
  refine xApp (e := 105) (s := 2) (n := F.length) (m := G.length) (xs := F.flatMap fC) (news := G.flatMap fC) (bytes := 24) (z := .agg #[.int .i64 0, .string ⟨#[]⟩]) (by kernel_rfl) (by kernel_rfl) (by rfl) (by decide) N.2.1 (fC_len G) hr hn hc (fun u hu => ?_) (by omega) (by omega) fun v' w' h1 h2 => hK v' w' ?_ h2
  · obtain ⟨f, _, hf⟩ := List.mem_flatMap.1 hu
    simp only [fC, List.mem_cons, List.not_mem_nil, or_false] at hf
    rcases hf with rfl | rfl <;> rfl
  · have h3 := N.app h1 h2
    show NewR 105 2 w0 w' v' (F ++ G).length ((F ++ G).flatMap fC)
    rw [List.length_append, List.flatMap_append]
    exact h3
theorem shr48 (x : BitVec 64) : x >>> (48 : Nat) = BitVec.ofNat 64 0 ↔ fieldB x 48 16 = BitVec.ofNat 64 0 := by
  have f2 : (fieldB x 48 16).toNat = _ := field_nat _ (a := 48) (n := 16) (by decide) (by decide)
  have hx := x.isLt
  constructor
  · intro h
    have := congrArg BitVec.toNat h
    rw [BitVec.toNat_ushiftRight, Nat.shiftRight_eq_div_pow, BitVec.toNat_ofNat] at this
    apply BitVec.eq_of_toNat_eq
    rw [f2, BitVec.toNat_ofNat]
    omega
  · intro h
    have := congrArg BitVec.toNat h
    rw [f2, BitVec.toNat_ofNat] at this
    apply BitVec.eq_of_toNat_eq
    rw [BitVec.toNat_ushiftRight, Nat.shiftRight_eq_div_pow, BitVec.toNat_ofNat]
    omega
theorem apart {w w' : World} {a : Option Addr} {l : List Nat} {v v' : Value} (T : Stp (blk v) (blk v') w w') (R : RowAt w a (nums l)) (D : l ≠ [] → ∀ y, a = some y → y.block ∉ blk v) : RowAt w' a (nums l) ∧ (l ≠ [] → ∀ y, a = some y → y.block ∉ blk v') := by
  by_cases hl : l = []
  · subst hl
    exact ⟨.nil, fun h => absurd rfl h⟩
  refine ⟨R.ext T.ext fun b o hb => D hl _ hb, fun _ y hy hm => ?_⟩
  rcases T.at' _ hm with h | h
  · exact D hl y hy h
  · obtain ⟨b, o, h1, h2, _⟩ := R.get (by simpa using hl)
    rw [hy] at h1
    cases h1
    simp only at h
    omega
abbrev rsChk12_0 := (And.intro @xu8_add (And.intro @xu8_mul (And.intro @xu8_com (And.intro @xu8_shr (And.intro @xu8_eql (And.intro @xu8_neq (And.intro @xu8_lss (And.intro @xu8_leq (And.intro @xu8_gtr (And.intro @xu16_add (And.intro @xu16_mul (And.intro @xu16_com (And.intro @xu16_shr (And.intro @xu16_eql (And.intro @xu16_neq (And.intro @xu16_lss 
  (And.intro @xu16_leq (And.intro @xu16_gtr (And.intro @xu32_add (And.intro @xu32_mul (And.intro @xu32_com (And.intro @xu32_shr (And.intro @xu32_eql (And.intro @xu32_neq (And.intro @xu32_lss (And.intro @xu32_leq (And.intro @xu32_gtr (And.intro @xu64_add (And.intro @xu64_mul (And.intro @xu64_com (And.intro @xu64_shr (And.intro @xu64_eql (And.intro @xu64_neq 
  (And.intro @xu64_lss (And.intro @xu64_leq (And.intro @xu64_gtr (And.intro @xi64_lss (And.intro @xi64_leq (And.intro @xi64_gtr (And.intro @xi64_eql (And.intro @xi64_neq (And.intro @xi64_shr (And.intro @xi64_neg (And.intro @ld_69 (And.intro @cv_3_69 (And.intro @cv_69_3 (And.intro @ia_28 (And.intro @ln_28 @bs_49_1))))))))))))))))))))))))))))))))))))))))))))))))
theorem rImage_spec (l : List (BitVec 64)) (a : Option Addr) (c : Nat) (w : World) (h : RowAt w a (wrds l)) (hc : l.length ≤ c) (hn : a = none → c = 0) (hl : l.length ≤ 8192) :
    Yld Try.prog n_loamref17_Image #[.slice a l.length c] w fun u w' => ∃ os bad, (sizeOk l → Sc (wat l) l.length (2 + 5 * nR l) os bad) ∧ FndR w w' u (imgG l os bad) := by
  refine loamref17_Image_of ?_
  unfold loamref17_Image
  have cS : ({ data := #[115, 105, 122, 101] } : ByteArray) = strOf sSize := by decide +kernel
  have cM : ({ data := #[109, 97, 103, 105, 99] } : ByteArray) = strOf sMagic := by decide +kernel
  have lm : (magF l).length ≤ 1 := by unfold magF; split <;> simp
  have toR : ∀ (v : Value) (w2 : World) (F : List Fnd), NewFr w w2 v F → FndR w w2 v F := fun v w2 F N => by
    obtain ⟨a4, c4, rfl, hc4, _, hn4, hr4, _⟩ := N.2.1.slice
    exact ⟨N.1, a4, c4, rfl, hc4, hn4, hr4⟩
  have bad : ∀ (v : Value) (w1 : World), NewFr w w1 v (magF l) → ¬ sizeOk l → xBuiltin Try.prog .append #[49, 49] 49 [false, false] [v, .slice (some ⟨w1.heap.size, 0, none⟩) 1 1] (w1.alloc (.cells #[i64 1, .string (strOf sSize)] 105)) fun u w' => ∃ os bad, (sizeOk l → Sc (wat l) l.length (2 + 5 * nR l) os bad) ∧ FndR w w' u (imgG l os bad) := by
    intro v w1 N hno
    refine appFr N (f := (1, sSize)) rfl (by omega) fun v2 w2 N2 _ => ?_
    refine ⟨[], none, fun h => absurd h hno, ?_⟩
    unfold imgG
    rw [if_neg hno]
    exact toR _ _ _ N2
  have j8 : ∀ (v : Value) (w1 : World), NewFr w w1 v (magF l) → loamref17_Image_j8 (fun u w' => ∃ os bad, (sizeOk l → Sc (wat l) l.length (2 + 5 * nR l) os bad) ∧ FndR w w' u (imgG l os bad)) (.slice a l.length c) v w1 := by
    intro v w1 N1
    have R1 := h.ext0 N1.1
    unfold loamref17_Image_j8
    by_cases h2 : l.length < 2
    · simp (disch := (first | omega | decide | (simp only [rsD] <;> omega) | fail)) only [↓rsC, rsK, rsL, ↓rsChk12_0, tick_eq, tickV_eq, ne_eq, Int.reduceAdd, Int.reduceSub, Int.reduceMul, Int.reduceEq, Int.reduceLT, Int.reduceLE, Int.reduceToNat, Nat.reduceMul, Nat.reduceAdd, Nat.reduceSub, ←decide_not, bdF]
      rw [cS]
      exact bad v w1 N1 fun h => by have := h.1; omega
    obtain ⟨b1, o1, ha1, z1, k1⟩ := row_w R1 (i := 1) (by omega)
    subst ha1
    simp (disch := (first | omega | decide | (simp only [rsD] <;> omega) | fail)) only [↓rsC, rsK, rsL, ↓rsChk12_0, tick_eq, tickV_eq, ne_eq, Int.reduceAdd, Int.reduceSub, Int.reduceMul, Int.reduceEq, Int.reduceLT, Int.reduceLE, Int.reduceToNat, Nat.reduceMul, Nat.reduceAdd, Nat.reduceSub, ←decide_not, k1]
    refine loamref1_Field_call (Gives.to (rField_spec _ _ _ w1) fun w2 F2 => ?_)
    have efr : (fieldB (wat l 1) 0 16).toInt = (nR l : Int) := by
      have : nR l < 65536 := nR_lt l
      exact BitVec.toInt_eq_toNat_of_lt (by unfold nR at this; omega)
    have hnr := nR_lt l
    obtain ⟨_, _, ha2, z2, k2⟩ := row_w (R1.ext0 F2) (i := 1) (by omega)
    cases ha2
    have N2 := N1.ext F2
    by_cases h48 : wat l 1 >>> (48 : Nat) = BitVec.ofNat 64 0
    case neg =>
      have h48' : ¬ (wat l 1 >>> (BitVec.ofNat 64 48).toNat = BitVec.ofNat 64 0) := h48
      simp (disch := (first | omega | decide | (simp only [rsD] <;> omega) | fail)) only [↓rsC, rsK, rsL, ↓rsChk12_0, tick_eq, tickV_eq, ne_eq, Int.reduceAdd, Int.reduceSub, Int.reduceMul, Int.reduceEq, Int.reduceLT, Int.reduceLE, Int.reduceToNat, Nat.reduceMul, Nat.reduceAdd, Nat.reduceSub, ←decide_not, k1, efr, k2, h48', bdF]
      rw [cS]
      exact bad v w2 N2 fun h => h48 ((shr48 _).2 h.2.1)
    have h48' : wat l 1 >>> (BitVec.ofNat 64 48).toNat = BitVec.ofNat 64 0 := h48
    simp (disch := (first | omega | decide | (simp only [rsD] <;> omega) | fail)) only [↓rsC, rsK, rsL, ↓rsChk12_0, tick_eq, tickV_eq, ne_eq, Int.reduceAdd, Int.reduceSub, Int.reduceMul, Int.reduceEq, Int.reduceLT, Int.reduceLE, Int.reduceToNat, Nat.reduceMul, Nat.reduceAdd, Nat.reduceSub, ←decide_not, k1, efr, k2, h48']
    rw [efr]
    refine loamref1_Field_call (Gives.to (rField_spec _ _ _ w2) fun w3 F3 => ?_)
    have N3 := N2.ext F3
    have R3 := h.ext0 N3.1
    have eL : BitVec.ofInt 64 (l.length : Int) = BitVec.ofNat 64 l.length := BitVec.ofInt_natCast _ _
    by_cases hL : fieldB (wat l 1) 16 32 = BitVec.ofNat 64 l.length
    case neg =>
      simp (disch := (first | omega | decide | (simp only [rsD] <;> omega) | fail)) only [↓rsC, rsK, rsL, ↓rsChk12_0, tick_eq, tickV_eq, ne_eq, Int.reduceAdd, Int.reduceSub, Int.reduceMul, Int.reduceEq, Int.reduceLT, Int.reduceLE, Int.reduceToNat, Nat.reduceMul, Nat.reduceAdd, Nat.reduceSub, ←decide_not, k1, efr, k2, h48', eL, hL, bdF]
      rw [cS]
      exact bad v w3 N3 fun h => hL h.2.2.1
    by_cases h64 : 64 < nR l
    · simp (disch := (first | omega | decide | (simp only [rsD] <;> omega) | fail)) only [↓rsC, rsK, rsL, ↓rsChk12_0, tick_eq, tickV_eq, ne_eq, Int.reduceAdd, Int.reduceSub, Int.reduceMul, Int.reduceEq, Int.reduceLT, Int.reduceLE, Int.reduceToNat, Nat.reduceMul, Nat.reduceAdd, Nat.reduceSub, ←decide_not, k1, efr, k2, h48', eL, hL, h64, bdF]
      rw [cS]
      exact bad v w3 N3 fun h => by have := h.2.2.2.1; omega
    by_cases hfr : l.length < 2 + 5 * nR l
    · simp (disch := (first | omega | decide | (simp only [rsD] <;> omega) | fail)) only [↓rsC, rsK, rsL, ↓rsChk12_0, tick_eq, tickV_eq, ne_eq, Int.reduceAdd, Int.reduceSub, Int.reduceMul, Int.reduceEq, Int.reduceLT, Int.reduceLE, Int.reduceToNat, Nat.reduceMul, Nat.reduceAdd, Nat.reduceSub, ←decide_not, k1, efr, k2, h48', eL, hL, h64, hfr, bdF]
      rw [cS]
      exact bad v w3 N3 fun h => by have := h.2.2.2.2; omega
    have hs : sizeOk l := ⟨by omega, (shr48 _).1 h48, hL, by omega, by omega⟩
    have e0 : (2 : Int) + 5 * (nR l : Int) = ((2 + 5 * nR l : Nat) : Int) := by omega
    simp (disch := (first | omega | decide | (simp only [rsD] <;> omega) | fail)) only [↓rsC, rsK, rsL, ↓rsChk12_0, tick_eq, tickV_eq, ne_eq, Int.reduceAdd, Int.reduceSub, Int.reduceMul, Int.reduceEq, Int.reduceLT, Int.reduceLE, Int.reduceToNat, Nat.reduceMul, Nat.reduceAdd, Nat.reduceSub, ←decide_not, k1, efr, k2, h48', eL, hL, h64, hfr]
    rw [e0]
    refine loamref17_Space_call (Yld.mono (rSpaceF_spec l _ c (2 + 5 * nR l) l.length w3 R3 hc hn hl (by omega) (Nat.le_refl _)) ?_)
    rintro u w4 ⟨os, bd, hS, F4, a4, c4, rfl, hc4, hn4, hr4⟩
    have lf : (allF (wat l) os bd).length ≤ 90000 := by
      have h1 := hS.fnd os os.length
      rw [List.take_length] at h1
      have h2 : (badF bd).length ≤ 1 := by cases bd <;> simp [badF]
      unfold allF
      rw [List.length_append]
      omega
    refine appFrs (N3.ext F4) hr4 hn4 hc4 (by omega) fun v5 w5 N5 T5 => ?_
    simp (disch := (first | omega | decide | (simp only [rsD] <;> omega) | fail)) only [↓rsC, rsK, rsL, ↓rsChk12_0, tick_eq, tickV_eq, ne_eq, Int.reduceAdd, Int.reduceSub, Int.reduceMul, Int.reduceEq, Int.reduceLT, Int.reduceLE, Int.reduceToNat, Nat.reduceMul, Nat.reduceAdd, Nat.reduceSub, ←decide_not, k1, efr, k2, h48', eL, hL, h64, hfr]
    rw [e0]
    refine loamref17_Found_call (Yld.mono (rFoundN_spec l _ c (2 + 5 * nR l) l.length w5 (h.ext0 N5.1) hl (by omega) (Nat.le_refl _)) ?_)
    rintro u w6 ⟨os', bd', a6, c6, hS', rfl, R6, F6, U6⟩
    obtain ⟨rfl, rfl⟩ := hS'.uniq hS
    have N6 := N5.ext F6
    have hlb : ∀ y ∈ os', y < 8192 := fun y hy => by
      have := hS.all.2 y hy
      have := szW_pos (x := wat l y)
      omega
    have hcount := hS.count
    have hG : imgG l os' bd' = magF l ++ allF (wat l) os' bd' ++ rootsF l os' (nR l) := by unfold imgG; rw [if_pos hs, List.append_assoc]
    have lA : (magF l ++ allF (wat l) os' bd').length ≤ 90001 := by rw [List.length_append]; omega
    generalize hA : magF l ++ allF (wat l) os' bd' = A at *
    simp (disch := (first | omega | decide | (simp only [rsD] <;> omega) | fail)) only [↓rsC, rsK, rsL, ↓rsChk12_0, tick_eq, tickV_eq, ne_eq, Int.reduceAdd, Int.reduceSub, Int.reduceMul, Int.reduceEq, Int.reduceLT, Int.reduceLE, Int.reduceToNat, Nat.reduceMul, Nat.reduceAdd, Nat.reduceSub, ←decide_not, k1, efr, k2, h48', eL, hL, h64, hfr]
    refine xLoop_r (nR l) (fun j vs w' => ∃ v', vs = [v', .string (strOf (lastAt l j)), i64 (j : Int)] ∧ NewFr w w' v' (A ++ rootsF l os' j) ∧ RowAt w' a6 (nums os') ∧ (os' ≠ [] → ∀ y, a6 = some y → y.block ∉ blk v')) ⟨v5, by rfl, by simpa [rootsF] using N6, R6, fun _ y hy hm => by have := U6 y hy; have := N5.2.1.lt _ hm; omega⟩ ?_ ?_
    · rintro j hj u w7 ⟨v7, hu, N7, R7, D7⟩ nxt hnx
      simp only [List.map_cons, List.map_nil, List.cons.injEq, and_true] at hu
      rw [hu.1, hu.2.1, hu.2.2]
      have hr := rootsF_len l os' j
      have e2 : (2 : Int) + 5 * (j : Int) = ((2 + 5 * j : Nat) : Int) := by omega
      have e4 : ((2 + 5 * j : Nat) : Int) + 4 = ((2 + 5 * j + 4 : Nat) : Int) := by omega
      have hst : A ++ rootsF l os' (j + 1) = (A ++ rootsF l os' j ++ nmF l j) ++ rtF l os' j := by rw [rootsF]; simp [List.append_assoc]
      have hlast : lastAt l (j + 1) = if nameB l (2 + 5 * j) then nameS l (2 + 5 * j) else lastAt l j := rfl
      have hnmF : nmF l j = if ¬ nameB l (2 + 5 * j) ∨ leN (nameS l (2 + 5 * j)) (lastAt l j) = true then [(2 + 5 * j, sName)] else [] := rfl
      have hrtF : rtF l os' j = if PtrOk os' (wat l (2 + 5 * j + 4)).toNat then [] else [(2 + 5 * j + 4, sRoot)] := rfl
      have cN : ({ data := #[110, 97, 109, 101] } : ByteArray) = strOf sName := by decide +kernel
      have cR : ({ data := #[114, 111, 111, 116] } : ByteArray) = strOf sRoot := by decide +kernel
      have hat : 2 + 5 * j + 4 < l.length := by omega
      have hnm := rname_spec l (some ⟨b1, o1, none⟩) c (2 + 5 * j) w7 (h.ext0 N7.1) hl (by omega)
      unfold loamref17_Image_l2
      simp (disch := (first | omega | decide | (simp only [rsD] <;> omega) | fail)) only [↓rsC, rsK, rsL, ↓rsChk12_0, tick_eq, tickV_eq, ne_eq, Int.reduceAdd, Int.reduceSub, Int.reduceMul, Int.reduceEq, Int.reduceLT, Int.reduceLE, Int.reduceToNat, Nat.reduceMul, Nat.reduceAdd, Nat.reduceSub, ←decide_not, k1, efr, k2, h48', eL, hL, h64, hfr, e2]
      rw [e2]
      refine loamref17_name_call (Gives.to hnm fun w8 F8 => ?_)
      have N8 := N7.ext F8
      have R8 := R7.ext0 F8
      generalize 2 + 5 * j = at' at *
      have j14 : ∀ (w9 : World) (v9 : Value), NewFr w w9 v9 (A ++ rootsF l os' j ++ nmF l j) → RowAt w9 a6 (nums os') → (os' ≠ [] → ∀ y, a6 = some y → y.block ∉ blk v9) → loamref17_Image_j14 (fun u w' => ∃ os bad, (sizeOk l → Sc (wat l) l.length (2 + 5 * nR l) os bad) ∧ FndR w w' u (imgG l os bad)) nxt (.slice (some ⟨b1, o1, none⟩) l.length c) v9 (.slice a6 os'.length c6) (.string (strOf (lastAt l (j + 1)))) (i64 (j : Int)) (i64 (at' : Int)) w9 := by
        intro w9 v9 N9 R9 D9
        have ln : (nmF l j).length ≤ 1 := by rw [hnmF]; split <;> simp
        obtain ⟨_, _, ha9, z9, k9⟩ := row_w (h.ext0 N9.1) (i := at' + 4) hat
        cases ha9
        unfold loamref17_Image_j14
        simp (disch := (first | omega | decide | (simp only [rsD] <;> omega) | fail)) only [↓rsC, rsK, rsL, ↓rsChk12_0, tick_eq, tickV_eq, ne_eq, Int.reduceAdd, Int.reduceSub, Int.reduceMul, Int.reduceEq, Int.reduceLT, Int.reduceLE, Int.reduceToNat, Nat.reduceMul, Nat.reduceAdd, Nat.reduceSub, ←decide_not, k1, efr, k2, h48', eL, hL, h64, hfr, e2, e4, k9]
        refine loamref14_Points_call (Gives.to (rPoints_spec R9 (by omega) hlb (wat l (at' + 4))) fun w10 F10 => ?_)
        have N10 := N9.ext F10
        by_cases hp : PtrOk os' (wat l (at' + 4)).toNat
        · rw [decide_eq_true hp]
          rw [if_pos hp] at hrtF
          rw [hrtF, List.append_nil] at hst
          unfold loamref17_Image_j15
          simp (disch := (first | omega | decide | (simp only [rsD] <;> omega) | fail)) only [↓rsC, rsK, rsL, ↓rsChk12_0, tick_eq, tickV_eq, ne_eq, Int.reduceAdd, Int.reduceSub, Int.reduceMul, Int.reduceEq, Int.reduceLT, Int.reduceLE, Int.reduceToNat, Nat.reduceMul, Nat.reduceAdd, Nat.reduceSub, ←decide_not, k1, efr, k2, h48', eL, hL, h64, hfr, e2, e4, k9]
          exact hnx _ _ ⟨v9, by rfl, by rw [hst]; exact N10, R9.ext0 F10, D9⟩
        · rw [decide_eq_false hp]
          rw [if_neg hp] at hrtF
          rw [hrtF] at hst
          simp (disch := (first | omega | decide | (simp only [rsD] <;> omega) | fail)) only [↓rsC, rsK, rsL, ↓rsChk12_0, tick_eq, tickV_eq, ne_eq, Int.reduceAdd, Int.reduceSub, Int.reduceMul, Int.reduceEq, Int.reduceLT, Int.reduceLE, Int.reduceToNat, Nat.reduceMul, Nat.reduceAdd, Nat.reduceSub, ←decide_not, k1, efr, k2, h48', eL, hL, h64, hfr, e2, e4, k9, bdF]
          rw [cR]
          refine appFr N10 (f := (at' + 4, sRoot)) rfl (by simp only [List.length_append]; omega) fun v11 w11 N11 T11 => ?_
          obtain ⟨R11, D11⟩ := apart T11 (R9.ext0 F10) D9
          unfold loamref17_Image_j15
          simp (disch := (first | omega | decide | (simp only [rsD] <;> omega) | fail)) only [↓rsC, rsK, rsL, ↓rsChk12_0, tick_eq, tickV_eq, ne_eq, Int.reduceAdd, Int.reduceSub, Int.reduceMul, Int.reduceEq, Int.reduceLT, Int.reduceLE, Int.reduceToNat, Nat.reduceMul, Nat.reduceAdd, Nat.reduceSub, ←decide_not, k1, efr, k2, h48', eL, hL, h64, hfr, e2, e4, k9, bdF]
          exact hnx _ _ ⟨v11, by rfl, by rw [hst]; exact N11, R11, D11⟩
      have j12 : ∀ (w9 : World) (v9 : Value), NewFr w w9 v9 (A ++ rootsF l os' j ++ nmF l j) → RowAt w9 a6 (nums os') → (os' ≠ [] → ∀ y, a6 = some y → y.block ∉ blk v9) → loamref17_Image_j12 (fun u w' => ∃ os bad, (sizeOk l → Sc (wat l) l.length (2 + 5 * nR l) os bad) ∧ FndR w w' u (imgG l os bad)) nxt (.slice (some ⟨b1, o1, none⟩) l.length c) v9 (.slice a6 os'.length c6) (.string (strOf (lastAt l j))) (i64 (j : Int)) (i64 (at' : Int)) (.string (strOf (if nameB l at' then nameS l at' else []))) (.bool (decide (nameB l at'))) w9 := by
        intro w9 v9 N9 R9 D9
        have h14 := j14 w9 v9 N9 R9 D9
        rw [hlast] at h14
        unfold loamref17_Image_j12
        by_cases hb : nameB l at'
        · rw [decide_eq_true hb, if_pos hb]
          rw [if_pos hb] at h14
          simp (disch := (first | omega | decide | (simp only [rsD] <;> omega) | fail)) only [↓rsC, rsK, rsL, ↓rsChk12_0, tick_eq, tickV_eq, ne_eq, Int.reduceAdd, Int.reduceSub, Int.reduceMul, Int.reduceEq, Int.reduceLT, Int.reduceLE, Int.reduceToNat, Nat.reduceMul, Nat.reduceAdd, Nat.reduceSub, ←decide_not, k1, efr, k2, h48', eL, hL, h64, hfr, e2]
          exact h14
        · rw [decide_eq_false hb]
          rw [if_neg hb] at h14
          simp (disch := (first | omega | decide | (simp only [rsD] <;> omega) | fail)) only [↓rsC, rsK, rsL, ↓rsChk12_0, tick_eq, tickV_eq, ne_eq, Int.reduceAdd, Int.reduceSub, Int.reduceMul, Int.reduceEq, Int.reduceLT, Int.reduceLE, Int.reduceToNat, Nat.reduceMul, Nat.reduceAdd, Nat.reduceSub, ←decide_not, k1, efr, k2, h48', eL, hL, h64, hfr, e2]
          exact h14
      have addN : ∀ w9 : World, Ext [] w8 w9 → nmF l j = [(at', sName)] → xBuiltin Try.prog .append #[49, 49] 49 [false, false] [v7, .slice (some ⟨w9.heap.size, 0, none⟩) 1 1] (w9.alloc (.cells #[i64 (at' : Int), .string (strOf sName)] 105)) fun t117 w => loamref17_Image_j12 (fun u w' => ∃ os bad, (sizeOk l → Sc (wat l) l.length (2 + 5 * nR l) os bad) ∧ FndR w w' u (imgG l os bad)) nxt (.slice (some ⟨b1, o1, none⟩) l.length c) t117 (.slice a6 os'.length c6) (.string (strOf (lastAt l j))) (i64 (j : Int)) (i64 (at' : Int)) (.string (strOf (if nameB l at' then nameS l at' else []))) (.bool (decide (nameB l at'))) w := by
        intro w9 F9 hf
        refine appFr (N8.ext F9) (f := (at', sName)) rfl (by simp only [List.length_append]; omega) fun v11 w11 N11 T11 => ?_
        obtain ⟨R11, D11⟩ := apart T11 (R8.ext0 F9) D7
        rw [← hf] at N11
        exact j12 w11 v11 N11 R11 D11
      by_cases hb : nameB l at'
      · have a2 := addN
        have j2 := j12
        rw [if_pos hb, decide_eq_true hb] at a2 j2 ⊢
        have hle := fun (cx cy : Bool) (K : K1) => leS (cx := cx) (cy := cy) (strOf (nameS l at')) (strOf (lastAt l j)) w8 K
        cases hq : leN (nameS l at') (lastAt l j) with
        | true =>
          have hq' : (Op.bytesLess (strOf (nameS l at')).toList (strOf (lastAt l j)).toList || (strOf (nameS l at')).toList == (strOf (lastAt l j)).toList) = true := hq
          rw [hq'] at hle
          simp (disch := (first | omega | decide | (simp only [rsD] <;> omega) | fail)) only [↓rsC, rsK, rsL, ↓rsChk12_0, tick_eq, tickV_eq, ne_eq, Int.reduceAdd, Int.reduceSub, Int.reduceMul, Int.reduceEq, Int.reduceLT, Int.reduceLE, Int.reduceToNat, Nat.reduceMul, Nat.reduceAdd, Nat.reduceSub, ←decide_not, k1, efr, k2, h48', eL, hL, h64, hfr, e2, hle, bdF]
          rw [cN]
          exact a2 w8 (Ext.refl _ _) (by rw [hnmF, if_pos (.inr hq)])
        | false =>
          have hq' : (Op.bytesLess (strOf (nameS l at')).toList (strOf (lastAt l j)).toList || (strOf (nameS l at')).toList == (strOf (lastAt l j)).toList) = false := hq
          rw [hq'] at hle
          have hnil : nmF l j = [] := by
            rw [hnmF, if_neg]
            rintro (h | h)
            · exact h hb
            · rw [hq] at h; cases h
          simp (disch := (first | omega | decide | (simp only [rsD] <;> omega) | fail)) only [↓rsC, rsK, rsL, ↓rsChk12_0, tick_eq, tickV_eq, ne_eq, Int.reduceAdd, Int.reduceSub, Int.reduceMul, Int.reduceEq, Int.reduceLT, Int.reduceLE, Int.reduceToNat, Nat.reduceMul, Nat.reduceAdd, Nat.reduceSub, ←decide_not, k1, efr, k2, h48', eL, hL, h64, hfr, e2, hle]
          exact j2 w8 v7 (by rw [hnil, List.append_nil]; exact N8) R8 D7
      · have a2 := addN
        rw [if_neg hb, decide_eq_false hb] at a2 ⊢
        simp (disch := (first | omega | decide | (simp only [rsD] <;> omega) | fail)) only [↓rsC, rsK, rsL, ↓rsChk12_0, tick_eq, tickV_eq, ne_eq, Int.reduceAdd, Int.reduceSub, Int.reduceMul, Int.reduceEq, Int.reduceLT, Int.reduceLE, Int.reduceToNat, Nat.reduceMul, Nat.reduceAdd, Nat.reduceSub, ←decide_not, k1, efr, k2, h48', eL, hL, h64, hfr, e2, bdF]
        rw [cN]
        exact a2 w8 (Ext.refl _ _) (by rw [hnmF, if_pos (.inl hb)])
    · rintro u w7 ⟨v7, hu, N7, _⟩ nxt
      simp only [List.map_cons, List.map_nil, List.cons.injEq, and_true] at hu
      rw [hu.1, hu.2.1, hu.2.2]
      unfold loamref17_Image_l2
      simp (disch := (first | omega | decide | (simp only [rsD] <;> omega) | fail)) only [↓rsC, rsK, rsL, ↓rsChk12_0, tick_eq, tickV_eq, ne_eq, Int.reduceAdd, Int.reduceSub, Int.reduceMul, Int.reduceEq, Int.reduceLT, Int.reduceLE, Int.reduceToNat, Nat.reduceMul, Nat.reduceAdd, Nat.reduceSub, ←decide_not, k1, efr, k2, h48', eL, hL, h64, hfr]
      exact ⟨os', bd', fun _ => hS, by rw [hG]; exact toR _ _ _ N7⟩
  have hM : ∀ w1 : World, Ext [] w w1 → magF l = [(0, sMagic)] → xBuiltin Try.prog .append #[49, 49] 49 [false, false] [.slice none 0 0, .slice (some ⟨w1.heap.size, 0, none⟩) 1 1] (w1.alloc (.cells #[i64 0, .string (strOf sMagic)] 105)) fun t24 wx => loamref17_Image_j8 (fun u w' => ∃ os bad, (sizeOk l → Sc (wat l) l.length (2 + 5 * nR l) os bad) ∧ FndR w w' u (imgG l os bad)) (.slice a l.length c) t24 wx := by
    intro w1 F1 hf
    refine appFr (w0 := w) (F := []) (NewR.nil F1) (f := (0, sMagic)) rfl (by simp) fun v2 w2 N2 _ => ?_
    refine j8 v2 w2 ?_
    rw [hf]
    exact N2
  by_cases h0 : l.length = 0
  · simp (disch := (first | omega | decide | (simp only [rsD] <;> omega) | fail)) only [↓rsC, rsK, rsL, ↓rsChk12_0, tick_eq, tickV_eq, ne_eq, Int.reduceAdd, Int.reduceSub, Int.reduceMul, Int.reduceEq, Int.reduceLT, Int.reduceLE, Int.reduceToNat, Nat.reduceMul, Nat.reduceAdd, Nat.reduceSub, ←decide_not, h0, bdF]
    rw [cM]
    exact hM w (Ext.refl _ _) (by unfold magF; rw [if_pos (.inl (by omega))])
  obtain ⟨b1, o1, ha1, z1, k1⟩ := row_w h (i := 0) (by omega)
  subst ha1
  rw [Nat.add_zero] at k1
  by_cases hm : wat l 0 = BitVec.ofNat 64 1296125772
  · simp (disch := (first | omega | decide | (simp only [rsD] <;> omega) | fail)) only [↓rsC, rsK, rsL, ↓rsChk12_0, tick_eq, tickV_eq, ne_eq, Int.reduceAdd, Int.reduceSub, Int.reduceMul, Int.reduceEq, Int.reduceLT, Int.reduceLE, Int.reduceToNat, Nat.reduceMul, Nat.reduceAdd, Nat.reduceSub, ←decide_not, k1, hm]
    refine j8 _ w ?_
    have : magF l = [] := by
      unfold magF
      rw [if_neg]
      rintro (h | h)
      · omega
      · exact h hm
    rw [this]
    exact NewR.nil (Ext.refl _ _)
  · simp (disch := (first | omega | decide | (simp only [rsD] <;> omega) | fail)) only [↓rsC, rsK, rsL, ↓rsChk12_0, tick_eq, tickV_eq, ne_eq, Int.reduceAdd, Int.reduceSub, Int.reduceMul, Int.reduceEq, Int.reduceLT, Int.reduceLE, Int.reduceToNat, Nat.reduceMul, Nat.reduceAdd, Nat.reduceSub, ←decide_not, k1, hm, bdF]
    rw [cM]
    exact hM w (Ext.refl _ _) (by unfold magF; rw [if_pos (.inr hm)])
end Go.Proofs.Ytdpmidgeipibbaa
end
section
set_option linter.unusedVariables false
set_option linter.unusedSimpArgs false
set_option maxHeartbeats 4000000
namespace Go.Proofs.Ytdpmidgeipibbaa
open Go.Sh Go.RowKit

abbrev ImgS (l : List (BitVec 64)) (os : List Nat) (bad : Option Nat) : Prop := sizeOk l → Sc (wat l) l.length (2 + 5 * nR l) os bad
theorem img_len {l : List (BitVec 64)} {os : List Nat} {bad : Option Nat} (h : ImgS l os bad) (hl : l.length ≤ 8192) : (imgG l os bad).length ≤ 1000000 := by
  unfold imgG
  have h1 : (magF l).length ≤ 1 := by unfold magF; split <;> simp
  rw [List.length_append]
  by_cases hs : sizeOk l
  · rw [if_pos hs]
    have h3 := (h hs).fnd os os.length
    rw [List.take_length] at h3
    have h4 : (badF bad).length ≤ 1 := by cases bad <;> simp [badF]
    have h5 := rootsF_len l os (nR l)
    have := hs.2.2.2.1
    unfold allF
    rw [List.length_append, List.length_append]
    omega
  · rw [if_neg hs]
    simp; omega
end Go.Proofs.Ytdpmidgeipibbaa
end
section
set_option linter.unusedVariables false
set_option linter.unusedSimpArgs false
set_option maxHeartbeats 4000000
namespace Go.Proofs.Ytdpmidgeipibbaa
open Go.Sh Go.RowKit

abbrev rsRdc1_0 := (And.intro @xu8_add (And.intro @xu8_eql (And.intro @xu8_lss (And.intro @xu16_add (And.intro @xu16_eql (And.intro @xu16_lss (And.intro @xu32_add (And.intro @xu32_eql (And.intro @xu32_lss (And.intro @xu64_add (And.intro @xu64_eql (And.intro @xu64_lss (And.intro @xi64_lss (And.intro @xi64_eql (And.intro @ld_3 (And.intro @cv_3_69 
  (And.intro @ia_66 @ln_66)))))))))))))))))
theorem rnumber_spec {w : World} {os : List Nat} {pa : Option Addr} {pc : Nat} (h : RowAt w pa (nums os)) (hs : os.Pairwise (· < ·)) (hl : os.length ≤ 100000) (hb : ∀ y ∈ os, y < 8192) (x : BitVec 64) :
    Gives Try.prog n_loamref17_number #[.slice pa os.length pc, u64 x] w (i64 (numb os x)) := by
  refine loamref17_number_of ?_
  unfold loamref17_number
  refine xLoop_n os.length (fun j => [i64 (j : Int)]) (fun j w' => Ext [] w w' ∧ ∀ i (hi : i < os.length), i < j → x ≠ BitVec.ofNat 64 (os[i] + 1)) rfl ⟨Ext.refl _ _, by intro i _ hi; omega⟩ ?_ ?_
  · rintro j hj u w1 hu ⟨F, hq⟩ nxt hn
    simp only [List.map_cons, List.map_nil, List.cons.injEq, and_true] at hu
    rw [hu]
    obtain ⟨b, o, rfl, hlt, hc⟩ := (h.ext0 F).at (i := j) (by simpa using hj)
    have hc2 : w1.cell? ⟨b, o + j, none⟩ = some (i64 (os[j] : Int)) := by rw [hc]; simp
    have hbj := hb _ (List.getElem_mem hj)
    have e1 : BitVec.ofInt 64 ((os[j] : Int) + 1) = BitVec.ofNat 64 (os[j] + 1) := by
      rw [show (os[j] : Int) + 1 = ((os[j] + 1 : Nat) : Int) by omega, BitVec.ofInt_natCast]
    have hnb : x = BitVec.ofNat 64 (os[j] + 1) → numb os x = (j : Int) + 1 := fun he => by
      have ex : x.toNat = os[j] + 1 := by rw [he, BitVec.toNat_ofNat]; omega
      rw [numb_some (by omega) (by omega) (by rw [ex, Nat.add_sub_cancel]; exact List.getElem_mem hj), ex, Nat.add_sub_cancel, lowN_get hs hj]
    have hq2 : x ≠ BitVec.ofNat 64 (os[j] + 1) → ∀ i (hi : i < os.length), i < j + 1 → x ≠ BitVec.ofNat 64 (os[i] + 1) := fun hne i hi h3 => by
      by_cases e : i = j
      · subst e; exact hne
      · exact hq i hi (by omega)
    unfold loamref17_number_l1
    generalize os[j] = z at *
    by_cases he : x = BitVec.ofNat 64 (z + 1)
    · have := hnb he
      rw [this]
      simp (disch := (first | omega | decide | (simp only [rsD] <;> omega) | fail)) only [↓rsC, rsK, rsL, ↓rsRdc1_0, tick_eq, tickV_eq, ne_eq, Int.reduceAdd, Int.reduceSub, Int.reduceMul, Int.reduceEq, Int.reduceLT, Int.reduceLE, Int.reduceToNat, Nat.reduceMul, Nat.reduceAdd, Nat.reduceSub, ←decide_not, hc2, e1, he]
      exact ⟨by trivial, F⟩
    · simp (disch := (first | omega | decide | (simp only [rsD] <;> omega) | fail)) only [↓rsC, rsK, rsL, ↓rsRdc1_0, tick_eq, tickV_eq, ne_eq, Int.reduceAdd, Int.reduceSub, Int.reduceMul, Int.reduceEq, Int.reduceLT, Int.reduceLE, Int.reduceToNat, Nat.reduceMul, Nat.reduceAdd, Nat.reduceSub, ←decide_not, hc2, e1, he]
      exact hn _ ⟨F, hq2 he⟩
  · rintro u w1 hu ⟨F, hq⟩ nxt
    simp only [List.map_cons, List.map_nil, List.cons.injEq, and_true] at hu
    rw [hu]
    have h0 : numb os x = 0 := by
      unfold numb
      split
      · rfl
      · rename_i hx
        rw [if_neg]
        intro hm
        obtain ⟨i, hi, he⟩ := List.getElem_of_mem hm
        refine hq i hi hi ?_
        apply BitVec.eq_of_toNat_eq
        rw [BitVec.toNat_ofNat]
        omega
    unfold loamref17_number_l1
    rw [h0]
    simp (disch := (first | omega | decide | (simp only [rsD] <;> omega) | fail)) only [↓rsC, rsK, rsL, ↓rsRdc1_0, tick_eq, tickV_eq, ne_eq, Int.reduceAdd, Int.reduceSub, Int.reduceMul, Int.reduceEq, Int.reduceLT, Int.reduceLE, Int.reduceToNat, Nat.reduceMul, Nat.reduceAdd, Nat.reduceSub, ←decide_not, eq_self]
    exact ⟨by trivial, F⟩
/-- what stands while the document reads a node -/
structure Rd (y : World) (w : World) (hx hh hn : Nat) (v : Value) (ns : List GN) (l : List (BitVec 64)) (o : Nat) (da : Option Addr) (dc : Nat) : Prop where
  F : Ext [hx] y w
  O : OwnN w v ns
  B : Blk w hx 34 [v, .slice none 0 0]
  U : ∀ z ∈ blk v, y.heap.size ≤ z
  A : ∀ x ∈ ns, NOk w x ∧ Apt (hn :: hx :: blk v) x
  H : Blk w hh 84 [i64 (pN (wat l o) : Int), i64 (bN (wat l o) : Int), .bool false, i64 0]
  N : Blk w hn 76 [.slice none 0 0, .slice da (decD l o).length dc]
  D : RowAt w da (bys (decD l o))
  dl : (decD l o).length ≤ dc
  dn : da = none → dc = 0
  da : ∀ z, da = some z → z.block ∉ hn :: hx :: blk v
  hy : y.heap.size ≤ hn
  hyh : y.heap.size ≤ hh
  hne : hh ≠ hn
  hxl : hx < y.heap.size
  nv : hn ∉ blk v
theorem Apt.sub {M M' : List Nat} {x : GN} (h : Apt M x) (hm : ∀ b ∈ M', b ∈ M) : Apt M' x := ⟨fun y hy hn hb => h.p y hy hn (hm _ hb), fun y hy hn hb => h.d y hy hn (hm _ hb)⟩
abbrev rsRdc1_1 := (And.intro @xu8_add (And.intro @xu8_sub (And.intro @xu8_lss (And.intro @xu16_add (And.intro @xu16_sub (And.intro @xu16_lss (And.intro @xu32_add (And.intro @xu32_sub (And.intro @xu32_lss (And.intro @xu64_add (And.intro @xu64_sub (And.intro @xu64_lss (And.intro @xi64_lss (And.intro @ld_3 (And.intro @ld_31 (And.intro @ld_66 (And.intro @ld_69 
  (And.intro @ld_76 (And.intro @fa_34_0 (And.intro @fa_76_0 (And.intro @fa_84_0 (And.intro @st_31 (And.intro @st_66 (And.intro @ia_28 (And.intro @ia_66 (And.intro @bs_31_1 (And.intro @bs_66_0 @bs_66_1)))))))))))))))))))))))))))
theorem rdecNode {y w w0 : World} {hx hh hn g0 : Nat} {v : Value} {ns : List GN} {l : List (BitVec 64)} {o : Nat} {da : Option Addr} {dc : Nat} {os : List Nat} {pa : Option Addr} {pc a : Nat} {ao c j : Nat} {K : K1} {nxt : List Value → World → Prop}
    (R : Rd y w hx hh hn v ns l o da dc) (hl : l.length ≤ 8192) (hj : j < os.length) (ho : os[j] = o) (hok : okW (wat l o)) (hhi : o + szW (wat l o) ≤ l.length)
    (hL : ∀ w', Ext [hx] y w' → RowAt w' (some ⟨a, ao, none⟩) (wrds l)) (hP : ∀ w', Ext [hx] y w' → RowAt w' pa (nums os)) (hs : os.Pairwise (· < ·)) (hosl : os.length ≤ 100000) (hb : ∀ y ∈ os, y < 8192) (hnl : ns.length ≤ 100000)
    (hnx : ∀ v' w' x, Ext [hx] y w' → OwnN w' v' (ns ++ [x]) → Blk w' hx 34 [v', .slice none 0 0] → (∀ z ∈ blk v', y.heap.size ≤ z) → x.p = decP l os o → x.d = decD l o → (∀ x' ∈ ns ++ [x], NOk w' x' ∧ Apt (hx :: blk v') x') → nxt [i64 ((j + 1 : Nat) : Int)] w') :
    loamref17_Decode_j1 K nxt (.slice (some ⟨a, ao, none⟩) l.length c) (.slice pa os.length pc) (ptr hx) (i64 (j : Int)) (ptr hh) (ptr hn) w := by
  obtain ⟨av, cv, rfl, _⟩ := R.O.slice
  obtain ⟨v1, v2, v3, v4, v5, v6, v7, v8⟩ := okW_v hok
  have hpl : (decP l os o).length = pN (wat l o) := by simp [decP]
  have hnlt := R.N.lt
  have hhlt := R.H.lt
  have nilb : ∀ z, z ∉ blk (.slice none 0 0) := by simp [blk, Value.ownBlock]
  have Fy : ∀ {w'}, Ext [hn] w w' → Ext [hx] y w' := fun F => R.F.cut F (fun z hz => by simp only [List.mem_singleton] at hz; subst hz; exact .inr R.hy)
  have hxn : hx ∉ [hn] := by have := R.hy; have := R.hxl; simp only [List.mem_singleton]; omega
  have hhn : hh ∉ [hn] := by simp only [List.mem_singleton]; exact R.hne
  unfold loamref17_Decode_j1
  refine xLoop_n (pN (wat l o)) (fun k => [i64 (k : Int)]) (fun k w' => Ext [hn] w w' ∧ ∃ vp, OwnIt w' vp ((decP l os o).take k) ∧ Blk w' hn 76 [vp, .slice da (decD l o).length dc] ∧ ∀ z ∈ blk vp, w.heap.size ≤ z) rfl ⟨Ext.refl _ _, .slice none 0 0, Own.nil, R.N, fun z hz => absurd hz (nilb z)⟩ ?_ ?_
  · rintro k hk u x1 hu ⟨F, vp, Op, Bp, Up⟩ nxt2 hn2
    simp only [List.map_cons, List.map_nil, List.cons.injEq, and_true] at hu
    rw [hu]
    obtain ⟨a0, c0', hv0, _⟩ := Op.slice
    subst hv0
    have Ed := Ext.drew [] x1
    have kh := fun i => (R.H.ext F hhn).cell (i := i)
    have kb := fun i => (Bp.ext Ed (by simp)).cell (i := i)
    obtain ⟨bb, oo, rfl, hbl, hcc⟩ := (hP x1 (Fy F)).at (i := j) (by simpa using hj)
    have hcj : x1.cell? ⟨bb, oo + j, none⟩ = some (i64 (o : Int)) := by rw [hcc, List.getElem_map, ho]
    have hwk : o + 1 + k < l.length := by omega
    obtain ⟨_, _, ea, z9, k9⟩ := row_w (hL x1 (Fy F)) (i := o + 1 + k) hwk
    cases ea
    have ei : (o : Int) + 1 + (k : Int) = ((o + 1 + k : Nat) : Int) := by omega
    unfold loamref17_Decode_l3
    simp (disch := (first | omega | decide | (simp only [rsD] <;> omega) | fail)) only [↓rsC, rsK, rsL, ↓rsRdc1_1, tick_eq, tickV_eq, ne_eq, Int.reduceAdd, Int.reduceSub, Int.reduceMul, Int.reduceEq, Int.reduceLT, Int.reduceLE, Int.reduceToNat, Nat.reduceMul, Nat.reduceAdd, Nat.reduceSub, ←decide_not, kh, kb, hcj, ei, k9]
    have F1 := F.trans (Ed.more (by simp))
    refine loamref17_number_call (Gives.to (rnumber_spec (hP _ (Fy F1)) hs hosl hb _) fun x2 E2 => ?_)
    have F2 := F1.trans (E2.more (by simp))
    have B2 := (Bp.ext Ed (by simp)).ext E2 (by simp)
    have O2 := (Op.ext0 Ed).ext0 E2
    have zb2 := B2.lt
    have k2 := fun i => B2.cell (i := i)
    simp (disch := (first | omega | decide | (simp only [rsD] <;> omega) | fail)) only [↓rsC, rsK, rsL, ↓rsRdc1_1, tick_eq, tickV_eq, ne_eq, Int.reduceAdd, Int.reduceSub, Int.reduceMul, Int.reduceEq, Int.reduceLT, Int.reduceLE, Int.reduceToNat, Nat.reduceMul, Nat.reduceAdd, Nat.reduceSub, ←decide_not, kh, kb, hcj, ei, k9, k2]
    refine appIt O2 rfl (by simp; omega) fun v' x5 O5 T5 => ?_
    obtain ⟨F5, U5, n1, n2⟩ := grow F2 Up hnlt T5
    have B5 := B2.ext T5.ext n1
    obtain ⟨a3, c3, hv3, _⟩ := O5.slice
    have k5 := fun i => B5.cell (i := i)
    have f5 := fun i => B5.frozen (i := i)
    subst hv3
    simp (disch := (first | omega | decide | (simp only [rsD] <;> omega) | fail)) only [↓rsC, rsK, rsL, ↓rsRdc1_1, tick_eq, tickV_eq, ne_eq, Int.reduceAdd, Int.reduceSub, Int.reduceMul, Int.reduceEq, Int.reduceLT, Int.reduceLE, Int.reduceToNat, Nat.reduceMul, Nat.reduceAdd, Nat.reduceSub, ←decide_not, kh, kb, hcj, ei, k9, k2, k5, f5]
    have B6 := B5.set (i := 0) (v := .slice a3 ((decP l os o).take k ++ [numb os (wat l (o + 1 + k))]).length c3)
    have O6 := O5.ext (Ext.set (w := x5) (b := hn) (o := 0) (v := .slice a3 ((decP l os o).take k ++ [numb os (wat l (o + 1 + k))]).length c3)) (fun z hz hm => by simp only [List.mem_singleton] at hm; subst hm; exact n2 hz)
    have hsu : (decP l os o).take (k + 1) = (decP l os o).take k ++ [numb os (wat l (o + 1 + k))] := by
      rw [List.take_add_one, List.getElem?_eq_getElem (by omega)]
      simp [decP]
    rw [← hsu] at O6 B6 U5 ⊢
    exact hn2 _ ⟨F5.set' (.inl (by simp)), _, O6, B6, U5⟩
  · rintro u x1 hu ⟨F, vp, Op, Bp, Up⟩ nxt2
    simp only [List.map_cons, List.map_nil, List.cons.injEq, and_true] at hu
    rw [hu]
    have etk : (decP l os o).take (pN (wat l o)) = decP l os o := by rw [← hpl, List.take_length]
    rw [etk] at Op
    obtain ⟨a0, c0', hv0, hc0, _, hn0, R0, _⟩ := Op.slice
    subst hv0
    have Ox := R.O.ext F (fun z hz hm => by simp only [List.mem_singleton] at hm; subst hm; exact R.nv hz)
    have Bx := R.B.ext F hxn
    have kh := fun i => (R.H.ext F hhn).cell (i := i)
    have kb := fun i => Bp.cell (i := i)
    have kx := fun i => Bx.cell (i := i)
    have zbx := Bx.lt
    unfold loamref17_Decode_l3
    simp (disch := (first | omega | decide | (simp only [rsD] <;> omega) | fail)) only [↓rsC, rsK, rsL, ↓rsRdc1_1, tick_eq, tickV_eq, ne_eq, Int.reduceAdd, Int.reduceSub, Int.reduceMul, Int.reduceEq, Int.reduceLT, Int.reduceLE, Int.reduceToNat, Nat.reduceMul, Nat.reduceAdd, Nat.reduceSub, ←decide_not, kh, kx, kb]
    refine appN Ox (x := ⟨decP l os o, a0, c0', decD l o, da, dc⟩) rfl (by omega) fun v' x5 O5 T5 => ?_
    obtain ⟨F5, U5, n1, n2⟩ := grow (Fy F) R.U R.hxl T5
    have B5 := Bx.ext T5.ext n1
    obtain ⟨a3, c3, hv3, _⟩ := O5.slice
    have k5 := fun i => B5.cell (i := i)
    have f5 := fun i => B5.frozen (i := i)
    subst hv3
    simp (disch := (first | omega | decide | (simp only [rsD] <;> omega) | fail)) only [↓rsC, rsK, rsL, ↓rsRdc1_1, tick_eq, tickV_eq, ne_eq, Int.reduceAdd, Int.reduceSub, Int.reduceMul, Int.reduceEq, Int.reduceLT, Int.reduceLE, Int.reduceToNat, Nat.reduceMul, Nat.reduceAdd, Nat.reduceSub, ←decide_not, kh, kx, kb, k5, f5]
    have B6 := B5.set (i := 0) (v := .slice a3 (ns ++ [(⟨decP l os o, a0, c0', decD l o, da, dc⟩ : GN)]).length c3)
    have O6 := O5.ext (Ext.set (w := x5) (b := hx) (o := 0) (v := .slice a3 (ns ++ [(⟨decP l os o, a0, c0', decD l o, da, dc⟩ : GN)]).length c3)) (fun z hz hm => by simp only [List.mem_singleton] at hm; subst hm; exact n2 hz)
    refine hnx _ _ ⟨decP l os o, a0, c0', decD l o, da, dc⟩ (F5.set' (.inl (by simp))) O6 B6 U5 rfl rfl fun q hq => ?_
    have hvlt := R.O.lt
    have hxlt := R.B.lt
    have hA : NOk x1 q ∧ Apt (hx :: blk (.slice av ns.length cv)) q := by
      rcases List.mem_append.1 hq with hq | hq
      · obtain ⟨q1, q2⟩ := R.A q hq
        exact ⟨q1.ext F (q2.sub (by simp)), q2.sub (fun b hb => List.mem_cons_of_mem _ hb)⟩
      · rw [List.mem_singleton] at hq
        subst hq
        refine ⟨⟨R0, hc0, hn0, R.D.ext F (fun b o hb hm => R.da _ hb (by simp only [List.mem_singleton] at hm; rw [hm]; exact List.mem_cons_self ..)), R.dl, R.dn⟩, fun z hz _ hm => ?_, fun z hz _ hm => R.da z hz (List.mem_cons_of_mem _ hm)⟩
        have := Up z.block (by simp only at hz; rw [hz]; simp [blk, Value.ownBlock])
        rcases List.mem_cons.1 hm with e | e
        · omega
        · have := hvlt _ e; omega
    have hA2 := hA.1.ext (T5.ext.more (fun z hz => List.mem_cons_of_mem hx hz)) hA.2
    have hA3 : Apt (hx :: blk (.slice a3 (ns ++ [(⟨decP l os o, a0, c0', decD l o, da, dc⟩ : GN)]).length c3)) q := hA.2.more hA.1 fun b hb => by
      rcases List.mem_cons.1 hb with e | e
      · exact .inl (by rw [e]; exact List.mem_cons_self ..)
      · exact (T5.at' b e).imp (List.mem_cons_of_mem _) id
    exact ⟨hA2.ext (Ext.set.more (by simp)) hA3, hA3⟩
end Go.Proofs.Ytdpmidgeipibbaa
end
section
set_option linter.unusedVariables false
set_option linter.unusedSimpArgs false
set_option maxHeartbeats 4000000
namespace Go.Proofs.Ytdpmidgeipibbaa
open Go.Sh Go.RowKit

abbrev rsRdc2_0 := (And.intro @xu8_add (And.intro @xu8_mul (And.intro @xu8_lss (And.intro @xu8_gtr (And.intro @xu16_add (And.intro @xu16_mul (And.intro @xu16_lss (And.intro @xu16_gtr (And.intro @xu32_add (And.intro @xu32_mul (And.intro @xu32_lss (And.intro @xu32_gtr (And.intro @xu64_add (And.intro @xu64_mul (And.intro @xu64_lss (And.intro @xu64_gtr 
  (And.intro @xi64_lss (And.intro @xi64_gtr (And.intro @ld_3 (And.intro @ld_32 (And.intro @ld_34 (And.intro @ld_69 (And.intro @lr_34 (And.intro @fa_34_1 (And.intro @fa_84_0 (And.intro @fa_84_1 (And.intro @al_34 (And.intro @al_76 (And.intro @al_84 (And.intro @st_32 (And.intro @st_34 (And.intro @st_76 (And.intro @st_84 (And.intro @bd_34 (And.intro @bd_76_0_1 (And.intro @bd_76_1 
  (And.intro @bd_78_0_1 (And.intro @cv_69_3 (And.intro @ia_28 (And.intro @ia_66 (And.intro @ln_28 (And.intro @ln_49 (And.intro @ln_66 @bs_32_1)))))))))))))))))))))))))))))))))))))))))))
theorem RDecode_spec {w : World} {l : List (BitVec 64)} {a : Option Addr} {c : Nat} (h : RowAt w a (wrds l)) (hc : l.length ≤ c) (hn : a = none → c = 0) (hl : l.length ≤ 8192) : Yld Try.prog n_loamref17_Decode #[.slice a l.length c] w fun u w' => Ext [] w w' ∧ DecR w' l u := by
  refine loamref17_Decode_of ?_
  unfold loamref17_Decode
  have al : ∀ (y : World) (K : K1), xAlloc Try.prog 34 y K = K (ptr y.heap.size) (y.alloc (.cells #[.slice none 0 0, .slice none 0 0] 34)) := fun y K => xAlloc_r (by kernel_rfl)
  rw [al]
  have B0 : Blk (w.alloc (.cells #[.slice none 0 0, .slice none 0 0] 34)) w.heap.size 34 [.slice none 0 0, .slice none 0 0] := Blk.at rfl
  have X0 : Ext [] w (w.alloc (.cells #[.slice none 0 0, .slice none 0 0] 34)) := Ext.alloc _ _ _
  have h0 := h.ext0 X0
  obtain ⟨g0, hg0⟩ : ∃ g, g = w.heap.size := ⟨_, rfl⟩
  rw [← hg0] at B0 ⊢
  have zw : w.heap.size ≤ g0 := Nat.le_of_eq hg0.symm
  generalize w.alloc (.cells #[.slice none 0 0, .slice none 0 0] 34) = y0 at *
  refine (fun hx => hx) ?_
  have no : ¬ 8192 < l.length := by omega
  simp (disch := (first | omega | decide | (simp only [rsD] <;> omega) | fail)) only [↓rsC, rsK, rsL, ↓rsRdc2_0, tick_eq, tickV_eq, ne_eq, Int.reduceAdd, Int.reduceSub, Int.reduceMul, Int.reduceEq, Int.reduceLT, Int.reduceLE, Int.reduceToNat, Nat.reduceMul, Nat.reduceAdd, Nat.reduceSub, ←decide_not, eq_self]
  refine loamref17_Image_call (Yld.mono (rImage_spec l a c y0 h0 hc hn hl) ?_)
  rintro u y1 ⟨os, bad, hS, F1, a1, c1, rfl, hc1, _, R1⟩
  have hlen := img_len hS hl
  have k1 := fun i => (B0.ext F1 (by simp)).cell (i := i)
  have f1 := fun i => (B0.ext F1 (by simp)).frozen (i := i)
  by_cases hz : (imgG l os bad).length = 0
  case neg =>
    have hz' : 0 < ((imgG l os bad).length : Int) := by omega
    simp (disch := (first | omega | decide | (simp only [rsD] <;> omega) | fail)) only [↓rsC, rsK, rsL, ↓rsRdc2_0, tick_eq, tickV_eq, ne_eq, Int.reduceAdd, Int.reduceSub, Int.reduceMul, Int.reduceEq, Int.reduceLT, Int.reduceLE, Int.reduceToNat, Nat.reduceMul, Nat.reduceAdd, Nat.reduceSub, ←decide_not, hz', k1, f1]
    exact ⟨((X0.trans F1).set' (.inr zw)).set' (.inr zw), .inr ⟨fun os' D => hz (by rw [(img_dec hl hS).2 ⟨os', D⟩]; rfl), rfl⟩⟩
  have hem : imgG l os bad = [] := List.eq_nil_of_length_eq_zero hz
  have Fi := img_fine hl hS hem
  have D0 := fine_dec Fi
  have hroom := D0.room
  have htwo := D0.two
  obtain ⟨b, o, rfl, hlt, hc1⟩ := row_w (h0.ext0 F1) (i := 1) (by omega)
  rw [hz]
  simp (disch := (first | omega | decide | (simp only [rsD] <;> omega) | fail)) only [↓rsC, rsK, rsL, ↓rsRdc2_0, tick_eq, tickV_eq, ne_eq, Int.reduceAdd, Int.reduceSub, Int.reduceMul, Int.reduceEq, Int.reduceLT, Int.reduceLE, Int.reduceToNat, Nat.reduceMul, Nat.reduceAdd, Nat.reduceSub, ←decide_not, hc1]
  refine loamref1_Field_call (Gives.to (rField_spec _ _ _ y1) fun y2 F2 => ?_)
  have hnr := nR_lt l
  have efr : (fieldB (wat l 1) 0 16).toInt = (nR l : Int) := BitVec.toInt_eq_toNat_of_lt (by unfold nR at hnr; omega)
  simp (disch := (first | omega | decide | (simp only [rsD] <;> omega) | fail)) only [↓rsC, rsK, rsL, ↓rsRdc2_0, tick_eq, tickV_eq, ne_eq, Int.reduceAdd, Int.reduceSub, Int.reduceMul, Int.reduceEq, Int.reduceLT, Int.reduceLE, Int.reduceToNat, Nat.reduceMul, Nat.reduceAdd, Nat.reduceSub, ←decide_not, hc1, efr]
  rw [efr]
  have efm : (2 + 5 * (nR l : Int)) = ((2 + 5 * nR l : Nat) : Int) := by omega
  rw [efm]
  have F12 := F1.trans F2
  refine loamref17_Found_call (Yld.mono (rFoundN_spec l _ c (2 + 5 * nR l) l.length y2 (h0.ext0 F12) hl hroom (Nat.le_refl _)) ?_)
  rintro u y3 ⟨os', bad', pa, pc, hS', rfl, R3, F3, U3⟩
  obtain ⟨e1, e2⟩ := hS'.uniq Fi.sc
  obtain rfl := e1.symm
  obtain rfl := e2.symm
  have F13 := F12.trans F3
  simp (disch := (first | omega | decide | (simp only [rsD] <;> omega) | fail)) only [↓rsC, rsK, rsL, ↓rsRdc2_0, tick_eq, tickV_eq, ne_eq, Int.reduceAdd, Int.reduceSub, Int.reduceMul, Int.reduceEq, Int.reduceLT, Int.reduceLE, Int.reduceToNat, Nat.reduceMul, Nat.reduceAdd, Nat.reduceSub, ←decide_not, hc1, efr]
  obtain ⟨hx, hhx⟩ : ∃ g, g = y3.heap.size := ⟨_, rfl⟩
  have Bx0 : Blk (y3.alloc (.cells #[.slice none 0 0, .slice none 0 0] 34)) hx 34 [.slice none 0 0, .slice none 0 0] := Blk.at hhx
  have X4 : Ext [] y3 (y3.alloc (.cells #[.slice none 0 0, .slice none 0 0] 34)) := Ext.alloc _ _ _
  have zs4 : (y3.alloc (.cells #[.slice none 0 0, .slice none 0 0] 34)).heap.size = y3.heap.size + 1 := World.size_alloc _ _
  rw [← hhx] at zs4 ⊢
  have B03 := B0.ext F13 (by simp)
  have g0lt := B03.lt
  generalize y3.alloc (.cells #[.slice none 0 0, .slice none 0 0] 34) = y at *
  have Xy : Ext [] w y := X0.trans (F13.trans X4)
  have B0y := B03.ext X4 (by simp)
  have hxl : hx < y.heap.size := by omega
  have hxw : w.heap.size ≤ hx := by have := (X0.trans F13).size; omega
  have fresh : ∀ {w' : World}, Ext [hx] y w' → Ext [] w w' := fun F => Xy.new F (fun z hz => by simp only [List.mem_singleton] at hz; omega)
  have ne0 : g0 ∉ [hx] := by simp only [List.mem_singleton]; omega
  have nilb : ∀ z, z ∉ blk (.slice none 0 0) := by simp [blk, Value.ownBlock]
  obtain ⟨hsort, hall⟩ := Fi.sc.all
  have hcount := Fi.sc.count
  have hlb : ∀ y ∈ os, y < 8192 := fun y hy => by
    have := (hall y hy).2.2
    have := szW_pos (x := wat l y)
    omega
  have Ra : ∀ w' : World, Ext [hx] y w' → RowAt w' pa (nums os) := fun w' F => by
    by_cases he : os = []
    · subst he; exact .nil
    · obtain ⟨b2, o2, e2, hlt2, _⟩ := R3.get (by simpa using he)
      exact (R3.ext0 X4).ext F fun b' o' hb hm => by
        simp only [List.mem_singleton] at hm
        rw [e2] at hb
        cases hb
        omega
  have La : ∀ w' : World, Ext [hx] y w' → RowAt w' (some ⟨b, o, none⟩) (wrds l) := fun w' F => h.ext0 (fresh F)
  refine xLoop_n os.length (fun j => [i64 (j : Int)]) (fun j w' => Ext [hx] y w' ∧ ∃ v ns, ns.map bare = (decNs l os).take j ∧ OwnN w' v ns ∧ Blk w' hx 34 [v, .slice none 0 0] ∧ (∀ z ∈ blk v, y.heap.size ≤ z) ∧ ∀ x ∈ ns, NOk w' x ∧ Apt (hx :: blk v) x) rfl ⟨Ext.refl _ _, .slice none 0 0, [], by simp, Own.nil, Bx0, fun z hz => absurd hz (nilb z), by simp⟩ ?_ ?_
  · rintro j hj u x1 hu ⟨F, v, ns, hns, O, B, U, A⟩ nxt hnx
    simp only [List.map_cons, List.map_nil, List.cons.injEq, and_true] at hu
    rw [hu]
    have nsl : ns.length = j := by
      have := congrArg List.length hns
      rw [List.length_map, List.length_take, decNs_len] at this
      omega
    have hm : os[j] ∈ os := List.getElem_mem hj
    obtain ⟨h1, hok, hhi⟩ := hall _ hm
    obtain ⟨v1, v2, v3, v4, v5, v6, v7, v8⟩ := okW_v hok
    have hsu : (decNs l os).take (j + 1) = (decNs l os).take j ++ [decN l os os[j]] := by
      rw [List.take_add_one, List.getElem?_eq_getElem (by rw [decNs_len]; exact hj), decNs_get]
      rfl
    obtain ⟨bb, oo, epa, hbl, hcc⟩ := (Ra x1 F).at (i := j) (by simpa using hj)
    have hcj : x1.cell? ⟨bb, oo + j, none⟩ = some (i64 (os[j] : Int)) := by rw [hcc]; simp
    generalize ho : os[j] = o1 at *
    obtain ⟨_, _, ea, z9, k9⟩ := row_w (La x1 F) (i := o1) (by have := szW_pos (x := wat l o1); omega)
    cases ea
    have hnode : ∀ {w' : World} {hh hn : Nat} {da : Option Addr} {dc : Nat}, Rd y w' hx hh hn v ns l o1 da dc → loamref17_Decode_j1 (fun u w' => Ext [] w w' ∧ DecR w' l u) nxt (.slice (some ⟨b, o, none⟩) l.length c) (.slice pa os.length pc) (ptr hx) (i64 (j : Int)) (ptr hh) (ptr hn) w' := fun {w' hh hn da dc} R =>
      rdecNode (w0 := w) (g0 := g0) R hl hj ho hok hhi La Ra hsort (by omega) hlb (by omega) fun v' w'' x F' O' B' U' e1 e2 A' => hnx w'' ⟨F', v', ns ++ [x], by
        rw [List.map_append, hns, hsu, List.map_cons, List.map_nil]
        unfold bare decN
        rw [e1, e2], O', B', U', A'⟩
    have hcj' : x1.cell? ⟨bb, oo + j, none⟩ = some (i64 (o1 : Int)) := hcj
    unfold loamref17_Decode_l1
    rw [epa]
    rw [epa] at hnode
    simp (disch := (first | omega | decide | (simp only [rsD] <;> omega) | fail)) only [↓rsC, rsK, rsL, ↓rsRdc2_0, tick_eq, tickV_eq, ne_eq, Int.reduceAdd, Int.reduceSub, Int.reduceMul, Int.reduceEq, Int.reduceLT, Int.reduceLE, Int.reduceToNat, Nat.reduceMul, Nat.reduceAdd, Nat.reduceSub, ←decide_not, hc1, efr, hcj', k9]
    refine loamref14_Unpack_call (Gives.to (rUnpack_spec _ x1) fun x2 F2 => ?_)
    rw [v1, v2, v3, v4, v5]
    have hal : ∀ (K : Value → World → Prop), xAlloc Try.prog 84 x2 (fun t w => xStore Try.prog 84 t (hd (pN (wat l o1)) (bN (wat l o1)) false 0) w (fun _ w => K t w)) = K (ptr x2.heap.size) (x2.alloc (.cells #[i64 (pN (wat l o1) : Int), i64 (bN (wat l o1) : Int), .bool false, i64 0] 84)) := by
      intro K
      simp (disch := (first | omega | decide | (simp only [rsD] <;> omega) | fail)) only [↓rsC, rsK, rsL, ↓rsRdc2_0, tick_eq, tickV_eq, ne_eq, Int.reduceAdd, Int.reduceSub, Int.reduceMul, Int.reduceEq, Int.reduceLT, Int.reduceLE, Int.reduceToNat, Nat.reduceMul, Nat.reduceAdd, Nat.reduceSub, ←decide_not, hc1, efr, hcj', k9]
    rw [xEx0, xEx1, hal]
    have H50 : Blk (x2.alloc (.cells #[i64 (pN (wat l o1) : Int), i64 (bN (wat l o1) : Int), .bool false, i64 0] 84)) x2.heap.size 84 [i64 (pN (wat l o1) : Int), i64 (bN (wat l o1) : Int), .bool false, i64 0] := Blk.at rfl
    have X50 : Ext [] x2 (x2.alloc (.cells #[i64 (pN (wat l o1) : Int), i64 (bN (wat l o1) : Int), .bool false, i64 0] 84)) := Ext.alloc _ _ _
    have Ed := Ext.drew [] (x2.alloc (.cells #[i64 (pN (wat l o1) : Int), i64 (bN (wat l o1) : Int), .bool false, i64 0] 84))
    have H5 := H50.ext Ed (by simp)
    have X5 := F2.trans (X50.trans Ed)
    have zh : x1.heap.size ≤ x2.heap.size := F2.size
    generalize (x2.alloc (.cells #[i64 (pN (wat l o1) : Int), i64 (bN (wat l o1) : Int), .bool false, i64 0] 84)).drew = y5 at *
    obtain ⟨hh, hhh⟩ : ∃ g, g = x2.heap.size := ⟨_, rfl⟩
    rw [← hhh] at H5 zh ⊢
    have F5 := F.trans (X5.more (by simp))
    have O5 := O.ext0 X5
    have B5 := B.ext X5 (by simp)
    have A5 : ∀ x ∈ ns, NOk y5 x ∧ Apt (hx :: blk v) x := fun x hx' => ⟨(A x hx').1.ext0 X5, (A x hx').2⟩
    have zy : y.heap.size ≤ hh := by have := F.size; omega
    have hh5 := H5.lt
    have hx5 := B5.lt
    have v5lt := O5.lt
    obtain ⟨b6, o6, e6, _, c6⟩ := (Ra y5 F5).at (i := j) (by simpa using hj)
    rw [epa] at e6
    cases e6
    rw [List.getElem_map, ho] at c6
    have kh := fun i => H5.cell (i := i)
    have e8 : 8 * ((o1 : Int) + 1 + (pN (wat l o1) : Int)) = ((8 * (o1 + 1 + pN (wat l o1)) : Nat) : Int) := by omega
    have hdd : bytesW l (8 * (o1 + 1 + pN (wat l o1))) (bN (wat l o1)) = decD l o1 := by unfold decD; rw [Nat.mul_comm]
    have hxv : hx ∉ blk v := fun hm => by have := U hx hm; omega
    simp (disch := (first | omega | decide | (simp only [rsD] <;> omega) | fail)) only [↓rsC, rsK, rsL, ↓rsRdc2_0, tick_eq, tickV_eq, ne_eq, Int.reduceAdd, Int.reduceSub, Int.reduceMul, Int.reduceEq, Int.reduceLT, Int.reduceLE, Int.reduceToNat, Nat.reduceMul, Nat.reduceAdd, Nat.reduceSub, ←decide_not, hc1, efr, hcj', k9, c6, kh, e8]
    refine xAlt_i ?_ ?_
    · refine loamref14_Bytes_call (Yld.mono (rBytes_spec l _ c (8 * (o1 + 1 + pN (wat l o1))) (bN (wat l o1)) (La y5 F5) (by omega) (by omega)) ?_)
      rintro u y6 N6
      rw [hdd] at N6
      obtain ⟨da, dc, rfl, hdl, _, hdn, R6, _⟩ := N6.2.1.slice
      simp (disch := (first | omega | decide | (simp only [rsD] <;> omega) | fail)) only [↓rsC, rsK, rsL, ↓rsRdc2_0, tick_eq, tickV_eq, ne_eq, Int.reduceAdd, Int.reduceSub, Int.reduceMul, Int.reduceEq, Int.reduceLT, Int.reduceLE, Int.reduceToNat, Nat.reduceMul, Nat.reduceAdd, Nat.reduceSub, ←decide_not, hc1, efr, hcj', k9, c6, kh, e8]
      have N7 : Blk (y6.alloc (.cells #[.slice none 0 0, .slice da (decD l o1).length dc] 76)) y6.heap.size 76 [.slice none 0 0, .slice da (decD l o1).length dc] := Blk.at rfl
      have X7 : Ext [] y6 (y6.alloc (.cells #[.slice none 0 0, .slice da (decD l o1).length dc] 76)) := Ext.alloc _ _ _
      generalize y6.alloc (.cells #[.slice none 0 0, .slice da (decD l o1).length dc] 76) = y7 at *
      obtain ⟨hn, hhn⟩ : ∃ g, g = y6.heap.size := ⟨_, rfl⟩
      rw [← hhn] at N7 ⊢
      have z56 := N6.1.size
      have X57 := N6.1.trans X7
      have d6 : ∀ z, da = some z → y5.heap.size ≤ z.block ∧ z.block < y6.heap.size := fun z hz => ⟨N6.2.2 _ (by rw [hz]; simp [blk, Value.ownBlock]), N6.2.1.lt _ (by rw [hz]; simp [blk, Value.ownBlock])⟩
      exact hnode ⟨F5.trans (X57.more (by simp)), O5.ext0 X57, B5.ext X57 (by simp), U, fun x hx' => ⟨(A5 x hx').1.ext0 X57, (A5 x hx').2.more ((A5 x hx').1.ext0 N6.1) (fun b hb => by
          rcases List.mem_cons.1 hb with e | e
          · exact .inr (by omega)
          · exact .inl e)⟩, H5.ext X57 (by simp), N7, R6.ext0 X7, hdl, hdn, fun z hz hm => by
          have := d6 z hz
          rcases List.mem_cons.1 hm with e | e
          · omega
          · rcases List.mem_cons.1 e with e | e
            · omega
            · have := v5lt _ e; omega, by omega, zy, by omega, hxl, fun hm => by have := v5lt _ hm; omega⟩
    · have N60 : Blk (y5.alloc (.cells #[.slice none 0 0, .slice none 0 0] 76)) y5.heap.size 76 [.slice none 0 0, .slice none 0 0] := Blk.at rfl
      have X6 : Ext [] y5 (y5.alloc (.cells #[.slice none 0 0, .slice none 0 0] 76)) := Ext.alloc _ _ _
      generalize y5.alloc (.cells #[.slice none 0 0, .slice none 0 0] 76) = y6 at *
      obtain ⟨hn, hhn⟩ : ∃ g, g = y5.heap.size := ⟨_, rfl⟩
      rw [← hhn] at N60 ⊢
      have hn6 := N60.lt
      refine loamref14_Bytes_call (Yld.mono (rBytes_spec l _ c (8 * (o1 + 1 + pN (wat l o1))) (bN (wat l o1)) (La y6 (F5.trans (X6.more (by simp)))) (by omega) (by omega)) ?_)
      rintro u y7 N7
      rw [hdd] at N7
      obtain ⟨da, dc, rfl, hdl, _, hdn, R7, _⟩ := N7.2.1.slice
      have d7 : ∀ z, da = some z → y6.heap.size ≤ z.block := fun z hz => N7.2.2 _ (by rw [hz]; simp [blk, Value.ownBlock])
      have X57 := X6.trans N7.1
      have N6 := N60.ext N7.1 (by simp)
      have k6 := fun i => N6.cell (i := i)
      have f6 := fun i => N6.frozen (i := i)
      simp (disch := (first | omega | decide | (simp only [rsD] <;> omega) | fail)) only [↓rsC, rsK, rsL, ↓rsRdc2_0, tick_eq, tickV_eq, ne_eq, Int.reduceAdd, Int.reduceSub, Int.reduceMul, Int.reduceEq, Int.reduceLT, Int.reduceLE, Int.reduceToNat, Nat.reduceMul, Nat.reduceAdd, Nat.reduceSub, ←decide_not, hc1, efr, hcj', k9, c6, kh, e8, k6, f6]
      have XE : Ext [hn] y7 ((y7.setCell ⟨hn, 0, none⟩ (.slice none 0 0)).setCell ⟨hn, 1, none⟩ (.slice da (decD l o1).length dc)) := ((Ext.refl _ _).set' (.inl (by simp))).set' (.inl (by simp))
      have N8 := (N6.set (i := 0) (v := .slice none 0 0)).set (i := 1) (v := .slice da (decD l o1).length dc)
      have X58 : Ext [] y5 ((y7.setCell ⟨hn, 0, none⟩ (.slice none 0 0)).setCell ⟨hn, 1, none⟩ (.slice da (decD l o1).length dc)) := (X57.set' (.inr (by omega))).set' (.inr (by omega))
      generalize (y7.setCell ⟨hn, 0, none⟩ (.slice none 0 0)).setCell ⟨hn, 1, none⟩ (.slice da (decD l o1).length dc) = y8 at *
      exact hnode ⟨F5.trans (X58.more (by simp)), O5.ext0 X58, B5.ext X58 (by simp), U, fun x hx' => ⟨(A5 x hx').1.ext0 X58, (A5 x hx').2.more (A5 x hx').1 (fun b hb => by
          rcases List.mem_cons.1 hb with e | e
          · exact .inr (by omega)
          · exact .inl e)⟩, H5.ext X58 (by simp), N8, R7.ext XE (fun b o hb hm => by
          have := d7 _ hb
          simp only [List.mem_singleton] at hm
          simp only at this
          omega), hdl, hdn, fun z hz hm => by
          have := d7 z hz
          rcases List.mem_cons.1 hm with e | e
          · omega
          · rcases List.mem_cons.1 e with e | e
            · omega
            · have := v5lt _ e; omega, by omega, zy, by omega, hxl, fun hm => by have := v5lt _ hm; omega⟩
  rintro u x1 hu ⟨F, v, ns, hns, O, B, U, A⟩ nxt
  simp only [List.map_cons, List.map_nil, List.cons.injEq, and_true] at hu
  rw [hu]
  have hns : ns.map bare = decNs l os := by rw [hns]; exact List.take_of_length_le (by rw [decNs_len]; exact Nat.le_refl _)
  have nsl : ns.length = os.length := by
    have := congrArg List.length hns
    rwa [List.length_map, decNs_len] at this
  unfold loamref17_Decode_l1
  simp (disch := (first | omega | decide | (simp only [rsD] <;> omega) | fail)) only [↓rsC, rsK, rsL, ↓rsRdc2_0, tick_eq, tickV_eq, ne_eq, Int.reduceAdd, Int.reduceSub, Int.reduceMul, Int.reduceEq, Int.reduceLT, Int.reduceLE, Int.reduceToNat, Nat.reduceMul, Nat.reduceAdd, Nat.reduceSub, ←decide_not, hc1, efr]
  refine xLoop_n (nR l) (fun j => [i64 (j : Int)]) (fun j w' => Ext [hx] y w' ∧ OwnN w' v ns ∧ ∃ v2, OwnRt w' v2 ((decRs l os).take j) ∧ Blk w' hx 34 [v, v2] ∧ (∀ z ∈ blk v2, y.heap.size ≤ z) ∧ (∀ z ∈ blk v2, z ∉ blk v) ∧ ∀ x ∈ ns, NOk w' x ∧ Apt (hx :: (blk v ++ blk v2)) x) rfl ⟨F, O, .slice none 0 0, Own.nil, B, fun z hz => absurd hz (nilb z), fun z hz => absurd hz (nilb z), fun x hx' => ⟨(A x hx').1, by have := (A x hx').2; simpa [blk, Value.ownBlock] using this⟩⟩ ?_ ?_
  · rintro j hj u x1 hu ⟨F, O, v2, R, B, U2, D, A⟩ nxt hnx
    simp only [List.map_cons, List.map_nil, List.cons.injEq, and_true] at hu
    rw [hu]
    obtain ⟨a0, c0', hv0, _⟩ := R.slice
    subst hv0
    have hlen : ((decRs l os).take j).length = j := by rw [List.length_take, decRs_len]; omega
    have ea : (2 + 5 * (j : Int)) = ((2 + 5 * j : Nat) : Int) := by omega
    have ea4 : ((2 + 5 * j : Nat) : Int) + 4 = ((2 + 5 * j + 4 : Nat) : Int) := by omega
    unfold loamref17_Decode_l4
    simp (disch := (first | omega | decide | (simp only [rsD] <;> omega) | fail)) only [↓rsC, rsK, rsL, ↓rsRdc2_0, tick_eq, tickV_eq, ne_eq, Int.reduceAdd, Int.reduceSub, Int.reduceMul, Int.reduceEq, Int.reduceLT, Int.reduceLE, Int.reduceToNat, Nat.reduceMul, Nat.reduceAdd, Nat.reduceSub, ←decide_not, hc1, efr, ea]
    refine loamref17_name_call (Gives.to (rname_spec l (some ⟨b, o, none⟩) c (2 + 5 * j) x1 (La x1 F) hl (by omega)) fun x3 F3 => ?_)
    rw [if_pos (Fi.rt j hj).1]
    have Ed := F3.trans (Ext.drew [] x3)
    have Fd := F.trans (Ed.more (by simp))
    have kb := fun i => (B.ext Ed (by simp)).cell (i := i)
    obtain ⟨_, _, ew, _, kw⟩ := row_w (La x3 (F.trans (F3.more (by simp)))) (i := 2 + 5 * j + 4) (by omega)
    cases ew
    simp (disch := (first | omega | decide | (simp only [rsD] <;> omega) | fail)) only [↓rsC, rsK, rsL, ↓rsRdc2_0, tick_eq, tickV_eq, ne_eq, Int.reduceAdd, Int.reduceSub, Int.reduceMul, Int.reduceEq, Int.reduceLT, Int.reduceLE, Int.reduceToNat, Nat.reduceMul, Nat.reduceAdd, Nat.reduceSub, ←decide_not, hc1, efr, ea, kb, ea4, kw]
    refine loamref17_number_call (Gives.to (rnumber_spec (Ra _ Fd) hsort (by omega) hlb _) fun x2 F2 => ?_)
    have F02 := Fd.trans (F2.more (by simp))
    have B2 := (B.ext Ed (by simp)).ext F2 (by simp)
    have R2 := (R.ext0 Ed).ext0 F2
    have O2 := (O.ext0 Ed).ext0 F2
    have zb2 := B2.lt
    have k2 := fun i => B2.cell (i := i)
    simp (disch := (first | omega | decide | (simp only [rsD] <;> omega) | fail)) only [↓rsC, rsK, rsL, ↓rsRdc2_0, tick_eq, tickV_eq, ne_eq, Int.reduceAdd, Int.reduceSub, Int.reduceMul, Int.reduceEq, Int.reduceLT, Int.reduceLE, Int.reduceToNat, Nat.reduceMul, Nat.reduceAdd, Nat.reduceSub, ←decide_not, hc1, efr, ea, kb, ea4, kw, k2]
    refine appR R2 (x := ⟨nameS l (2 + 5 * j), numb os (wat l (2 + 5 * j + 4))⟩) rfl (by omega) fun v' x5 R5 T5 => ?_
    obtain ⟨F5, U5, n1, n2⟩ := grow F02 U2 hxl T5
    have B5 := B2.ext T5.ext n1
    have O5 := O2.ext T5.ext (fun z hz hm => D z hm hz)
    obtain ⟨a3, c3, hv3, _⟩ := R5.slice
    have k5 := fun i => B5.cell (i := i)
    have f5 := fun i => B5.frozen (i := i)
    have hsu : (decRs l os).take (j + 1) = (decRs l os).take j ++ [⟨nameS l (2 + 5 * j), numb os (wat l (2 + 5 * j + 4))⟩] := by
      rw [List.take_add_one, List.getElem?_eq_getElem (by rw [decRs_len]; exact hj), decRs_get]
      rfl
    rw [← hsu] at R5 hv3
    subst hv3
    simp (disch := (first | omega | decide | (simp only [rsD] <;> omega) | fail)) only [↓rsC, rsK, rsL, ↓rsRdc2_0, tick_eq, tickV_eq, ne_eq, Int.reduceAdd, Int.reduceSub, Int.reduceMul, Int.reduceEq, Int.reduceLT, Int.reduceLE, Int.reduceToNat, Nat.reduceMul, Nat.reduceAdd, Nat.reduceSub, ←decide_not, hc1, efr, ea, kb, ea4, kw, k2, k5, f5]
    have B6 := B5.set (i := 1) (v := .slice a3 ((decRs l os).take (j + 1)).length c3)
    have hxv : hx ∉ blk v := fun hm => by have := U _ hm; omega
    have D5 : ∀ z ∈ blk (.slice a3 ((decRs l os).take (j + 1)).length c3), z ∉ blk v := fun z hz hm => by
      rcases T5.at' z hz with h1 | h1
      · exact D z h1 hm
      · have := O2.lt z hm
        omega
    have R6 := R5.ext (Ext.set (w := x5) (b := hx) (o := 1) (v := .slice a3 ((decRs l os).take (j + 1)).length c3)) (fun z hz hm => by simp only [List.mem_singleton] at hm; subst hm; exact n2 hz)
    have O6 := O5.ext (Ext.set (w := x5) (b := hx) (o := 1) (v := .slice a3 ((decRs l os).take (j + 1)).length c3)) (fun z hz hm => by simp only [List.mem_singleton] at hm; subst hm; exact hxv hz)
    refine hnx _ ⟨F5.set' (.inl (by simp)), O6, _, R6, B6, U5, D5, fun q hq => ?_⟩
    have hA : NOk x2 q ∧ Apt (hx :: (blk v ++ blk (.slice a0 ((decRs l os).take j).length c0'))) q := ⟨((A q hq).1.ext0 Ed).ext0 F2, (A q hq).2⟩
    have hA2 := hA.1.ext (T5.ext.more (fun z hz => List.mem_cons_of_mem hx (List.mem_append_right _ hz))) hA.2
    have hA3 : Apt (hx :: (blk v ++ blk (.slice a3 ((decRs l os).take (j + 1)).length c3))) q := hA.2.more hA.1 fun b hb => by
      rcases List.mem_cons.1 hb with e | e
      · exact .inl (by rw [e]; exact List.mem_cons_self ..)
      · rcases List.mem_append.1 e with e | e
        · exact .inl (List.mem_cons_of_mem _ (List.mem_append_left _ e))
        · exact (T5.at' b e).imp (fun h => List.mem_cons_of_mem _ (List.mem_append_right _ h)) id
    exact ⟨hA2.ext (Ext.set.more (by simp)) hA3, hA3⟩
  rintro u x1 hu ⟨F, O, v2, R, B, U2, D, A⟩ nxt
  simp only [List.map_cons, List.map_nil, List.cons.injEq, and_true] at hu
  rw [hu]
  have etk : (decRs l os).take (nR l) = decRs l os := List.take_of_length_le (by rw [decRs_len]; exact Nat.le_refl _)
  rw [etk] at R
  obtain ⟨na, nc, hvn, hnc, _, hnn, Rn, _⟩ := O.slice
  obtain ⟨ra, rc, hvr, hrc, _, hrn, Rr, _⟩ := R.slice
  subst hvn hvr
  have k1 := fun i => B.cell (i := i)
  have B01 := B0y.ext F ne0
  have k01 := fun i => B01.cell (i := i)
  have f01 := fun i => B01.frozen (i := i)
  unfold loamref17_Decode_l4
  simp (disch := (first | omega | decide | (simp only [rsD] <;> omega) | fail)) only [↓rsC, rsK, rsL, ↓rsRdc2_0, tick_eq, tickV_eq, ne_eq, Int.reduceAdd, Int.reduceSub, Int.reduceMul, Int.reduceEq, Int.reduceLT, Int.reduceLE, Int.reduceToNat, Nat.reduceMul, Nat.reduceAdd, Nat.reduceSub, ←decide_not, hc1, efr, k1, k01, f01]
  have Fw := fresh F
  have FE : Ext [g0] x1 ((x1.setCell ⟨g0, 0, none⟩ (.slice na ns.length nc)).setCell ⟨g0, 1, none⟩ (.slice ra (decRs l os).length rc)) := ((Ext.refl _ _).set' (.inl (by simp))).set' (.inl (by simp))
  refine ⟨(Fw.set' (.inr zw)).set' (.inr zw), .inl ⟨os, na, nc, ra, rc, ns, D0, hns, rfl, ?_⟩⟩
  have nna : ∀ b o, na = some ⟨b, o, none⟩ → b ∉ [g0] := fun b o hb hm => by
    have := U b (by rw [hb]; simp [blk, Value.ownBlock])
    simp only [List.mem_singleton] at hm
    omega
  have nra : ∀ b o, ra = some ⟨b, o, none⟩ → b ∉ [g0] := fun b o hb hm => by
    have := U2 b (by rw [hb]; simp [blk, Value.ownBlock])
    simp only [List.mem_singleton] at hm
    omega
  refine ⟨Rn.ext FE nna, hnc, hnn, Rr.ext FE nra, hrc, hrn, fun q hq => ?_⟩
  have hA := A q hq
  have hA2 := hA.2.cons hA.1 B01 (by simp)
  exact hA.1.ext (FE.more (by simp)) hA2
end Go.Proofs.Ytdpmidgeipibbaa
end
section
set_option linter.unusedVariables false
set_option linter.unusedSimpArgs false
set_option maxHeartbeats 4000000
namespace Go.Proofs.Ytdpmidgeipibbaa
open Go.Sh Go.RowKit

end Go.Proofs.Ytdpmidgeipibbaa
end
section
set_option linter.unusedVariables false
set_option linter.unusedSimpArgs false
set_option maxHeartbeats 4000000
namespace Go.Proofs.Ytdpmidgeipibbaa
open Go.Sh Go.RowKit

theorem gis_nil (w : World) : GIs w none 0 none 0 [] [] := ⟨.nil, Nat.le_refl _, fun _ => rfl, .nil, Nat.le_refl _, fun _ => rfl, by simp⟩
theorem few_nil : FewH [] [] := ⟨by simp, by simp, by simp⟩
/-- what decoding gives: a graph, whether one or none -/
theorem decR_any {w' : World} {l : List (BitVec 64)} {u : Value} (hl : l.length ≤ 8192) (D : DecR w' l u) : ∃ na nc ra rc ns rs, ∃ e : Int, u = .tuple #[gV na nc ra rc ns rs, i64 e] ∧ GIs w' na nc ra rc ns rs ∧ FewH ns rs ∧
    ((e = 0 ∧ ∃ os, DecOk l os ∧ ns.map bare = decNs l os ∧ rs = decRs l os) ∨ (e = 2 ∧ ns = [] ∧ rs = [] ∧ ∀ os, ¬ DecOk l os)) := by
  rcases D with ⟨os, na, nc, ra, rc, ns, DO, hb, rfl, G⟩ | ⟨hno, rfl⟩
  · refine ⟨na, nc, ra, rc, ns, _, 0, rfl, G, ?_, .inl ⟨rfl, os, DO, hb, rfl⟩⟩
    have hg : GoodG ns (decRs l os) := by rw [← bare_good, hb]; exact DO.good
    have hc := DO.sc.count
    have hn : ns.length = os.length := by simpa [decNs] using congrArg List.length hb
    refine ⟨by omega, by have := hg.r; omega, fun x hx => by have := hg.x x hx; omega⟩
  · exact ⟨none, 0, none, 0, [], [], 2, rfl, gis_nil _, few_nil, .inr ⟨rfl, rfl, rfl, hno⟩⟩
abbrev rsImg6_0 := (And.intro @xu8_com (And.intro @xu8_eql (And.intro @xu8_neq (And.intro @xu8_gtr (And.intro @xu16_com (And.intro @xu16_eql (And.intro @xu16_neq (And.intro @xu16_gtr (And.intro @xu32_com (And.intro @xu32_eql (And.intro @xu32_neq (And.intro @xu32_gtr (And.intro @xu64_com (And.intro @xu64_eql (And.intro @xu64_neq (And.intro @xu64_gtr 
  (And.intro @xi64_gtr (And.intro @xi64_eql (And.intro @xi64_neq (And.intro @xi64_neg (And.intro @ld_25 (And.intro @ld_34 (And.intro @al_25 (And.intro @al_34 (And.intro @st_25 (And.intro @st_34 @ln_28))))))))))))))))))))))))))
theorem ImageWords_spec (l : List (BitVec 64)) (a : Option Addr) (n c : Nat) (w : World) (ha : WordsArg w l a n c) : Gives Try.prog n_loamlaw23_ImageWords #[.slice a n c] w (.bool true) := by
  have hn := ha.len
  subst hn
  refine loamlaw23_ImageWords_of ?_
  unfold loamlaw23_ImageWords
  refine loamlaw23_known_call (Gives.to (known23_spec w) fun w1 F1 => ?_)
  simp (disch := (first | omega | decide | (simp only [rsD] <;> omega) | fail)) only [↓rsC, rsK, rsL, ↓rsImg6_0, tick_eq, tickV_eq, ne_eq, Int.reduceAdd, Int.reduceSub, Int.reduceMul, Int.reduceEq, Int.reduceLT, Int.reduceLE, Int.reduceToNat, Nat.reduceMul, Nat.reduceAdd, Nat.reduceSub, ←decide_not, eq_self]
  by_cases hl : 300 < l.length
  · simp (disch := (first | omega | decide | (simp only [rsD] <;> omega) | fail)) only [↓rsC, rsK, rsL, ↓rsImg6_0, tick_eq, tickV_eq, ne_eq, Int.reduceAdd, Int.reduceSub, Int.reduceMul, Int.reduceEq, Int.reduceLT, Int.reduceLE, Int.reduceToNat, Nat.reduceMul, Nat.reduceAdd, Nat.reduceSub, ←decide_not, eq_self]
    exact ⟨by trivial, F1⟩
  simp (disch := (first | omega | decide | (simp only [rsD] <;> omega) | fail)) only [↓rsC, rsK, rsL, ↓rsImg6_0, tick_eq, tickV_eq, ne_eq, Int.reduceAdd, Int.reduceSub, Int.reduceMul, Int.reduceEq, Int.reduceLT, Int.reduceLE, Int.reduceToNat, Nat.reduceMul, Nat.reduceAdd, Nat.reduceSub, ←decide_not, eq_self]
  refine image_Decode_call (Yld.mono (iDecode_spec (ha.row.ext0 F1) ha.cap ha.nil (by omega)) ?_)
  rintro u w2 ⟨F2, D2⟩
  obtain ⟨na, nc, ra, rc, ns, rs, e, rfl, G2, hf2, C2⟩ := decR_any (by omega) D2
  simp (disch := (first | omega | decide | (simp only [rsD] <;> omega) | fail)) only [↓rsC, rsK, rsL, ↓rsImg6_0, tick_eq, tickV_eq, ne_eq, Int.reduceAdd, Int.reduceSub, Int.reduceMul, Int.reduceEq, Int.reduceLT, Int.reduceLE, Int.reduceToNat, Nat.reduceMul, Nat.reduceAdd, Nat.reduceSub, ←decide_not, eq_self]
  have B3 : Blk (w2.alloc (.cells #[.slice na ns.length nc, .slice ra rs.length rc] 25)) w2.heap.size 25 [.slice na ns.length nc, .slice ra rs.length rc] := Blk.at rfl
  have X3 : Ext [] w2 (w2.alloc (.cells #[.slice na ns.length nc, .slice ra rs.length rc] 25)) := Ext.alloc _ _ _
  generalize w2.alloc (.cells #[.slice na ns.length nc, .slice ra rs.length rc] 25) = w3 at *
  generalize w2.heap.size = g3 at *
  have F13 := F1.trans (F2.trans X3)
  refine loamref17_Decode_call (Yld.mono (RDecode_spec (ha.row.ext0 F13) ha.cap ha.nil (by omega)) ?_)
  rintro u w4 ⟨F4, D4⟩
  obtain ⟨na4, nc4, ra4, rc4, ns4, rs4, e4, rfl, G4, hf4, C4⟩ := decR_any (by omega) D4
  have key : e = e4 ∧ SameG ns rs ns4 rs4 := by
    rcases C2 with ⟨e0, os, DO, hb, hr⟩ | ⟨e0, h1, h2, hno⟩
    · rcases C4 with ⟨e5, os', DO', hb', hr'⟩ | ⟨_, _, _, hno⟩
      · obtain ⟨rfl, _⟩ := DO.sc.uniq DO'.sc
        exact ⟨by rw [e0, e5], hb.trans hb'.symm, hr.trans hr'.symm⟩
      · exact absurd DO (hno _)
    · rcases C4 with ⟨_, os', DO', _⟩ | ⟨e5, h3, h4, _⟩
      · exact absurd DO' (hno _)
      · exact ⟨by rw [e0, e5], by rw [h1, h3], by rw [h2, h4]⟩
  obtain ⟨rfl, hsame⟩ := key
  have hal : ∀ (K : Value → World → Prop), xAlloc Try.prog 34 w4 (fun t w => xStore Try.prog 34 t (gV na4 nc4 ra4 rc4 ns4 rs4) w (fun _ w => K t w)) = K (ptr w4.heap.size) (w4.alloc (.cells #[.slice na4 ns4.length nc4, .slice ra4 rs4.length rc4] 34)) := by
    intro K
    simp (disch := (first | omega | decide | (simp only [rsD] <;> omega) | fail)) only [↓rsC, rsK, rsL, ↓rsImg6_0, tick_eq, tickV_eq, ne_eq, Int.reduceAdd, Int.reduceSub, Int.reduceMul, Int.reduceEq, Int.reduceLT, Int.reduceLE, Int.reduceToNat, Nat.reduceMul, Nat.reduceAdd, Nat.reduceSub, ←decide_not, eq_self]
  rw [xEx0, xEx1, hal]
  have B5 : Blk (w4.alloc (.cells #[.slice na4 ns4.length nc4, .slice ra4 rs4.length rc4] 34)) w4.heap.size 34 [.slice na4 ns4.length nc4, .slice ra4 rs4.length rc4] := Blk.at rfl
  have X5 : Ext [] w4 (w4.alloc (.cells #[.slice na4 ns4.length nc4, .slice ra4 rs4.length rc4] 34)) := Ext.alloc _ _ _
  have Xd : Ext [] (w4.alloc (.cells #[.slice na4 ns4.length nc4, .slice ra4 rs4.length rc4] 34)) (w4.alloc (.cells #[.slice na4 ns4.length nc4, .slice ra4 rs4.length rc4] 34)).drew := Ext.drew [] _
  have B5 := B5.ext Xd (by simp)
  have X5 := X5.trans Xd
  generalize (w4.alloc (.cells #[.slice na4 ns4.length nc4, .slice ra4 rs4.length rc4] 34)).drew = w5 at *
  generalize w4.heap.size = g5 at *
  have F35 := F4.trans X5
  have F15 := F13.trans F35
  have B35 := B3.ext F35 (by simp)
  have k3 := fun i => B35.cell (i := i)
  have k5 := fun i => B5.cell (i := i)
  have hn1 := hf2.n
  have hn2 := hf2.r
  have Gs := (G2.ext0 X3).ext0 F35
  simp (disch := (first | omega | decide | (simp only [rsD] <;> omega) | fail)) only [↓rsC, rsK, rsL, ↓rsImg6_0, tick_eq, tickV_eq, ne_eq, Int.reduceAdd, Int.reduceSub, Int.reduceMul, Int.reduceEq, Int.reduceLT, Int.reduceLE, Int.reduceToNat, Nat.reduceMul, Nat.reduceAdd, Nat.reduceSub, ←decide_not, k3, k5]
  refine loamlaw17_Of_call (Yld.mono (Of_spec17 Gs (by omega) (by omega)) ?_)
  rintro u w6 ⟨F6, na6, nc6, ra6, rc6, rfl, G6⟩
  have k6 := fun i => (B5.ext F6 (by simp)).cell (i := i)
  simp (disch := (first | omega | decide | (simp only [rsD] <;> omega) | fail)) only [↓rsC, rsK, rsL, ↓rsImg6_0, tick_eq, tickV_eq, ne_eq, Int.reduceAdd, Int.reduceSub, Int.reduceMul, Int.reduceEq, Int.reduceLT, Int.reduceLE, Int.reduceToNat, Nat.reduceMul, Nat.reduceAdd, Nat.reduceSub, ←decide_not, k3, k5, k6]
  refine loamref17_Equal_call (Yld.mono (REqual_spec G6 ((G4.ext0 X5).ext0 F6) hf2 hf4) ?_)
  intro u w7 hb
  obtain ⟨rfl, F7⟩ := boolR_true hb hsame
  have F57 := F6.trans F7
  have k7 := fun i => (B35.ext F57 (by simp)).cell (i := i)
  rcases C2 with ⟨rfl, os, DO, hbr, hr⟩ | ⟨rfl, h1, h2, hno⟩
  rotate_left
  · simp (disch := (first | omega | decide | (simp only [rsD] <;> omega) | fail)) only [↓rsC, rsK, rsL, ↓rsImg6_0, tick_eq, tickV_eq, ne_eq, Int.reduceAdd, Int.reduceSub, Int.reduceMul, Int.reduceEq, Int.reduceLT, Int.reduceLE, Int.reduceToNat, Nat.reduceMul, Nat.reduceAdd, Nat.reduceSub, ←decide_not, k3, k5, k6]
    exact ⟨by trivial, F15.trans F57⟩
  subst hr
  have hg : GoodG ns (decRs l os) := by rw [← bare_good, hbr]; exact DO.good
  have hE : encW ns (decRs l os) = l := by rw [← bare_enc, hbr]; exact DO.enc
  have hlen := enc_len hg
  rw [hE] at hlen
  simp (disch := (first | omega | decide | (simp only [rsD] <;> omega) | fail)) only [↓rsC, rsK, rsL, ↓rsImg6_0, tick_eq, tickV_eq, ne_eq, Int.reduceAdd, Int.reduceSub, Int.reduceMul, Int.reduceEq, Int.reduceLT, Int.reduceLE, Int.reduceToNat, Nat.reduceMul, Nat.reduceAdd, Nat.reduceSub, ←decide_not, k3, k5, k6, k7]
  refine image_Encode_call (Yld.mono (iEncode_spec (Gs.ext0 F57) hf2) ?_)
  rintro u w8 (⟨hne, _⟩ | ⟨_, _, _, a8, c8, rfl, _, _, R8, F8⟩)
  · exfalso
    apply hne
    unfold encC
    rw [if_neg (by rw [chk_zero.2 hg]; simp), if_neg (by omega)]
  rw [hE] at R8 ⊢
  simp (disch := (first | omega | decide | (simp only [rsD] <;> omega) | fail)) only [↓rsC, rsK, rsL, ↓rsImg6_0, tick_eq, tickV_eq, ne_eq, Int.reduceAdd, Int.reduceSub, Int.reduceMul, Int.reduceEq, Int.reduceLT, Int.reduceLE, Int.reduceToNat, Nat.reduceMul, Nat.reduceAdd, Nat.reduceSub, ←decide_not, k3, k5, k6, k7]
  refine loamlaw23_words_call (Gives.to (w23_spec R8 (ha.row.ext0 (F15.trans (F57.trans F8))) (by omega) (by omega)) fun w9 F9 => ?_)
  rw [decide_eq_true rfl]
  simp (disch := (first | omega | decide | (simp only [rsD] <;> omega) | fail)) only [↓rsC, rsK, rsL, ↓rsImg6_0, tick_eq, tickV_eq, ne_eq, Int.reduceAdd, Int.reduceSub, Int.reduceMul, Int.reduceEq, Int.reduceLT, Int.reduceLE, Int.reduceToNat, Nat.reduceMul, Nat.reduceAdd, Nat.reduceSub, ←decide_not, k3, k5, k6, k7]
  exact ⟨by trivial, F15.trans (F57.trans (F8.trans F9))⟩
end Go.Proofs.Ytdpmidgeipibbaa
end
