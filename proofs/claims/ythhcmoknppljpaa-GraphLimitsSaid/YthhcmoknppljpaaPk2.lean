/- The statement GraphLimits walked (sq). -/
import Derived.Test.YthhcmoknppljpaaPk1
section
set_option linter.unusedVariables false
set_option linter.unusedSimpArgs false
set_option maxHeartbeats 4000000
namespace Go.Proofs.Ythhcmoknppljpaa
open Go.Sh Go.RowKit

theorem blk_al {w : World} {e : TypeId} {cs : List Value} {g : Nat} (h : g = w.heap.size) : Blk (w.alloc (.cells cs.toArray e)) g e cs := Blk.at h
theorem blk_up {w : World} {e : TypeId} {cs : List Value} {g : Nat} {o : Obj} (h : Blk w g e cs) : Blk (w.alloc o) g e cs := h.ext (Ext.alloc [] _ _) (by simp)
theorem limRs_succ (n : Nat) : limRs (n + 1) = limRs n ++ [limR n] := by
  unfold limRs
  rw [List.range_succ, List.map_append]
  rfl
abbrev rsLim1_0 := (And.intro @xu8_add (And.intro @xu8_rem (And.intro @xu8_quo (And.intro @xu8_eql (And.intro @xu8_lss (And.intro @xu8_gtr (And.intro @xu16_add (And.intro @xu16_rem (And.intro @xu16_quo (And.intro @xu16_eql (And.intro @xu16_lss (And.intro @xu16_gtr (And.intro @xu32_add (And.intro @xu32_rem (And.intro @xu32_quo (And.intro @xu32_eql 
  (And.intro @xu32_lss (And.intro @xu32_gtr (And.intro @xu64_add (And.intro @xu64_rem (And.intro @xu64_quo (And.intro @xu64_eql (And.intro @xu64_lss (And.intro @xu64_gtr (And.intro @xi64_lss (And.intro @xi64_gtr (And.intro @xi64_eql (And.intro @ld_23 (And.intro @ld_25 (And.intro @fa_25_1 (And.intro @st_23 (And.intro @bd_58_0_1 (And.intro @cv_3_5 
  (And.intro @bs_23_0 (And.intro @bs_23_1 (And.intro @bs_51_0 (And.intro @bs_51_1 @bs_51_2)))))))))))))))))))))))))))))))))))))
theorem lim_tail {w0 y : World} {p b n : Int} {gp gd gn gb : Nat} (F0 : Ext [] w0 y) (h0 : 60 ≤ p ∧ p ≤ 68) (h1 : 1020 ≤ b ∧ b ≤ 1028) (h2 : 60 ≤ n ∧ n ≤ 68)
    (BG : Blk y gb 25 [.slice (some ⟨gn, 0, none⟩) 1 1, .slice none 0 0]) (BN : Blk y gn 53 [.slice (some ⟨gp, 0, none⟩) p.toNat p.toNat, .slice (some ⟨gd, 0, none⟩) b.toNat b.toNat])
    (BP : Blk y gp 3 (List.replicate p.toNat (i64 0))) (BD : Blk y gd 5 (List.replicate b.toNat (c8 0))) (hw : w0.heap.size ≤ gb) (hd : gn ≠ gb ∧ gp ≠ gb ∧ gd ≠ gb) :
    loamlaw17_GraphLimits_j1 (fun u w' => u = .bool true ∧ Ext [] w0 w') (i64 p) (i64 b) (i64 n) (ptr gb) y := by
  unfold loamlaw17_GraphLimits_j1
  have hlt := BG.lt
  have fresh : ∀ {w' : World}, Ext [gb] y w' → Ext [] w0 w' := fun F => F0.new F (fun z hz => by simp only [List.mem_singleton] at hz; omega)
  refine xLoop_n n.toNat (fun j => [i64 (j : Int)]) (fun j w' => Ext [gb] y w' ∧ ∃ v, OwnGR w' v (limRs j) ∧ Blk w' gb 25 [.slice (some ⟨gn, 0, none⟩) 1 1, v] ∧ ∀ z ∈ blk v, y.heap.size ≤ z) rfl ⟨Ext.refl _ _, .slice none 0 0, Own.nil, BG, by simp [blk, Value.ownBlock]⟩ ?_ ?_
  · rintro j hj u x1 hu ⟨F, v, O, B, U⟩ nxt hnx
    simp only [List.map_cons, List.map_nil, List.cons.injEq, and_true] at hu
    rw [hu]
    have kb := fun i => B.cell (i := i)
    obtain ⟨a0, c0, hv0, _⟩ := O.slice
    subst hv0
    have hjn : (j : Int) < n := by omega
    unfold loamlaw17_GraphLimits_l2
    simp (disch := (first | omega | decide | (simp only [rsD] <;> omega) | fail)) only [↓rsC, rsK, rsL, ↓rsLim1_0, tick_eq, tickV_eq, ne_eq, Int.reduceAdd, Int.reduceSub, Int.reduceMul, Int.reduceEq, Int.reduceLT, Int.reduceLE, Int.reduceToNat, Nat.reduceMul, Nat.reduceAdd, Nat.reduceSub, ←decide_not, kb]
    have h97 : BitVec.ofInt 8 (97 + (j : Int) / 10) = BitVec.ofNat 8 (97 + j / 10) := by rw [show (97 + (j : Int) / 10) = ((97 + j / 10 : Nat) : Int) by omega, BitVec.ofInt_natCast]
    have h48 : BitVec.ofInt 8 (48 + (j : Int) % 10) = BitVec.ofNat 8 (48 + j % 10) := by rw [show (48 + (j : Int) % 10) = ((48 + j % 10 : Nat) : Int) by omega, BitVec.ofInt_natCast]
    rw [h97, h48]
    have R2 : RowAt (x1.alloc (.cells #[.int .u8 (BitVec.ofNat 8 (97 + j / 10)).toNat, .int .u8 (BitVec.ofNat 8 (48 + j % 10)).toNat] 5)) (some ⟨x1.heap.size, 0, none⟩) (bys [BitVec.ofNat 8 (97 + j / 10), BitVec.ofNat 8 (48 + j % 10)]) := (Blk.at (cs := bys [BitVec.ofNat 8 (97 + j / 10), BitVec.ofNat 8 (48 + j % 10)]) rfl).row
    have X2 : Ext [] x1 (x1.alloc (.cells #[.int .u8 (BitVec.ofNat 8 (97 + j / 10)).toNat, .int .u8 (BitVec.ofNat 8 (48 + j % 10)).toNat] 5)) := Ext.alloc _ _ _
    generalize x1.alloc (.cells #[.int .u8 (BitVec.ofNat 8 (97 + j / 10)).toNat, .int .u8 (BitVec.ofNat 8 (48 + j % 10)).toNat] 5) = x2 at *
    rw [xConv_str (e := 5) (n := 2) (l := [BitVec.ofNat 8 (97 + j / 10), BitVec.ofNat 8 (48 + j % 10)]) (by kernel_rfl) (by kernel_rfl) (by kernel_rfl) rfl R2]
    have cN : ({ data := #[110] } : ByteArray) = strOf [110#8] := by decide +kernel
    rw [cN, addB _ _ (by simp)]
    have F2 := F.trans (X2.more (by simp))
    have B2 := B.ext X2 (by simp)
    have O2 := O.ext0 X2
    simp (disch := (first | omega | decide | (simp only [rsD] <;> omega) | fail)) only [↓rsC, rsK, rsL, ↓rsLim1_0, tick_eq, tickV_eq, ne_eq, Int.reduceAdd, Int.reduceSub, Int.reduceMul, Int.reduceEq, Int.reduceLT, Int.reduceLE, Int.reduceToNat, Nat.reduceMul, Nat.reduceAdd, Nat.reduceSub, ←decide_not, kb]
    have hll : (limRs j).length = j := by simp [limRs]
    refine appGR O2 (x := limR j) (by simp [grC, limR, limName]) (by omega) fun v' x5 O5 T5 => ?_
    obtain ⟨F5, U5, n1, n2⟩ := grow F2 U hlt T5
    have B5 := B2.ext T5.ext n1
    obtain ⟨a3, c3, hv3, _⟩ := O5.slice
    have k5 := fun i => B5.cell (i := i)
    have f5 := fun i => B5.frozen (i := i)
    rw [← limRs_succ] at O5 hv3
    subst hv3
    simp (disch := (first | omega | decide | (simp only [rsD] <;> omega) | fail)) only [↓rsC, rsK, rsL, ↓rsLim1_0, tick_eq, tickV_eq, ne_eq, Int.reduceAdd, Int.reduceSub, Int.reduceMul, Int.reduceEq, Int.reduceLT, Int.reduceLE, Int.reduceToNat, Nat.reduceMul, Nat.reduceAdd, Nat.reduceSub, ←decide_not, kb, k5, f5]
    have B6 := B5.set (i := 1) (v := .slice a3 (limRs (j + 1)).length c3)
    have O6 := O5.ext (Ext.set (w := x5) (b := gb) (o := 1) (v := .slice a3 (limRs (j + 1)).length c3)) (fun z hz hm => by simp only [List.mem_singleton] at hm; subst hm; exact n2 hz)
    exact hnx _ ⟨F5.set' (.inl (by simp)), _, O6, B6, U5⟩
  · rintro u x1 hu ⟨F, v, O, B, U⟩ nxt
    simp only [List.map_cons, List.map_nil, List.cons.injEq, and_true] at hu
    rw [hu]
    have kb := fun i => B.cell (i := i)
    obtain ⟨a0, c0, hv0, _⟩ := O.slice
    subst hv0
    have e0 : ((n.toNat : Nat) : Int) = n := by omega
    unfold loamlaw17_GraphLimits_l2
    rw [e0]
    simp (disch := (first | omega | decide | (simp only [rsD] <;> omega) | fail)) only [↓rsC, rsK, rsL, ↓rsLim1_0, tick_eq, tickV_eq, ne_eq, Int.reduceAdd, Int.reduceSub, Int.reduceMul, Int.reduceEq, Int.reduceLT, Int.reduceLE, Int.reduceToNat, Nat.reduceMul, Nat.reduceAdd, Nat.reduceSub, ←decide_not, kb]
    have hll : (limRs n.toNat).length = n.toNat := by simp [limRs]
    obtain ⟨rr, rl, rn⟩ := (O.slice).elim fun a h => h.elim fun c h => (by obtain ⟨e, h1, _, h3, h4, _⟩ := h; cases e; exact ⟨h4, h1, h3⟩ : RowAt x1 a0 ((limRs n.toNat).flatMap grC) ∧ (limRs n.toNat).length ≤ c0 ∧ (a0 = none → c0 = 0))
    have nb := hd
    have G : GIs x1 (some ⟨gn, 0, none⟩) 1 a0 c0 [⟨List.replicate p.toNat 0, some ⟨gp, 0, none⟩, p.toNat, List.replicate b.toNat 0#8, some ⟨gd, 0, none⟩, b.toNat⟩] (limRs n.toNat) := by
      refine ⟨?_, Nat.le_refl _, fun e => (by cases e), rr, rl, rn, fun x hx => ?_⟩
      · have := (BN.ext F (by simpa using hd.1)).row
        simpa [gnC] using this
      · rw [List.mem_singleton] at hx
        subst hx
        refine ⟨?_, by simp, fun e => (by cases e), ?_, by simp, fun e => (by cases e)⟩
        · have := (BP.ext F (by simpa using hd.2.1)).row
          simpa [its] using this
        · have := (BD.ext F (by simpa using hd.2.2)).row
          simpa [bys] using this
    have hf : FewH [(⟨List.replicate p.toNat 0, some ⟨gp, 0, none⟩, p.toNat, List.replicate b.toNat 0#8, some ⟨gd, 0, none⟩, b.toNat⟩ : GN)] (limRs n.toNat) := ⟨by simp, by omega, fun x hx => by
      rw [List.mem_singleton] at hx
      subst hx
      simp only [List.length_replicate]
      omega⟩
    have hC := gcheck_spec G hf
    rw [lim_chk (p := p.toNat) (b := b.toNat) (n := n.toNat) rfl (by simp) (by omega)] at hC
    unfold gV at hC
    rw [show ([(⟨List.replicate p.toNat 0, some ⟨gp, 0, none⟩, p.toNat, List.replicate b.toNat 0#8, some ⟨gd, 0, none⟩, b.toNat⟩ : GN)].length) = 1 from rfl] at hC
    refine graph_Check_call (Gives.to hC fun x2 F2 => ?_)
    have Fw := (fresh F).trans F2
    by_cases b1 : p ≤ 64
    · by_cases b2 : b ≤ 1024
      · by_cases b3 : n ≤ 64
        · rw [if_pos ⟨by omega, by omega, by omega⟩]
          simp (disch := (first | omega | decide | (simp only [rsD] <;> omega) | fail)) only [↓rsC, rsK, rsL, ↓rsLim1_0, tick_eq, tickV_eq, ne_eq, Int.reduceAdd, Int.reduceSub, Int.reduceMul, Int.reduceEq, Int.reduceLT, Int.reduceLE, Int.reduceToNat, Nat.reduceMul, Nat.reduceAdd, Nat.reduceSub, ←decide_not, kb]
          exact ⟨trivial, Fw⟩
        · rw [if_neg (by omega)]
          simp (disch := (first | omega | decide | (simp only [rsD] <;> omega) | fail)) only [↓rsC, rsK, rsL, ↓rsLim1_0, tick_eq, tickV_eq, ne_eq, Int.reduceAdd, Int.reduceSub, Int.reduceMul, Int.reduceEq, Int.reduceLT, Int.reduceLE, Int.reduceToNat, Nat.reduceMul, Nat.reduceAdd, Nat.reduceSub, ←decide_not, kb]
          exact ⟨trivial, Fw⟩
      · rw [if_neg (by omega)]
        simp (disch := (first | omega | decide | (simp only [rsD] <;> omega) | fail)) only [↓rsC, rsK, rsL, ↓rsLim1_0, tick_eq, tickV_eq, ne_eq, Int.reduceAdd, Int.reduceSub, Int.reduceMul, Int.reduceEq, Int.reduceLT, Int.reduceLE, Int.reduceToNat, Nat.reduceMul, Nat.reduceAdd, Nat.reduceSub, ←decide_not, kb]
        exact ⟨trivial, Fw⟩
    · rw [if_neg (by omega)]
      simp (disch := (first | omega | decide | (simp only [rsD] <;> omega) | fail)) only [↓rsC, rsK, rsL, ↓rsLim1_0, tick_eq, tickV_eq, ne_eq, Int.reduceAdd, Int.reduceSub, Int.reduceMul, Int.reduceEq, Int.reduceLT, Int.reduceLE, Int.reduceToNat, Nat.reduceMul, Nat.reduceAdd, Nat.reduceSub, ←decide_not, kb]
      exact ⟨trivial, Fw⟩
abbrev rsLim1_1 := (And.intro @xu8_com (And.intro @xu8_lss (And.intro @xu8_gtr (And.intro @xu16_com (And.intro @xu16_lss (And.intro @xu16_gtr (And.intro @xu32_com (And.intro @xu32_lss (And.intro @xu32_gtr (And.intro @xu64_com (And.intro @xu64_lss (And.intro @xu64_gtr (And.intro @xi64_lss (And.intro @xi64_gtr (And.intro @al_25 (And.intro @st_25 
  (And.intro @bd_25_0_1 (And.intro @bd_25_0 (And.intro @bd_25 (And.intro @bd_53_0 (And.intro @bd_53_0_1 (And.intro @bd_53_1 (And.intro @bd_53 (And.intro @bs_22_1 (And.intro @bs_22_3 (And.intro @mk_26 @mk_51))))))))))))))))))))))))))
theorem GraphLimits_spec (p b n : Int) (w : World) : Gives Try.prog n_loamlaw17_GraphLimits #[i64 p, i64 b, i64 n] w (.bool true) := by
  refine loamlaw17_GraphLimits_of ?_
  unfold loamlaw17_GraphLimits
  simp (disch := (first | omega | decide | (simp only [rsD] <;> omega) | fail)) only [↓rsC, rsK, rsL, ↓rsLim1_1, tick_eq, tickV_eq, ne_eq, Int.reduceAdd, Int.reduceSub, Int.reduceMul, Int.reduceEq, Int.reduceLT, Int.reduceLE, Int.reduceToNat, Nat.reduceMul, Nat.reduceAdd, Nat.reduceSub, ←decide_not, eq_self]
  refine loamlaw17_known_call (Gives.to (known17_spec w) fun y1 X1 => ?_)
  have Xd : Ext [] y1 y1.drew := Ext.drew _ _
  by_cases a1 : p < 60
  · simp (disch := (first | omega | decide | (simp only [rsD] <;> omega) | fail)) only [↓rsC, rsK, rsL, ↓rsLim1_1, tick_eq, tickV_eq, ne_eq, Int.reduceAdd, Int.reduceSub, Int.reduceMul, Int.reduceEq, Int.reduceLT, Int.reduceLE, Int.reduceToNat, Nat.reduceMul, Nat.reduceAdd, Nat.reduceSub, ←decide_not, eq_self]
    exact ⟨trivial, X1⟩
  by_cases a2 : p > 68
  · simp (disch := (first | omega | decide | (simp only [rsD] <;> omega) | fail)) only [↓rsC, rsK, rsL, ↓rsLim1_1, tick_eq, tickV_eq, ne_eq, Int.reduceAdd, Int.reduceSub, Int.reduceMul, Int.reduceEq, Int.reduceLT, Int.reduceLE, Int.reduceToNat, Nat.reduceMul, Nat.reduceAdd, Nat.reduceSub, ←decide_not, eq_self]
    exact ⟨trivial, X1⟩
  by_cases a3 : b < 1020
  · simp (disch := (first | omega | decide | (simp only [rsD] <;> omega) | fail)) only [↓rsC, rsK, rsL, ↓rsLim1_1, tick_eq, tickV_eq, ne_eq, Int.reduceAdd, Int.reduceSub, Int.reduceMul, Int.reduceEq, Int.reduceLT, Int.reduceLE, Int.reduceToNat, Nat.reduceMul, Nat.reduceAdd, Nat.reduceSub, ←decide_not, eq_self]
    exact ⟨trivial, X1⟩
  by_cases a4 : b > 1028
  · simp (disch := (first | omega | decide | (simp only [rsD] <;> omega) | fail)) only [↓rsC, rsK, rsL, ↓rsLim1_1, tick_eq, tickV_eq, ne_eq, Int.reduceAdd, Int.reduceSub, Int.reduceMul, Int.reduceEq, Int.reduceLT, Int.reduceLE, Int.reduceToNat, Nat.reduceMul, Nat.reduceAdd, Nat.reduceSub, ←decide_not, eq_self]
    exact ⟨trivial, X1⟩
  by_cases a5 : n < 60
  · simp (disch := (first | omega | decide | (simp only [rsD] <;> omega) | fail)) only [↓rsC, rsK, rsL, ↓rsLim1_1, tick_eq, tickV_eq, ne_eq, Int.reduceAdd, Int.reduceSub, Int.reduceMul, Int.reduceEq, Int.reduceLT, Int.reduceLE, Int.reduceToNat, Nat.reduceMul, Nat.reduceAdd, Nat.reduceSub, ←decide_not, eq_self]
    exact ⟨trivial, X1⟩
  by_cases a6 : n > 68
  · simp (disch := (first | omega | decide | (simp only [rsD] <;> omega) | fail)) only [↓rsC, rsK, rsL, ↓rsLim1_1, tick_eq, tickV_eq, ne_eq, Int.reduceAdd, Int.reduceSub, Int.reduceMul, Int.reduceEq, Int.reduceLT, Int.reduceLE, Int.reduceToNat, Nat.reduceMul, Nat.reduceAdd, Nat.reduceSub, ←decide_not, eq_self]
    exact ⟨trivial, X1⟩
  simp (disch := (first | omega | decide | (simp only [rsD] <;> omega) | fail)) only [↓rsC, rsK, rsL, ↓rsLim1_1, tick_eq, tickV_eq, ne_eq, Int.reduceAdd, Int.reduceSub, Int.reduceMul, Int.reduceEq, Int.reduceLT, Int.reduceLE, Int.reduceToNat, Nat.reduceMul, Nat.reduceAdd, Nat.reduceSub, ←decide_not, eq_self]
  have X1d := X1.trans Xd
  have zd : y1.drew.heap.size = y1.heap.size := World.size_drew _
  have zw := X1.size
  generalize y1.drew = y2 at *
  rw [← zd]
  have al : ∀ {o1 o2 o3 o4 : Obj}, Ext [] w ((((y2.alloc o1).alloc o2).alloc o3).alloc o4) := ((((X1d.trans (Ext.alloc _ _ _)).trans (Ext.alloc _ _ _)).trans (Ext.alloc _ _ _)).trans (Ext.alloc _ _ _))
  refine xAlt_i (xAlt_i (xAlt_i (xAlt_i ?_ ?_) ?_) (xAlt_i (xAlt_i ?_ ?_) ?_)) (xAlt_i ?_ ?_)
  all_goals
    apply lim_tail al (by omega) (by omega) (by omega)
    all_goals first
      | omega
      | exact blk_al (by simp only [World.size_alloc])
      | exact blk_up (blk_al (by simp only [World.size_alloc]))
      | exact blk_up (blk_up (blk_al (by simp only [World.size_alloc])))
      | exact blk_up (blk_up (blk_up (blk_al (by simp only [World.size_alloc]))))
end Go.Proofs.Ythhcmoknppljpaa
end
