/- A graph in words, by the program (sq). Looking for a number in a rising row; are two rows of words the same; an image's reader (sq). An image's reader reads a node (sq). What an image's words are read as, and what its graph's words are. Words with nothing wrong are those of the graph that they are read as. An image decoded (sq). The statement CheckImages walked (sq). -/
import Derived.Test.YtdpmidgeipibbaaPk2
section
set_option linter.unusedVariables false
set_option linter.unusedSimpArgs false
set_option maxHeartbeats 4000000
namespace Go.Proofs.Ytdpmidgeipibbaa
open Go.Sh Go.RowKit

theorem hdr_with {R N : Nat} (hR : R ≤ 64) (hN : N ≤ 8192) : withB (BitVec.ofInt 64 (R : Int)) 16 32 (BitVec.ofInt 64 (N : Int)) = hdrW R N := by
  have := with_nat (BitVec.ofInt 64 (R : Int)) (BitVec.ofInt 64 (N : Int)) (a := 16) (n := 32) (by decide) (by decide)
  apply BitVec.eq_of_toNat_eq
  unfold hdrW
  rw [BitVec.ofInt_natCast, BitVec.ofInt_natCast] at *
  rw [BitVec.toNat_ofNat, BitVec.toNat_ofNat] at this
  rw [BitVec.toNat_ofNat]
  have e : (withB (BitVec.ofNat 64 R) ((16 : Nat) : Int) ((32 : Nat) : Int) (BitVec.ofNat 64 N)) = withB (BitVec.ofNat 64 R) 16 32 (BitVec.ofNat 64 N) := rfl
  rw [e] at this
  omega
abbrev rsImg2_0 := (And.intro @xu8_add (And.intro @xu8_mul (And.intro @xu8_neq (And.intro @xu8_lss (And.intro @xu16_add (And.intro @xu16_mul (And.intro @xu16_neq (And.intro @xu16_lss (And.intro @xu32_add (And.intro @xu32_mul (And.intro @xu32_neq (And.intro @xu32_lss (And.intro @xu64_add (And.intro @xu64_mul (And.intro @xu64_neq (And.intro @xu64_lss 
  (And.intro @xi64_lss (And.intro @xi64_neq (And.intro @xi64_neg (And.intro @ld_3 (And.intro @ld_9 (And.intro @ld_22 (And.intro @ld_23 (And.intro @ld_25 (And.intro @ld_66 (And.intro @ld_70 (And.intro @ld_72 (And.intro @ld_74 (And.intro @fa_25_0 (And.intro @fa_25_1 (And.intro @fa_72_0 (And.intro @fa_72_1 (And.intro @fa_74_0 (And.intro @fa_74_1 (And.intro @al_66 (And.intro @al_72 
  (And.intro @al_74 (And.intro @st_66 (And.intro @st_72 (And.intro @st_74 (And.intro @bd_123_0_1 (And.intro @bd_123_2_3 (And.intro @bd_123 (And.intro @cv_3_69 (And.intro @ia_22 (And.intro @ia_23 (And.intro @ia_66 (And.intro @ln_22 (And.intro @ln_23 (And.intro @ln_66 (And.intro @ln_70 (And.intro @bs_66_0 @bs_66_1))))))))))))))))))))))))))))))))))))))))))))))))))))
theorem iEncode_spec {w : World} {na ra : Option Addr} {nc rc : Nat} {ns : List GN} {rs : List GR} (h : GIs w na nc ra rc ns rs) (hf : FewH ns rs) : Yld Try.prog n_image_Encode #[gV na nc ra rc ns rs] w fun u w' => EncR w w' ns rs u := by
  have hfn := hf.n
  have hfr := hf.r
  refine image_Encode_of ?_
  unfold image_Encode
  simp (disch := (first | omega | decide | (simp only [rsD] <;> omega) | fail)) only [↓rsC, rsK, rsL, ↓rsImg2_0, tick_eq, tickV_eq, ne_eq, Int.reduceAdd, Int.reduceSub, Int.reduceMul, Int.reduceEq, Int.reduceLT, Int.reduceLE, Int.reduceToNat, Nat.reduceMul, Nat.reduceAdd, Nat.reduceSub, ←decide_not, eq_self]
  have B : Blk (w.alloc (.cells #[.slice na ns.length nc, .slice ra rs.length rc] 25)) w.heap.size 25 [.slice na ns.length nc, .slice ra rs.length rc] := Blk.at rfl
  have X : Ext [] w (w.alloc (.cells #[.slice na ns.length nc, .slice ra rs.length rc] 25)) := Ext.alloc _ _ _
  have hy := h.ext0 X
  generalize w.heap.size = hb at *
  generalize w.alloc (.cells #[.slice na ns.length nc, .slice ra rs.length rc] 25) = y at *
  refine graph_Check_call (Gives.to (gcheck_spec hy hf) fun w1 F1 => ?_)
  by_cases hz : chkV ns rs = 0
  rotate_left
  · have hc : encC ns rs = chkV ns rs := by unfold encC; rw [if_pos hz]
    simp (disch := (first | omega | decide | (simp only [rsD] <;> omega) | fail)) only [↓rsC, rsK, rsL, ↓rsImg2_0, tick_eq, tickV_eq, ne_eq, Int.reduceAdd, Int.reduceSub, Int.reduceMul, Int.reduceEq, Int.reduceLT, Int.reduceLE, Int.reduceToNat, Nat.reduceMul, Nat.reduceAdd, Nat.reduceSub, ←decide_not, eq_self]
    exact .inl ⟨by rw [hc]; exact hz, by rw [hc], X.trans F1⟩
  have hg := chk_zero.1 hz
  rw [hz]
  have k1 := fun i => (B.ext F1 (by simp)).cell (i := i)
  have hgr := hg.r
  have hgx := fun x hx => (hg.x x hx).2
  have hle := gW_le ns hgx
  simp (disch := (first | omega | decide | (simp only [rsD] <;> omega) | fail)) only [↓rsC, rsK, rsL, ↓rsImg2_0, tick_eq, tickV_eq, ne_eq, Int.reduceAdd, Int.reduceSub, Int.reduceMul, Int.reduceEq, Int.reduceLT, Int.reduceLE, Int.reduceToNat, Nat.reduceMul, Nat.reduceAdd, Nat.reduceSub, ←decide_not, k1]
  refine image_Need_call (Gives.to (gneed_spec (hy.ext0 F1) hf hg) fun w2 F2 => ?_)
  have F12 := F1.trans F2
  by_cases h8 : 8192 < 2 + 5 * rs.length + gW ns
  · have hc : encC ns rs = 3 := by unfold encC; rw [if_neg (by rw [hz]; simp), if_pos h8]
    refine mem_New_call (Gives.to (New_bad _ w2 (.inr (by omega))) fun w3 F3 => ?_)
    simp (disch := (first | omega | decide | (simp only [rsD] <;> omega) | fail)) only [↓rsC, rsK, rsL, ↓rsImg2_0, tick_eq, tickV_eq, ne_eq, Int.reduceAdd, Int.reduceSub, Int.reduceMul, Int.reduceEq, Int.reduceLT, Int.reduceLE, Int.reduceToNat, Nat.reduceMul, Nat.reduceAdd, Nat.reduceSub, ←decide_not, k1]
    exact .inl ⟨by rw [hc]; decide, by rw [hc], X.trans (F12.trans F3)⟩
  have hc0 : encC ns rs = 0 := by unfold encC; rw [if_neg (by rw [hz]; simp), if_neg h8]
  refine mem_New_call (Yld.mono (New_spec (2 + 5 * rs.length + gW ns) w2 (by omega)) ?_)
  rintro u w3 ⟨F3, g, a, c, rfl, M3⟩
  have P3 := ph_zero (ns := ns) (rs := rs)
  generalize hw3 : List.replicate (2 + 5 * rs.length + gW ns) c0 = ws3 at *
  have L3 := P3.len
  have hup := M3.up
  have hbase := F12.size
  have Y3 := F12.trans F3
  have hne3 : ws3 ≠ [] := fun e => by rw [e] at L3; simp at L3; omega
  have hbb := B.lt
  simp (disch := (first | omega | decide | (simp only [rsD] <;> omega) | fail)) only [↓rsC, rsK, rsL, ↓rsImg2_0, tick_eq, tickV_eq, ne_eq, Int.reduceAdd, Int.reduceSub, Int.reduceMul, Int.reduceEq, Int.reduceLT, Int.reduceLE, Int.reduceToNat, Nat.reduceMul, Nat.reduceAdd, Nat.reduceSub, ←decide_not, k1]
  refine mem_Mem_Set_call (Yld.mono (Set_ok 0 (BitVec.ofNat 64 1296125772) M3 (by omega)) ?_)
  rintro u w4 ⟨rfl, F4, M4⟩
  have Y4 : Ext [] y w4 := Y3.new F4 (fun z hz => by have := hup z hz; omega)
  have Bd := B.ext (Y4.trans (Ext.drew [] w4)) (by simp)
  have kd := fun i => Bd.cell (i := i)
  simp (disch := (first | omega | decide | (simp only [rsD] <;> omega) | fail)) only [↓rsC, rsK, rsL, ↓rsImg2_0, tick_eq, tickV_eq, ne_eq, Int.reduceAdd, Int.reduceSub, Int.reduceMul, Int.reduceEq, Int.reduceLT, Int.reduceLE, Int.reduceToNat, Nat.reduceMul, Nat.reduceAdd, Nat.reduceSub, ←decide_not, k1, kd]
  refine mem_Mem_Len_call (Gives.to (Len_spec (M4.ext0 (Ext.drew [] w4))) fun w5 F5d => ?_)
  have F5 := (Ext.drew [] w4).trans F5d
  have M5 := M4.ext0 F5
  have Y5 := Y4.trans F5
  have k5 := fun i => (B.ext Y5 (by simp)).cell (i := i)
  have el5 : (ws3.set 0 (BitVec.ofNat 64 1296125772)).length = 2 + 5 * rs.length + gW ns := by rw [List.length_set]; exact L3
  rw [el5]
  simp (disch := (first | omega | decide | (simp only [rsD] <;> omega) | fail)) only [↓rsC, rsK, rsL, ↓rsImg2_0, tick_eq, tickV_eq, ne_eq, Int.reduceAdd, Int.reduceSub, Int.reduceMul, Int.reduceEq, Int.reduceLT, Int.reduceLE, Int.reduceToNat, Nat.reduceMul, Nat.reduceAdd, Nat.reduceSub, ←decide_not, k1, kd, k5]
  have hwi := fun w => With_spec (BitVec.ofInt 64 (rs.length : Int)) (BitVec.ofInt 64 ((2 + 5 * rs.length + gW ns : Nat) : Int)) 16 32 w
  rw [hdr_with hgr (by omega)] at hwi
  refine bits_With_call (Gives.to (hwi w5) fun w6 F6 => ?_)
  have M6 := M5.ext0 F6
  refine mem_Mem_Set_call (Yld.mono (Set_ok 1 (hdrW rs.length (2 + 5 * rs.length + gW ns)) M6 (by omega)) ?_)
  rintro u w7 ⟨rfl, F7, M7⟩
  have P7 := ph_head P3
  have Y7 : Ext [] y w7 := (Y5.trans F6).new F7 (fun z hz => by have := hup z hz; omega)
  generalize (ws3.set 0 (BitVec.ofNat 64 1296125772)).set 1 (hdrW rs.length (2 + 5 * rs.length + gW ns)) = ws7 at *
  have L7 := P7.len
  have Bd7 := B.ext (Y7.trans (Ext.drew [] w7)) (by simp)
  have kd7 := fun i => Bd7.cell (i := i)
  simp (disch := (first | omega | decide | (simp only [rsD] <;> omega) | fail)) only [↓rsC, rsK, rsL, ↓rsImg2_0, tick_eq, tickV_eq, ne_eq, Int.reduceAdd, Int.reduceSub, Int.reduceMul, Int.reduceEq, Int.reduceLT, Int.reduceLE, Int.reduceToNat, Nat.reduceMul, Nat.reduceAdd, Nat.reduceSub, ←decide_not, k1, kd, k5, kd7]
  refine mem_Mem_Len_call (Gives.to (Len_spec (M7.ext0 (Ext.drew [] w7))) fun w8 F8d => ?_)
  have F8 := (Ext.drew [] w7).trans F8d
  have M8 := M7.ext0 F8
  have Y8 := Y7.trans F8
  have k8 := fun i => (B.ext Y8 (by simp)).cell (i := i)
  have e8 : (2 : Int) + 5 * (rs.length : Int) = ((2 + 5 * rs.length : Nat) : Int) := by omega
  simp (disch := (first | omega | decide | (simp only [rsD] <;> omega) | fail)) only [↓rsC, rsK, rsL, ↓rsImg2_0, tick_eq, tickV_eq, ne_eq, Int.reduceAdd, Int.reduceSub, Int.reduceMul, Int.reduceEq, Int.reduceLT, Int.reduceLE, Int.reduceToNat, Nat.reduceMul, Nat.reduceAdd, Nat.reduceSub, ←decide_not, k1, kd, k5, kd7, k8, e8]
  refine space_New_call (Yld.mono (SNew_ok (b := 2 + 5 * rs.length) (e := ws7.length) M8 (by omega) (Nat.le_refl _)) ?_)
  rintro u w9 ⟨F9, s, rfl, hs1, hs2, S9⟩
  have Y9 := Y8.trans F9
  have k9 := fun i => (B.ext Y9 (by simp)).cell (i := i)
  have zb9 := (B.ext Y9 (by simp)).lt
  simp (disch := (first | omega | decide | (simp only [rsD] <;> omega) | fail)) only [↓rsC, rsK, rsL, ↓rsImg2_0, tick_eq, tickV_eq, ne_eq, Int.reduceAdd, Int.reduceSub, Int.reduceMul, Int.reduceEq, Int.reduceLT, Int.reduceLE, Int.reduceToNat, Nat.reduceMul, Nat.reduceAdd, Nat.reduceSub, ←decide_not, k1, kd, k5, kd7, k8, e8, k9]
  have C : Blk (w9.alloc (.cells #[.slice none 0 0] 66)) w9.heap.size 66 [.slice none 0 0] := Blk.at rfl
  have X9 : Ext [] w9 (w9.alloc (.cells #[.slice none 0 0] 66)) := Ext.alloc _ _ _
  have S10 := S9.ext0 X9
  have Y10 := Y9.trans X9
  have hne7 : ws7 ≠ [] := fun e => by rw [e] at L7; simp at L7; omega
  have zg9 := S9.mem.lt
  have za9 := S9.mem.blt hne7
  have hga := S9.mem.apart hne7
  have hsa := S9.sa hne7
  have hyb : ∀ z ∈ blkOf a, y.heap.size ≤ z := fun z hz => by have := hup z hz; omega
  have hys : y.heap.size ≤ s := by have := Y8.size; omega
  have hyg : y.heap.size ≤ g := by have := S9.mem.lo; omega
  have hpby : y.heap.size ≤ w9.heap.size := Y9.size
  generalize w9.alloc (.cells #[.slice none 0 0] 66) = y9 at *
  generalize w9.heap.size = pb at *
  have e0 : plc ns rs 0 = 2 + 5 * rs.length := by unfold plc; simp [gW]
  have hNe : ws7.length = plc ns rs ns.length := by rw [L7, plc_end]
  rw [hNe] at S10
  have hples : ∀ j, j ≤ ns.length → ∀ p ∈ plL ns rs.length j, p ≤ 1000000 := fun j hj p hp => by
    obtain ⟨k, hk, rfl⟩ := List.mem_map.1 hp
    have := List.mem_range.1 hk
    have := plc_mono (ns := ns) (rs := rs) (show k ≤ ns.length by omega)
    rw [plc_end] at this
    have e : plc ns rs k = 2 + 5 * rs.length + gW (ns.take k) := rfl
    omega
  have hpbx : pb ∉ s :: blkOf a := fun hm => by
    rcases List.mem_cons.1 hm with e | hm
    · omega
    · have := za9 pb hm; omega
  refine xLoop_n ns.length (fun j => [i64 (j : Int)]) (fun j w' => ∃ v ws, SpIs w' w2.heap.size s g a c ws (2 + 5 * rs.length) (plc ns rs j) (plc ns rs ns.length) ∧ PhI ns rs (fun i => i < 2 ∨ ∃ k, k < j ∧ i = plc ns rs k) ws ∧ Blk w' pb 66 [v] ∧ OwnI w' v (plL ns rs.length j) ∧ pb ∉ blk v ∧ s ∉ blk v ∧ (∀ z ∈ blk v, z ∉ blkOf a) ∧ (∀ z ∈ blk v, y.heap.size ≤ z) ∧ g ∉ blk v ∧ Ext [] y w') rfl
    ⟨.slice none 0 0, ws7, by rw [e0]; exact S10, P7.congr (fun i _ => by simp), C, Own.nil, by simp [blk, Value.ownBlock], by simp [blk, Value.ownBlock], by simp [blk, Value.ownBlock], by simp [blk, Value.ownBlock], by simp [blk, Value.ownBlock], Y10⟩ ?_ ?_
  · rintro j hj u v1 hu ⟨v, ws, S, Ph, Cp, O, d1, d2, d3, d4, d5, Y⟩ nxt hnx
    simp only [List.map_cons, List.map_nil, List.cons.injEq, and_true] at hu
    rw [hu]
    have L := Ph.len
    have hne : ws ≠ [] := fun e => by rw [e] at L; simp at L; omega
    obtain ⟨b1, o1, ha1, z1, c1, c2⟩ := gn_at (hy.ext0 Y).nr hj
    obtain ⟨q1, q2⟩ := hgx _ (List.getElem_mem hj)
    obtain ⟨hr, _, hsz, _, _⟩ := pack_v q1 q2
    have hst := plc_step (ns := ns) (rs := rs) hj
    have hmn := plc_mono (ns := ns) (rs := rs) (show j + 1 ≤ ns.length from hj)
    have hPn := ph_alloc hg hj Ph
    have hpll : (plL ns rs.length j).length = j := plL_len _ _ _
    have hplj : plL ns rs.length (j + 1) = plL ns rs.length j ++ [plc ns rs j] := by
      unfold plL
      rw [List.range_succ, List.map_append]
      rfl
    have zv := O.lt
    have zp := Cp.lt
    obtain ⟨av, cv, hv, _⟩ := O.slice
    subst hv
    have kp := fun i => Cp.cell (i := i)
    unfold image_Encode_l1
    simp (disch := (first | omega | decide | (simp only [rsD] <;> omega) | fail)) only [↓rsC, rsK, rsL, ↓rsImg2_0, tick_eq, tickV_eq, ne_eq, Int.reduceAdd, Int.reduceSub, Int.reduceMul, Int.reduceEq, Int.reduceLT, Int.reduceLE, Int.reduceToNat, Nat.reduceMul, Nat.reduceAdd, Nat.reduceSub, ←decide_not, k1, kd, k5, kd7, k8, e8, k9, ha1, c1, c2]
    have X1 : Ext [] v1 (v1.alloc (.cells #[.slice ns[j].pa ns[j].p.length ns[j].pc, .slice ns[j].da ns[j].d.length ns[j].dc] 72)) := Ext.alloc _ _ _
    refine space_Space_Alloc_call (Yld.mono (SAlloc_ok (n := gsz ns[j]) (S.ext0 X1) hr (by rw [hsz]; rfl) (by omega)) ?_)
    rintro u v2 ⟨rfl, F2, S2⟩
    have F2' : Ext (s :: blkOf a) v1 v2 := (X1.more (by simp)).trans F2
    have Cp2 := Cp.ext F2' hpbx
    have O2 := O.ext F2' (fun z hz hm => by
      rcases List.mem_cons.1 hm with rfl | hm
      · exact d2 hz
      · exact d3 z hz hm)
    have k2 := fun i => Cp2.cell (i := i)
    have Y2 := Y.new F2' (fun z hz => by
      rcases List.mem_cons.1 hz with rfl | hz
      · exact hys
      · exact hyb z hz)
    simp (disch := (first | omega | decide | (simp only [rsD] <;> omega) | fail)) only [↓rsC, rsK, rsL, ↓rsImg2_0, tick_eq, tickV_eq, ne_eq, Int.reduceAdd, Int.reduceSub, Int.reduceMul, Int.reduceEq, Int.reduceLT, Int.reduceLE, Int.reduceToNat, Nat.reduceMul, Nat.reduceAdd, Nat.reduceSub, ←decide_not, k1, kd, k5, kd7, k8, e8, k9, ha1, c1, c2, k2]
    refine appIl O2 rfl (by rw [hpll]; omega) fun v' v3 O3 T3 => ?_
    have z2 := F2'.size
    have zs := S.blk.lt
    have zg := S.mem.lt
    have zaa := S.mem.blt hne
    have Cp3 := Cp2.ext T3.ext d1
    rw [← hst] at S2
    have S3 := S2.ext T3.ext d2 d5 (fun _ z hz hm => d3 z hm hz)
    have Y3' := Y2.new T3.ext d4
    have G3 := T3.at'
    have k3 := fun i => Cp3.cell (i := i)
    have f3 := fun i => Cp3.frozen (i := i)
    have nin : ∀ z, z < v2.heap.size → z ∉ blk (.slice av (plL ns rs.length j).length cv) → z ∉ blk v' := fun z h1 h2 hm => by
      rcases G3 z hm with h3 | h3
      · exact h2 h3
      · omega
    have npb := nin pb (by omega) d1
    have ns' := nin s (by omega) d2
    have ng' := nin g (by omega) d5
    have na' : ∀ z ∈ blk v', z ∉ blkOf a := fun z hz hm => nin z (by have := zaa z hm; omega) (fun h => d3 z h hm) hz
    have ny' : ∀ z ∈ blk v', y.heap.size ≤ z := fun z hz => by
      rcases G3 z hz with h3 | h3
      · exact d4 z h3
      · have := Y2.size; omega
    obtain ⟨a3, c3, hv3, _⟩ := O3.slice
    subst hv3
    simp (disch := (first | omega | decide | (simp only [rsD] <;> omega) | fail)) only [↓rsC, rsK, rsL, ↓rsImg2_0, tick_eq, tickV_eq, ne_eq, Int.reduceAdd, Int.reduceSub, Int.reduceMul, Int.reduceEq, Int.reduceLT, Int.reduceLE, Int.reduceToNat, Nat.reduceMul, Nat.reduceAdd, Nat.reduceSub, ←decide_not, k1, kd, k5, kd7, k8, e8, k9, ha1, c1, c2, k2, k3, f3]
    have Cp4 := Cp3.set (i := 0) (v := .slice a3 (plL ns rs.length j ++ [plc ns rs j]).length c3)
    have X4 : Ext [pb] v3 (v3.setCell ⟨pb, 0, none⟩ (.slice a3 (plL ns rs.length j ++ [plc ns rs j]).length c3)) := Ext.set (w := v3) (b := pb)
    refine hnx _ ⟨_, _, S3.ext X4 (by simp only [List.mem_singleton]; omega) (by simp only [List.mem_singleton]; omega) (fun _ z hz hm => by simp only [List.mem_singleton] at hm; have := za9 z hz; omega), hPn, Cp4, ?_, npb, ns', na', ny', ng', Y3'.set' (.inr hpby)⟩
    rw [hplj]
    exact O3.ext X4 (fun z hz hm => by simp only [List.mem_singleton] at hm; subst hm; exact npb hz)
  rintro u v1 hu ⟨v, ws, S, Ph, Cp, O, d1, d2, d3, d4, d5, Y⟩ nxt
  simp only [List.map_cons, List.map_nil, List.cons.injEq, and_true] at hu
  rw [hu]
  have zb1 := (B.ext Y (by simp)).lt
  have k1 := fun i => (B.ext Y (by simp)).cell (i := i)
  obtain ⟨av, cv, hv, hcv, _, hnv, hrv, _⟩ := O.slice
  subst hv
  have Pm := ph_mid Ph
  have L1 := Ph.len
  have hne1 : ws ≠ [] := fun e => by rw [e] at L1; simp at L1; omega
  have za1 := S.mem.blt hne1
  have hbk : ∀ {w' : World}, Ext (blkOf a) v1 w' → Ext [] y w' := fun F => Y.new F hyb
  have hKp : ∀ {w' : World}, Ext (blkOf a) v1 w' → w'.cell? ⟨pb, 0, none⟩ = some (.slice av (plE ns rs).length cv) ∧ RowAt w' av (nums (plE ns rs)) := fun {w'} F => by
    have h1 := (Cp.ext F (fun hm => hpbx (List.mem_cons_of_mem _ hm))).cell (i := 0)
    refine ⟨h1, hrv.ext F fun b o hb hm => ?_⟩
    exact d3 b (by rw [hb]; simp [blk, Value.ownBlock]) hm
  have hpll : (plE ns rs).length = ns.length := plL_len _ _ _
  have M1 := S.mem
  unfold image_Encode_l1
  simp (disch := (first | omega | decide | (simp only [rsD] <;> omega) | fail)) only [↓rsC, rsK, rsL, ↓rsImg2_0, tick_eq, tickV_eq, ne_eq, Int.reduceAdd, Int.reduceSub, Int.reduceMul, Int.reduceEq, Int.reduceLT, Int.reduceLE, Int.reduceToNat, Nat.reduceMul, Nat.reduceAdd, Nat.reduceSub, ←decide_not, k1, kd, k5, kd7, k8, e8, k9]
  refine xLoop_n ns.length (fun j => [i64 (j : Int)]) (fun j w' => ∃ ws, Ext (blkOf a) v1 w' ∧ MemIs w' w2.heap.size g a c ws ∧ PhI ns rs (fun i => i < 2 ∨ (∃ k, k < ns.length ∧ i = plc ns rs k) ∨ (2 + 5 * rs.length ≤ i ∧ i < plc ns rs j)) ws) rfl ⟨ws, Ext.refl _ _, M1, Pm⟩ ?_ ?_
  · rintro j hj u v2 hu ⟨ws2, F2, M2, P2⟩ nxt2 hnx2
    simp only [List.map_cons, List.map_nil, List.cons.injEq, and_true] at hu
    rw [hu]
    have Y2 := hbk F2
    obtain ⟨b1, o1, ha1, z1, c1, c2⟩ := gn_at (hy.ext0 Y2).nr hj
    obtain ⟨kp, rp⟩ := hKp F2
    have hPn := ph_node hg hj P2
    have L2 := P2.len
    have hlt := plc_lt (ns := ns) (rs := rs) hj
    have hgz : gsz ns[j] = 1 + ns[j].p.length + (ns[j].d.length + 7) / 8 := rfl
    obtain ⟨bp, op, hap, zp, kpl⟩ := rp.at (i := j) (by simpa [hpll] using hj)
    have kpj : v2.cell? ⟨bp, op + j, none⟩ = some (i64 ((plc ns rs j : Nat) : Int)) := by
      rw [kpl]
      have := pl_get (rs := rs) hj
      simp only [List.getElem_map]
      have h2 : (plE ns rs)[j]'(by rw [hpll]; exact hj) = plc ns rs j := by
        rw [List.getElem?_eq_getElem (by rw [hpll]; exact hj)] at this
        exact Option.some.inj this
      rw [h2]
    have zpb : pb < v2.heap.size := World.block_lt_of_cell? v2 ⟨pb, 0, none⟩ kp
    obtain ⟨hxp, _, _⟩ := hg.x _ (List.getElem_mem hj)
    have hxok := hy.ok _ (List.getElem_mem hj)
    unfold image_Encode_l2
    simp (disch := (first | omega | decide | (simp only [rsD] <;> omega) | fail)) only [↓rsC, rsK, rsL, ↓rsImg2_0, tick_eq, tickV_eq, ne_eq, Int.reduceAdd, Int.reduceSub, Int.reduceMul, Int.reduceEq, Int.reduceLT, Int.reduceLE, Int.reduceToNat, Nat.reduceMul, Nat.reduceAdd, Nat.reduceSub, ←decide_not, k1, kd, k5, kd7, k8, e8, k9, ha1, c1, c2, kp, hap, kpj]
    have X3 : Ext [] v2 (v2.alloc (.cells #[.slice ns[j].pa ns[j].p.length ns[j].pc, .slice ns[j].da ns[j].d.length ns[j].dc] 72)).drew := (Ext.alloc _ _ _).trans (Ext.drew _ _)
    have Fx := fun {w' : World} (F : Ext (blkOf a) (v2.alloc (.cells #[.slice ns[j].pa ns[j].p.length ns[j].pc, .slice ns[j].da ns[j].d.length ns[j].dc] 72)).drew w') => F2.trans ((X3.more (by simp)).trans F)
    refine image_node_call (Yld.mono (inode_spec (M2.ext0 X3) ns[j] (plE ns rs) pb av cv (plc ns rs j) (by omega) (hples _ (Nat.le_refl _)) (fun p hp => by rw [hpll]; exact hxp p hp) (fun w' F => ⟨hxok.ext0 (hbk (Fx F)), hKp (Fx F)⟩) (fun hd b o hb hm => by
      obtain ⟨b', o', h1, h2, _⟩ := hxok.dr.get (by simpa using hd)
      rw [hb] at h1
      cases h1
      have := hyb _ hm
      omega) (by omega)) ?_)
    rintro u v4 ⟨F4, M4⟩
    simp (disch := (first | omega | decide | (simp only [rsD] <;> omega) | fail)) only [↓rsC, rsK, rsL, ↓rsImg2_0, tick_eq, tickV_eq, ne_eq, Int.reduceAdd, Int.reduceSub, Int.reduceMul, Int.reduceEq, Int.reduceLT, Int.reduceLE, Int.reduceToNat, Nat.reduceMul, Nat.reduceAdd, Nat.reduceSub, ←decide_not, k1, kd, k5, kd7, k8, e8, k9, ha1, c1, c2, kp, hap, kpj]
    exact hnx2 _ ⟨_, Fx F4, M4, hPn⟩
  rintro u v2 hu ⟨ws2, F2, M2, P2⟩ nxt2
  simp only [List.map_cons, List.map_nil, List.cons.injEq, and_true] at hu
  rw [hu]
  have Pr := ph_mid2 P2
  have k2 := fun i => (B.ext (hbk F2) (by simp)).cell (i := i)
  unfold image_Encode_l2
  simp (disch := (first | omega | decide | (simp only [rsD] <;> omega) | fail)) only [↓rsC, rsK, rsL, ↓rsImg2_0, tick_eq, tickV_eq, ne_eq, Int.reduceAdd, Int.reduceSub, Int.reduceMul, Int.reduceEq, Int.reduceLT, Int.reduceLE, Int.reduceToNat, Nat.reduceMul, Nat.reduceAdd, Nat.reduceSub, ←decide_not, k1, kd, k5, kd7, k8, e8, k9, k2]
  refine xLoop_n rs.length (fun j => [i64 (j : Int)]) (fun j w' => ∃ ws, Ext (blkOf a) v1 w' ∧ MemIs w' w2.heap.size g a c ws ∧ PhI ns rs (fun i => i < 2 + 5 * j ∨ 2 + 5 * rs.length ≤ i) ws) rfl ⟨ws2, F2, M2, Pr⟩ ?_ ?_
  · rintro j hj u v3 hu ⟨ws3, F3, M3, P3⟩ nxt3 hnx3
    simp only [List.map_cons, List.map_nil, List.cons.injEq, and_true] at hu
    rw [hu]
    have Y3 := hbk F3
    obtain ⟨b1, o1, ha1, z1, c1, c2⟩ := gr_at (hy.ext0 Y3).rr hj
    obtain ⟨kp, rp⟩ := hKp F3
    have hPn := ph_root hg hj P3
    have L3 := P3.len
    have zpb : pb < v3.heap.size := World.block_lt_of_cell? v3 ⟨pb, 0, none⟩ kp
    obtain ⟨hnm, ht0, ht1⟩ := hg.s _ (List.getElem_mem hj)
    have e5 : (2 : Int) + 5 * (j : Int) = ((2 + 5 * j : Nat) : Int) := by omega
    unfold image_Encode_l3
    simp (disch := (first | omega | decide | (simp only [rsD] <;> omega) | fail)) only [↓rsC, rsK, rsL, ↓rsImg2_0, tick_eq, tickV_eq, ne_eq, Int.reduceAdd, Int.reduceSub, Int.reduceMul, Int.reduceEq, Int.reduceLT, Int.reduceLE, Int.reduceToNat, Nat.reduceMul, Nat.reduceAdd, Nat.reduceSub, ←decide_not, k1, kd, k5, kd7, k8, e8, k9, k2, ha1, c1, c2, e5]
    have C3 : Blk (v3.alloc (.cells #[.string (strOf rs[j].s), i64 rs[j].to] 74)) v3.heap.size 74 [.string (strOf rs[j].s), i64 rs[j].to] := Blk.at rfl
    have C3d := C3.ext (Ext.drew [] _) (by simp)
    have X3 : Ext [] v3 (v3.alloc (.cells #[.string (strOf rs[j].s), i64 rs[j].to] 74)).drew := (Ext.alloc _ _ _).trans (Ext.drew _ _)
    have M4 := M3.ext0 X3
    have Fx : Ext (blkOf a) v1 (v3.alloc (.cells #[.string (strOf rs[j].s), i64 rs[j].to] 74)).drew := F3.trans (X3.more (by simp))
    obtain ⟨kp4, rp4⟩ := hKp Fx
    generalize (v3.alloc (.cells #[.string (strOf rs[j].s), i64 rs[j].to] 74)).drew = y3 at *
    generalize v3.heap.size = nb at *
    refine image_Encode_1_callc (Gives.to (to_spec (plE ns rs) pb av cv rs[j].to kp4 rp4 ht0 (by rw [hpll]; exact ht1) (by omega) (hples _ (Nat.le_refl _))) fun v4 F4 => ?_)
    have k4 := fun i => (C3d.ext F4 (by simp)).cell (i := i)
    simp (disch := (first | omega | decide | (simp only [rsD] <;> omega) | fail)) only [↓rsC, rsK, rsL, ↓rsImg2_0, tick_eq, tickV_eq, ne_eq, Int.reduceAdd, Int.reduceSub, Int.reduceMul, Int.reduceEq, Int.reduceLT, Int.reduceLE, Int.reduceToNat, Nat.reduceMul, Nat.reduceAdd, Nat.reduceSub, ←decide_not, k1, kd, k5, kd7, k8, e8, k9, k2, ha1, c1, c2, e5, k4]
    refine image_root_call (Yld.mono (iroot_spec (M4.ext0 F4) (nmOk_iff.2 hnm) (2 + 5 * j) (by omega) (ptW (plE ns rs) rs[j].to)) ?_)
    rintro u v5 ⟨F5, M5⟩
    simp (disch := (first | omega | decide | (simp only [rsD] <;> omega) | fail)) only [↓rsC, rsK, rsL, ↓rsImg2_0, tick_eq, tickV_eq, ne_eq, Int.reduceAdd, Int.reduceSub, Int.reduceMul, Int.reduceEq, Int.reduceLT, Int.reduceLE, Int.reduceToNat, Nat.reduceMul, Nat.reduceAdd, Nat.reduceSub, ←decide_not, k1, kd, k5, kd7, k8, e8, k9, k2, ha1, c1, c2, e5, k4]
    exact hnx3 _ ⟨_, Fx.trans ((F4.more (by simp)).trans F5), M5, hPn⟩
  · rintro u v3 hu ⟨ws3, F3, M3, P3⟩ nxt3
    simp only [List.map_cons, List.map_nil, List.cons.injEq, and_true] at hu
    rw [hu]
    have hE := ph_end hg P3
    subst hE
    unfold image_Encode_l3
    simp (disch := (first | omega | decide | (simp only [rsD] <;> omega) | fail)) only [↓rsC, rsK, rsL, ↓rsImg2_0, tick_eq, tickV_eq, ne_eq, Int.reduceAdd, Int.reduceSub, Int.reduceMul, Int.reduceEq, Int.reduceLT, Int.reduceLE, Int.reduceToNat, Nat.reduceMul, Nat.reduceAdd, Nat.reduceSub, ←decide_not, k1, kd, k5, kd7, k8, e8, k9, k2]
    refine mem_Mem_Words_call (Yld.mono (Words_spec M3) ?_)
    rintro u v4 ⟨F4, a4, c4, rfl, hc4, hn4, O4, _⟩
    exact .inr ⟨hc0, hg, by omega, a4, c4, by trivial, hc4, hn4, O4.row, X.trans ((hbk F3).trans F4)⟩
end Go.Proofs.Ytdpmidgeipibbaa
end
section
set_option linter.unusedVariables false
set_option linter.unusedSimpArgs false
set_option maxHeartbeats 4000000
namespace Go.Proofs.Ytdpmidgeipibbaa
open Go.Sh Go.RowKit

/-- how many numbers of a row are less than one -/
def lowN (os : List Nat) (x : Nat) : Nat := os.countP fun y => decide (y < x)
theorem lowN_at {os : List Nat} {x i : Nat} (hi : i ≤ os.length) (h1 : ∀ k (hk : k < os.length), k < i → os[k] < x) (h2 : ∀ k (hk : k < os.length), i ≤ k → x ≤ os[k]) : lowN os x = i := by
  unfold lowN
  have e : os = os.take i ++ os.drop i := (List.take_append_drop i os).symm
  rw [e, List.countP_append]
  have a1 : (os.take i).countP (fun y => decide (y < x)) = i := by
    rw [List.countP_eq_length.2, List.length_take, Nat.min_eq_left hi]
    intro y hy
    obtain ⟨k, hk, rfl⟩ := List.getElem_of_mem hy
    rw [List.length_take] at hk
    rw [List.getElem_take]
    exact decide_eq_true (h1 k (by omega) (by omega))
  have a2 : (os.drop i).countP (fun y => decide (y < x)) = 0 := by
    rw [List.countP_eq_zero]
    intro y hy
    obtain ⟨k, hk, rfl⟩ := List.getElem_of_mem hy
    rw [List.length_drop] at hk
    rw [List.getElem_drop]
    have := h2 (i + k) (by omega) (by omega)
    simp; omega
  omega
abbrev rsDec1_0 := (And.intro @xu8_neq (And.intro @xu16_neq (And.intro @xu32_neq (And.intro @xu64_neq (And.intro @xi64_neq @xi64_neg)))))
theorem cNaN_spec (i : Int) (w : World) : Gives Try.prog n_cmp_isNaN_int #[i64 i] w (.bool false) := by
  refine cmp_isNaN_int_of ?_
  unfold cmp_isNaN_int
  simp (disch := (first | omega | decide | (simp only [rsD] <;> omega) | fail)) only [↓rsC, rsK, rsL, ↓rsDec1_0, tick_eq, tickV_eq, ne_eq, Int.reduceAdd, Int.reduceSub, Int.reduceMul, Int.reduceEq, Int.reduceLT, Int.reduceLE, Int.reduceToNat, Nat.reduceMul, Nat.reduceAdd, Nat.reduceSub, ←decide_not, eq_self]
  exact ⟨by trivial, Ext.refl _ _⟩
theorem sNaN_spec (i : Int) (w : World) : Gives Try.prog n_slices_isNaN_int #[i64 i] w (.bool false) := by
  refine slices_isNaN_int_of ?_
  unfold slices_isNaN_int
  simp (disch := (first | omega | decide | (simp only [rsD] <;> omega) | fail)) only [↓rsC, rsK, rsL, ↓rsDec1_0, tick_eq, tickV_eq, ne_eq, Int.reduceAdd, Int.reduceSub, Int.reduceMul, Int.reduceEq, Int.reduceLT, Int.reduceLE, Int.reduceToNat, Nat.reduceMul, Nat.reduceAdd, Nat.reduceSub, ←decide_not, eq_self]
  exact ⟨by trivial, Ext.refl _ _⟩
abbrev rsDec1_1 := (And.intro @xu8_com (And.intro @xu8_lss (And.intro @xu16_com (And.intro @xu16_lss (And.intro @xu32_com (And.intro @xu32_lss (And.intro @xu64_com (And.intro @xu64_lss @xi64_lss))))))))
theorem cLess_spec (i j : Int) (w : World) : Gives Try.prog n_cmp_Less_int #[i64 i, i64 j] w (.bool (decide (i < j))) := by
  refine cmp_Less_int_of ?_
  unfold cmp_Less_int
  simp (disch := (first | omega | decide | (simp only [rsD] <;> omega) | fail)) only [↓rsC, rsK, rsL, ↓rsDec1_1, tick_eq, tickV_eq, ne_eq, Int.reduceAdd, Int.reduceSub, Int.reduceMul, Int.reduceEq, Int.reduceLT, Int.reduceLE, Int.reduceToNat, Nat.reduceMul, Nat.reduceAdd, Nat.reduceSub, ←decide_not, eq_self]
  refine cmp_isNaN_int_call (Gives.to (cNaN_spec i w) fun w1 F1 => ?_)
  simp (disch := (first | omega | decide | (simp only [rsD] <;> omega) | fail)) only [↓rsC, rsK, rsL, ↓rsDec1_1, tick_eq, tickV_eq, ne_eq, Int.reduceAdd, Int.reduceSub, Int.reduceMul, Int.reduceEq, Int.reduceLT, Int.reduceLE, Int.reduceToNat, Nat.reduceMul, Nat.reduceAdd, Nat.reduceSub, ←decide_not, eq_self]
  exact ⟨by trivial, F1⟩
abbrev rsDec1_2 := (And.intro @xu8_add (And.intro @xu8_shr (And.intro @xu8_eql (And.intro @xu8_lss (And.intro @xu16_add (And.intro @xu16_shr (And.intro @xu16_eql (And.intro @xu16_lss (And.intro @xu32_add (And.intro @xu32_shr (And.intro @xu32_eql (And.intro @xu32_lss (And.intro @xu64_add (And.intro @xu64_shr (And.intro @xu64_eql (And.intro @xu64_lss 
  (And.intro @xi64_lss (And.intro @xi64_eql (And.intro @xi64_shr (And.intro @ld_3 (And.intro @cv_3_77 (And.intro @cv_77_3 (And.intro @ia_66 @ln_66)))))))))))))))))))))))
theorem BSearch_spec {w : World} {os : List Nat} {a : Option Addr} {c : Nat} (h : RowAt w a (nums os)) (hs : os.Pairwise (· < ·)) (hl : os.length ≤ 100000) (hb : ∀ y ∈ os, y ≤ 1000000) (x : Nat) (hx : x ≤ 1000000) :
    Gives Try.prog n_slices_BinarySearch_int_int #[.slice a os.length c, i64 (x : Int)] w (.tuple #[i64 (lowN os x : Int), .bool (decide (x ∈ os))]) := by
  have hinc : ∀ i j (hi : i < os.length) (hj : j < os.length), i < j → os[i] < os[j] := fun i j hi hj hij => List.pairwise_iff_getElem.1 hs i j hi hj hij
  have at' : ∀ (w' : World), Ext [] w w' → ∀ j (hj : j < os.length), ∃ b o, a = some ⟨b, o, none⟩ ∧ b < w'.heap.size ∧ w'.cell? ⟨b, o + j, none⟩ = some (i64 (os[j] : Int)) := fun w' F j hj => by
    obtain ⟨b, o, ha, hlt, hc⟩ := (h.ext0 F).at (i := j) (by simpa using hj)
    exact ⟨b, o, ha, hlt, by rw [hc]; simp⟩
  refine slices_BinarySearch_int_int_of ?_
  unfold slices_BinarySearch_int_int
  simp (disch := (first | omega | decide | (simp only [rsD] <;> omega) | fail)) only [↓rsC, rsK, rsL, ↓rsDec1_2, tick_eq, tickV_eq, ne_eq, Int.reduceAdd, Int.reduceSub, Int.reduceMul, Int.reduceEq, Int.reduceLT, Int.reduceLE, Int.reduceToNat, Nat.reduceMul, Nat.reduceAdd, Nat.reduceSub, ←decide_not, eq_self]
  have fin : ∀ (i : Nat) (w' : World) nxt, Ext [] w w' → i ≤ os.length → (∀ k (hk : k < os.length), k < i → os[k] < x) → (∀ k (hk : k < os.length), i ≤ k → x ≤ os[k]) → slices_BinarySearch_int_int_l1 (fun v w' => v = .tuple #[i64 (lowN os x : Int), .bool (decide (x ∈ os))] ∧ Ext [] w w') nxt (.slice a os.length c) (i64 (x : Int)) (i64 (os.length : Int)) (i64 (i : Int)) (i64 (i : Int)) w' := fun i w' nxt F hi h1 h2 => by
    rw [lowN_at hi h1 h2]
    unfold slices_BinarySearch_int_int_l1
    by_cases hlt : i < os.length
    · obtain ⟨b, o, rfl, hlt3, hc⟩ := at' w' F i hlt
      by_cases he : os[i] = x
      · have hm : x ∈ os := by rw [← he]; exact List.getElem_mem _
        rw [he] at hc
        simp (disch := (first | omega | decide | (simp only [rsD] <;> omega) | fail)) only [↓rsC, rsK, rsL, ↓rsDec1_2, tick_eq, tickV_eq, ne_eq, Int.reduceAdd, Int.reduceSub, Int.reduceMul, Int.reduceEq, Int.reduceLT, Int.reduceLE, Int.reduceToNat, Nat.reduceMul, Nat.reduceAdd, Nat.reduceSub, ←decide_not, hc]
        exact ⟨by rw [decide_eq_true hm], F⟩
      · have hm : x ∉ os := fun hm => by
          obtain ⟨k, hk, e⟩ := List.getElem_of_mem hm
          by_cases hki : k < i
          · have := h1 k hk hki; omega
          · have := h2 i hlt (by omega)
            by_cases e2 : k = i
            · subst e2; exact he e
            · have := hinc i k hlt hk (by omega); omega
        have hz := hb _ (List.getElem_mem hlt)
        generalize os[i] = z at *
        simp (disch := (first | omega | decide | (simp only [rsD] <;> omega) | fail)) only [↓rsC, rsK, rsL, ↓rsDec1_2, tick_eq, tickV_eq, ne_eq, Int.reduceAdd, Int.reduceSub, Int.reduceMul, Int.reduceEq, Int.reduceLT, Int.reduceLE, Int.reduceToNat, Nat.reduceMul, Nat.reduceAdd, Nat.reduceSub, ←decide_not, hc]
        refine slices_isNaN_int_call (Gives.to (sNaN_spec _ w') fun w1 F1 => ?_)
        simp (disch := (first | omega | decide | (simp only [rsD] <;> omega) | fail)) only [↓rsC, rsK, rsL, ↓rsDec1_2, tick_eq, tickV_eq, ne_eq, Int.reduceAdd, Int.reduceSub, Int.reduceMul, Int.reduceEq, Int.reduceLT, Int.reduceLE, Int.reduceToNat, Nat.reduceMul, Nat.reduceAdd, Nat.reduceSub, ←decide_not, hc]
        exact ⟨by rw [decide_eq_false hm], F.trans F1⟩
    · have hm : x ∉ os := fun hm => by
        obtain ⟨k, hk, e⟩ := List.getElem_of_mem hm
        have := h1 k hk (by omega); omega
      simp (disch := (first | omega | decide | (simp only [rsD] <;> omega) | fail)) only [↓rsC, rsK, rsL, ↓rsDec1_2, tick_eq, tickV_eq, ne_eq, Int.reduceAdd, Int.reduceSub, Int.reduceMul, Int.reduceEq, Int.reduceLT, Int.reduceLE, Int.reduceToNat, Nat.reduceMul, Nat.reduceAdd, Nat.reduceSub, ←decide_not, eq_self]
      exact ⟨by rw [decide_eq_false hm], F⟩
  refine xLoop_r os.length (fun k vs w' => ∃ i j, vs = [i64 ((i : Nat) : Int), i64 ((j : Nat) : Int)] ∧ i ≤ j ∧ j ≤ os.length ∧ j ≤ i + (os.length - k) ∧ Ext [] w w' ∧ (∀ k (hk : k < os.length), k < i → os[k] < x) ∧ (∀ k (hk : k < os.length), j ≤ k → x ≤ os[k])) ⟨0, os.length, rfl, by omega, by omega, by omega, Ext.refl _ _, fun k hk h => by omega, fun k hk h => by omega⟩ ?_ ?_
  · rintro k hk u w1 ⟨i, j, hu, h1, h2, h3, F, h4, h5⟩ nxt hn
    simp only [List.map_cons, List.map_nil, List.cons.injEq, and_true] at hu
    rw [hu.1, hu.2]
    by_cases hij : i = j
    · subst hij
      exact fin i w1 nxt F h2 h4 h5
    · have hm : (i + j) / 2 < os.length := by omega
      obtain ⟨b, o, rfl, hlt3, hc⟩ := at' w1 F _ hm
      unfold slices_BinarySearch_int_int_l1
      have em : (BitVec.ofInt 64 ((i : Int) + (j : Int)) >>> 1).toInt = (((i + j) / 2 : Nat) : Int) := by
        have e0 : ((i : Int) + (j : Int)) = ((i + j : Nat) : Int) := by omega
        rw [e0, BitVec.ofInt_natCast]
        have e1 : (BitVec.ofNat 64 (i + j) >>> 1).toNat = (i + j) / 2 := by
          rw [BitVec.toNat_ushiftRight, BitVec.toNat_ofNat, Nat.mod_eq_of_lt (by omega), Nat.shiftRight_eq_div_pow]
        rw [BitVec.toInt_eq_toNat_of_lt (by rw [e1]; omega), e1]
      have em1 : (BitVec.ofInt 64 ((i : Int) + (j : Int)) >>> (1#64).toNat).toInt = (((i + j) / 2 : Nat) : Int) := em
      have em2 : (BitVec.ofInt 64 ((i : Int) + (j : Int)) >>> (((1#64).toNat : Int)).toNat).toInt = (((i + j) / 2 : Nat) : Int) := em
      have hm0 := List.getElem_mem (l := os) hm
      have hmb := hb _ hm0
      have hlow : ∀ k (hk : k < os.length), k < (i + j) / 2 + 1 → os[(i + j) / 2] < x → os[k] < x := fun k hk hk2 hx2 => by
        by_cases e : k = (i + j) / 2
        · subst e; exact hx2
        · have := hinc k _ hk hm (by omega); omega
      have hhigh : ∀ k (hk : k < os.length), (i + j) / 2 ≤ k → x ≤ os[(i + j) / 2] → x ≤ os[k] := fun k hk hk2 hx2 => by
        by_cases e : k = (i + j) / 2
        · subst e; exact hx2
        · have := hinc _ k hm hk (by omega); omega
      generalize os[(i + j) / 2] = z at *
      generalize hq : (i + j) / 2 = q at *
      simp (disch := (first | omega | decide | (simp only [rsD] <;> omega) | fail)) only [↓rsC, rsK, rsL, ↓rsDec1_2, tick_eq, tickV_eq, ne_eq, Int.reduceAdd, Int.reduceSub, Int.reduceMul, Int.reduceEq, Int.reduceLT, Int.reduceLE, Int.reduceToNat, Nat.reduceMul, Nat.reduceAdd, Nat.reduceSub, ←decide_not, hc, em1, em2]
      refine cmp_Less_int_call (Gives.to (cLess_spec _ _ w1) fun w2 F2 => ?_)
      by_cases hz : z < x
      · have hz' : (z : Int) < (x : Int) := by omega
        rw [decide_eq_true hz']
        simp (disch := (first | omega | decide | (simp only [rsD] <;> omega) | fail)) only [↓rsC, rsK, rsL, ↓rsDec1_2, tick_eq, tickV_eq, ne_eq, Int.reduceAdd, Int.reduceSub, Int.reduceMul, Int.reduceEq, Int.reduceLT, Int.reduceLE, Int.reduceToNat, Nat.reduceMul, Nat.reduceAdd, Nat.reduceSub, ←decide_not, hc, em1, em2]
        exact hn _ _ ⟨q + 1, j, by simp, by omega, h2, by omega, F.trans F2, fun k hk hk2 => hlow k hk hk2 hz, h5⟩
      · have hz' : ¬ (z : Int) < (x : Int) := by omega
        rw [decide_eq_false hz']
        simp (disch := (first | omega | decide | (simp only [rsD] <;> omega) | fail)) only [↓rsC, rsK, rsL, ↓rsDec1_2, tick_eq, tickV_eq, ne_eq, Int.reduceAdd, Int.reduceSub, Int.reduceMul, Int.reduceEq, Int.reduceLT, Int.reduceLE, Int.reduceToNat, Nat.reduceMul, Nat.reduceAdd, Nat.reduceSub, ←decide_not, hc, em1, em2]
        exact hn _ _ ⟨i, q, by simp, by omega, by omega, by omega, F.trans F2, h4, fun k hk hk2 => hhigh k hk hk2 (by omega)⟩
  · rintro u w1 ⟨i, j, hu, h1, h2, h3, F, h4, h5⟩ nxt
    simp only [List.map_cons, List.map_nil, List.cons.injEq, and_true] at hu
    rw [hu.1, hu.2]
    have : i = j := by omega
    subst this
    exact fin i w1 nxt F h2 h4 h5
abbrev rsDec1_3 := (And.intro @xu8_add (And.intro @xu8_neq (And.intro @xu8_lss (And.intro @xu16_add (And.intro @xu16_neq (And.intro @xu16_lss (And.intro @xu32_add (And.intro @xu32_neq (And.intro @xu32_lss (And.intro @xu64_add (And.intro @xu64_neq (And.intro @xu64_lss (And.intro @xi64_lss (And.intro @xi64_neq (And.intro @xi64_neg (And.intro @ld_69 
  (And.intro @ia_28 @ln_28)))))))))))))))))
theorem EqualW_spec {w : World} {p q : List (BitVec 64)} {a a' : Option Addr} {c c' : Nat} (h : RowAt w a (wrds p)) (h' : RowAt w a' (wrds q)) (hp : p.length ≤ 1000000) (hq : q.length ≤ 1000000) : Gives Try.prog n_slices_Equal_uint64_uint64 #[.slice a p.length c, .slice a' q.length c'] w (.bool (decide (p = q))) := by
  refine slices_Equal_uint64_uint64_of ?_
  unfold slices_Equal_uint64_uint64
  by_cases hne : p.length = q.length
  case neg =>
    have : ¬ ((p.length : Int) = q.length) := by omega
    simp (disch := (first | omega | decide | (simp only [rsD] <;> omega) | fail)) only [↓rsC, rsK, rsL, ↓rsDec1_3, tick_eq, tickV_eq, ne_eq, Int.reduceAdd, Int.reduceSub, Int.reduceMul, Int.reduceEq, Int.reduceLT, Int.reduceLE, Int.reduceToNat, Nat.reduceMul, Nat.reduceAdd, Nat.reduceSub, ←decide_not, eq_self]
    exact ⟨by rw [decide_eq_false (fun e => hne (by rw [e]))], Ext.refl _ _⟩
  have : ((p.length : Int) = q.length) := by omega
  simp (disch := (first | omega | decide | (simp only [rsD] <;> omega) | fail)) only [↓rsC, rsK, rsL, ↓rsDec1_3, tick_eq, tickV_eq, ne_eq, Int.reduceAdd, Int.reduceSub, Int.reduceMul, Int.reduceEq, Int.reduceLT, Int.reduceLE, Int.reduceToNat, Nat.reduceMul, Nat.reduceAdd, Nat.reduceSub, ←decide_not, eq_self]
  refine xLoop_n p.length (fun j => [i64 (j : Int)]) (fun j w' => Ext [] w w' ∧ ∀ i, i < j → wat p i = wat q i) rfl ⟨Ext.refl _ _, by intro i hi; omega⟩ ?_ ?_
  · rintro j hj u w1 hu ⟨F, hq2⟩ nxt hn
    simp only [List.map_cons, List.map_nil, List.cons.injEq, and_true] at hu
    rw [hu]
    unfold slices_Equal_uint64_uint64_l1
    have F1 := F.trans (Ext.drew [] w1)
    obtain ⟨b, o, rfl, hlt, hc⟩ := row_w (h.ext0 F1) (i := j) (by omega)
    obtain ⟨b', o', rfl, hlt', hc'⟩ := row_w (h'.ext0 F1) (i := j) (by omega)
    by_cases e : wat p j = wat q j
    · rw [e] at hc
      simp (disch := (first | omega | decide | (simp only [rsD] <;> omega) | fail)) only [↓rsC, rsK, rsL, ↓rsDec1_3, tick_eq, tickV_eq, ne_eq, Int.reduceAdd, Int.reduceSub, Int.reduceMul, Int.reduceEq, Int.reduceLT, Int.reduceLE, Int.reduceToNat, Nat.reduceMul, Nat.reduceAdd, Nat.reduceSub, ←decide_not, hc, hc']
      exact hn _ ⟨F1, fun i hi => by
        by_cases ei : i = j
        · subst ei; exact e
        · exact hq2 i (by omega)⟩
    · have e' : ¬ (wat q j = wat p j) := fun h => e h.symm
      simp (disch := (first | omega | decide | (simp only [rsD] <;> omega) | fail)) only [↓rsC, rsK, rsL, ↓rsDec1_3, tick_eq, tickV_eq, ne_eq, Int.reduceAdd, Int.reduceSub, Int.reduceMul, Int.reduceEq, Int.reduceLT, Int.reduceLE, Int.reduceToNat, Nat.reduceMul, Nat.reduceAdd, Nat.reduceSub, ←decide_not, hc, hc', e]
      exact ⟨by rw [decide_eq_false (fun e2 => e (by rw [e2]))], F1⟩
  · rintro u w1 hu ⟨F, hq2⟩ nxt
    simp only [List.map_cons, List.map_nil, List.cons.injEq, and_true] at hu
    rw [hu]
    unfold slices_Equal_uint64_uint64_l1
    simp (disch := (first | omega | decide | (simp only [rsD] <;> omega) | fail)) only [↓rsC, rsK, rsL, ↓rsDec1_3, tick_eq, tickV_eq, ne_eq, Int.reduceAdd, Int.reduceSub, Int.reduceMul, Int.reduceEq, Int.reduceLT, Int.reduceLE, Int.reduceToNat, Nat.reduceMul, Nat.reduceAdd, Nat.reduceSub, ←decide_not, eq_self]
    refine ⟨?_, F⟩
    rw [decide_eq_true]
    refine List.ext_getElem hne fun i h1 h2 => ?_
    have := hq2 i h1
    unfold wat at this
    simpa [List.getD_eq_getElem?_getD, List.getElem?_eq_getElem h1, List.getElem?_eq_getElem h2] using this
/-- the number that a pointer's word is for -/
def numb (os : List Nat) (x : BitVec 64) : Int := if x.toNat = 0 ∨ 8192 < x.toNat then 0 else if x.toNat - 1 ∈ os then (lowN os (x.toNat - 1) : Int) + 1 else 0
abbrev rdV (s : Nat) (pa : Option Addr) (n pc : Nat) : Value := .agg #[ptr s, .slice pa n pc]
abbrev rsDec1_4 := (And.intro @xu8_add (And.intro @xu8_sub (And.intro @xu8_com (And.intro @xu8_eql (And.intro @xu8_gtr (And.intro @xu16_add (And.intro @xu16_sub (And.intro @xu16_com (And.intro @xu16_eql (And.intro @xu16_gtr (And.intro @xu32_add (And.intro @xu32_sub (And.intro @xu32_com (And.intro @xu32_eql (And.intro @xu32_gtr (And.intro @xu64_add 
  (And.intro @xu64_sub (And.intro @xu64_com (And.intro @xu64_eql (And.intro @xu64_gtr (And.intro @xi64_gtr (And.intro @xi64_eql (And.intro @ld_66 (And.intro @fa_132_1 @cv_69_3))))))))))))))))))))))))
theorem number_spec {w : World} {os : List Nat} {pa : Option Addr} {pc s : Nat} (h : RowAt w pa (nums os)) (hs : os.Pairwise (· < ·)) (hl : os.length ≤ 100000) (hb : ∀ y ∈ os, y ≤ 1000000) (x : BitVec 64) :
    Gives Try.prog n_image_reader_number #[rdV s pa os.length pc, u64 x] w (i64 (numb os x)) := by
  refine image_reader_number_of ?_
  unfold image_reader_number
  unfold numb
  simp (disch := (first | omega | decide | (simp only [rsD] <;> omega) | fail)) only [↓rsC, rsK, rsL, ↓rsDec1_4, tick_eq, tickV_eq, ne_eq, Int.reduceAdd, Int.reduceSub, Int.reduceMul, Int.reduceEq, Int.reduceLT, Int.reduceLE, Int.reduceToNat, Nat.reduceMul, Nat.reduceAdd, Nat.reduceSub, ←decide_not, eq_self]
  have B : Blk (w.alloc (.cells #[ptr s, .slice pa os.length pc] 132)) w.heap.size 132 [ptr s, .slice pa os.length pc] := Blk.at rfl
  have X : Ext [] w (w.alloc (.cells #[ptr s, .slice pa os.length pc] 132)) := Ext.alloc _ _ _
  generalize w.alloc (.cells #[ptr s, .slice pa os.length pc] 132) = w1 at *
  have zb := B.lt
  generalize w.heap.size = g at *
  have k := fun i => B.cell (i := i)
  by_cases h0 : x = BitVec.ofNat 64 0
  · have e0 : x.toNat = 0 := by rw [h0]; rfl
    rw [if_pos (.inl e0)]
    simp (disch := (first | omega | decide | (simp only [rsD] <;> omega) | fail)) only [↓rsC, rsK, rsL, ↓rsDec1_4, tick_eq, tickV_eq, ne_eq, Int.reduceAdd, Int.reduceSub, Int.reduceMul, Int.reduceEq, Int.reduceLT, Int.reduceLE, Int.reduceToNat, Nat.reduceMul, Nat.reduceAdd, Nat.reduceSub, ←decide_not, h0]
    exact ⟨by trivial, X⟩
  have n0 : x.toNat ≠ 0 := fun e => h0 (BitVec.eq_of_toNat_eq (by rw [e]; rfl))
  by_cases h1 : 8192 < x.toNat
  · rw [if_pos (.inr h1)]
    have hgt : (BitVec.ofNat 64 8192).toNat < x.toNat := h1
    simp (disch := (first | omega | decide | (simp only [rsD] <;> omega) | fail)) only [↓rsC, rsK, rsL, ↓rsDec1_4, tick_eq, tickV_eq, ne_eq, Int.reduceAdd, Int.reduceSub, Int.reduceMul, Int.reduceEq, Int.reduceLT, Int.reduceLE, Int.reduceToNat, Nat.reduceMul, Nat.reduceAdd, Nat.reduceSub, ←decide_not, h0, hgt]
    exact ⟨by trivial, X⟩
  rw [if_neg (by omega)]
  have hgt : ¬ (BitVec.ofNat 64 8192).toNat < x.toNat := h1
  have ex : x.toInt = (x.toNat : Int) := BitVec.toInt_eq_toNat_of_lt (by omega)
  have ex1 : (x.toNat : Int) - 1 = ((x.toNat - 1 : Nat) : Int) := by omega
  have hx1 : x.toNat - 1 ≤ 8191 := by omega
  simp (disch := (first | omega | decide | (simp only [rsD] <;> omega) | fail)) only [↓rsC, rsK, rsL, ↓rsDec1_4, tick_eq, tickV_eq, ne_eq, Int.reduceAdd, Int.reduceSub, Int.reduceMul, Int.reduceEq, Int.reduceLT, Int.reduceLE, Int.reduceToNat, Nat.reduceMul, Nat.reduceAdd, Nat.reduceSub, ←decide_not, h0, hgt, k, ex, ex1]
  refine slices_BinarySearch_int_int_call (Gives.to (BSearch_spec (h.ext0 X) hs hl hb (x.toNat - 1) (by omega)) fun w2 F2 => ?_)
  by_cases hm : x.toNat - 1 ∈ os
  · rw [decide_eq_true hm, if_pos hm]
    have hlo : lowN os (x.toNat - 1) ≤ os.length := List.countP_le_length
    simp (disch := (first | omega | decide | (simp only [rsD] <;> omega) | fail)) only [↓rsC, rsK, rsL, ↓rsDec1_4, tick_eq, tickV_eq, ne_eq, Int.reduceAdd, Int.reduceSub, Int.reduceMul, Int.reduceEq, Int.reduceLT, Int.reduceLE, Int.reduceToNat, Nat.reduceMul, Nat.reduceAdd, Nat.reduceSub, ←decide_not, h0, hgt, k, ex, ex1]
    exact ⟨by trivial, X.trans F2⟩
  · rw [decide_eq_false hm, if_neg hm]
    simp (disch := (first | omega | decide | (simp only [rsD] <;> omega) | fail)) only [↓rsC, rsK, rsL, ↓rsDec1_4, tick_eq, tickV_eq, ne_eq, Int.reduceAdd, Int.reduceSub, Int.reduceMul, Int.reduceEq, Int.reduceLT, Int.reduceLE, Int.reduceToNat, Nat.reduceMul, Nat.reduceAdd, Nat.reduceSub, ←decide_not, h0, hgt, k, ex, ex1]
    exact ⟨by trivial, X.trans F2⟩
abbrev rsDec1_5 := (And.intro @xu8_add (And.intro @xu8_mul (And.intro @xu16_add (And.intro @xu16_mul (And.intro @xu32_add (And.intro @xu32_mul (And.intro @xu64_add (And.intro @xu64_mul (And.intro @ld_42 (And.intro @ld_99 (And.intro @ld_132 (And.intro @lr_74 (And.intro @fa_102_0 (And.intro @fa_132_0 (And.intro @al_74 (And.intro @al_157 (And.intro @st_74 @bd_74_0_1)))))))))))))))))
theorem rroot_spec {w : World} {base s g : Nat} {a : Option Addr} {c : Nat} {ws : List (BitVec 64)} {b t e : Nat} {os : List Nat} {pa : Option Addr} {pc : Nat} (S : SpIs w base s g a c ws b t e) (h : RowAt w pa (nums os)) (hs : os.Pairwise (· < ·)) (hl : os.length ≤ 100000) (hb : ∀ y ∈ os, y ≤ 1000000) (at' : Nat) (hat : at' + 5 ≤ ws.length) :
    Gives Try.prog n_image_reader_root #[rdV s pa os.length pc, i64 (at' : Int)] w (.agg #[.string (strOf (nameS ws at')), i64 (numb os (wat ws (at' + 4)))]) := by
  have hwl := S.mem.len
  have hsl := fun (a : Addr) (w : World) (K : K1) => xSlice_arr (P := Try.prog) (t := 157) (n := 32) (a := a) (w := w) (K := K) (by kernel_rfl) (by kernel_rfl) (by kernel_rfl) (by decide)
  have one : ∀ l' : List (BitVec 8), ∀ v ∈ bys l', v.oneCell' = true := fun l' v hv => by
    obtain ⟨c, _, rfl⟩ := List.mem_map.1 hv; rfl
  have lag : ∀ l' : List (BitVec 8), l'.length = 32 → (aggN Try.prog 157 = some (bys l').length) := fun l' h => by
    rw [List.length_map, h]; kernel_rfl
  refine image_reader_root_of ?_
  unfold image_reader_root
  have bx : ∀ (y : World) (K : K1), xBox Try.prog 132 (rdV s pa os.length pc) y K = K (ptr y.heap.size) (y.alloc (.cells #[ptr s, .slice pa os.length pc] 132)) := fun y K => xBox_r
  have al : ∀ (y : World) (K : K1), xAlloc Try.prog 74 y K = K (ptr y.heap.size) (y.alloc (.cells #[.string ⟨#[]⟩, i64 0] 74)) := fun y K => xAlloc_r (by kernel_rfl)
  have al2 : ∀ (y : World) (K : K1), xAlloc Try.prog 157 y K = K (ptr y.heap.size) (y.alloc (.cells (bys (List.replicate 32 z8)).toArray 157)) := fun y K => xAlloc_r (by kernel_rfl)
  rw [bx, al, al2]
  have B1 : Blk (w.alloc (.cells #[ptr s, .slice pa os.length pc] 132)) w.heap.size 132 [ptr s, .slice pa os.length pc] := Blk.at rfl
  have X1 : Ext [] w (w.alloc (.cells #[ptr s, .slice pa os.length pc] 132)) := Ext.alloc _ _ _
  generalize w.alloc (.cells #[ptr s, .slice pa os.length pc] 132) = y1 at *
  have zw : w.heap.size ≤ w.heap.size := Nat.le_refl _
  generalize w.heap.size = g1 at B1 zw ⊢
  have B2 : Blk (y1.alloc (.cells #[.string ⟨#[]⟩, i64 0] 74)) y1.heap.size 74 [.string ⟨#[]⟩, i64 0] := Blk.at rfl
  have X2 : Ext [] y1 (y1.alloc (.cells #[.string ⟨#[]⟩, i64 0] 74)) := Ext.alloc _ _ _
  have z1 := B1.lt
  have z1w := X1.size
  generalize y1.alloc (.cells #[.string ⟨#[]⟩, i64 0] 74) = y2 at *
  generalize y1.heap.size = g2 at *
  have B3 : Blk (y2.alloc (.cells (bys (List.replicate 32 z8)).toArray 157)) y2.heap.size 157 (bys (List.replicate 32 z8)) := Blk.at rfl
  have X3 : Ext [] y2 (y2.alloc (.cells (bys (List.replicate 32 z8)).toArray 157)) := Ext.alloc _ _ _
  have z2 := B2.lt
  generalize y2.alloc (.cells (bys (List.replicate 32 z8)).toArray 157) = y3 at *
  generalize y2.heap.size = g3 at *
  have X13 := (X1.trans X2).trans X3
  have S3 := S.ext0 X13
  have B13 := (B1.ext X2 (by simp)).ext X3 (by simp)
  have B23 := B2.ext X3 (by simp)
  have h3 := h.ext0 X13
  have z3 := B3.lt
  have k1 := fun i => B13.cell (i := i)
  have kS := fun i => S3.blk.cell (i := i)
  have e1 : (at' : Int) * 8 = ((at' * 8 : Nat) : Int) := by omega
  have e4 : (at' : Int) + 4 = ((at' + 4 : Nat) : Int) := by omega
  simp (disch := (first | omega | decide | (simp only [rsD] <;> omega) | fail)) only [↓rsC, rsK, rsL, ↓rsDec1_5, tick_eq, tickV_eq, ne_eq, Int.reduceAdd, Int.reduceSub, Int.reduceMul, Int.reduceEq, Int.reduceLT, Int.reduceLE, Int.reduceToNat, Nat.reduceMul, Nat.reduceAdd, Nat.reduceSub, ←decide_not, k1, kS, e1]
  refine mem_Mem_Bytes_call (Yld.mono (Bytes_ok (at' * 8) 32 S3.mem (by omega)) ?_)
  rintro u y4 ⟨F4, a4, c4, rfl, q4, R4, _⟩
  rw [bytesW_length]
  have B34 := B3.ext F4 (by simp)
  have hcp := fun (K : K1) => xCopy_all (P := Try.prog) (w := y4) (K := K) (t := 70) (e := 5) (ty := 3) (c1 := false) (c2 := false) (b := g3) (o := 0) (n := 32) (c := 32) (m := 32) (c' := c4) (a := a4) (cs := bys (bytesW ws (at' * 8) 32)) (by kernel_rfl) (by kernel_rfl) (by simp [bytesW_length]) (Nat.le_refl _) R4 (B34.roomy (by simp [bytesW_length]) (one _))
  have B35 := B34.put (cs := bys (bytesW ws (at' * 8) 32)) (by simp [bytesW_length])
  have X4 : Ext [g3] y3 (y4.setCells g3 0 (bys (bytesW ws (at' * 8) 32))) := (F4.more (by simp)).trans (Ext.sets (Ext.refl _ _) (.inl (by simp)))
  have X5 : Ext [] w (y4.setCells g3 0 (bys (bytesW ws (at' * 8) 32))) := (X13.trans F4).sets (.inr (by omega))
  have B14 := B13.ext X4 (by simp only [List.mem_singleton]; omega)
  have B24 := B23.ext X4 (by simp only [List.mem_singleton]; omega)
  have k1 := fun i => (B13.ext F4 (by simp)).cell (i := i)
  have kS := fun i => (S3.ext0 F4).blk.cell (i := i)
  have zz1 := (B13.ext F4 (by simp)).lt
  have zz2 := (S3.ext0 F4).blk.lt
  have ns3 : s ≠ g3 := by have := S.blk.lt; omega
  simp (disch := (first | omega | decide | (simp only [rsD] <;> omega) | fail)) only [↓rsC, rsK, rsL, ↓rsDec1_5, tick_eq, tickV_eq, ne_eq, Int.reduceAdd, Int.reduceSub, Int.reduceMul, Int.reduceEq, Int.reduceLT, Int.reduceLE, Int.reduceToNat, Nat.reduceMul, Nat.reduceAdd, Nat.reduceSub, ←decide_not, k1, kS, e1, hsl, hcp, e4]
  generalize y4.setCells g3 0 (bys (bytesW ws (at' * 8) 32)) = y5 at *
  have S5 := S.ext0 X5
  refine mem_Mem_Get_call (Gives.to (Get_ok (at' + 4) S5.mem (by omega)) fun y6 F6 => ?_)
  simp (disch := (first | omega | decide | (simp only [rsD] <;> omega) | fail)) only [↓rsC, rsK, rsL, ↓rsDec1_5, tick_eq, tickV_eq, ne_eq, Int.reduceAdd, Int.reduceSub, Int.reduceMul, Int.reduceEq, Int.reduceLT, Int.reduceLE, Int.reduceToNat, Nat.reduceMul, Nat.reduceAdd, Nat.reduceSub, ←decide_not, k1, kS, e1, hsl, hcp, e4]
  have F7 := F6.trans (Ext.drew [] y6)
  have B37 := B35.ext F7 (by simp)
  have B17 := B14.ext F7 (by simp)
  have B27 := B24.ext F7 (by simp)
  have X7 := X5.trans F7
  generalize y6.drew = y7 at *
  have hla := fun (K : K1) => xLoad_arr (P := Try.prog) (K := K) (lag _ bytesW_length) B37
  have k7 := fun i => B17.cell (i := i)
  simp (disch := (first | omega | decide | (simp only [rsD] <;> omega) | fail)) only [↓rsC, rsK, rsL, ↓rsDec1_5, tick_eq, tickV_eq, ne_eq, Int.reduceAdd, Int.reduceSub, Int.reduceMul, Int.reduceEq, Int.reduceLT, Int.reduceLE, Int.reduceToNat, Nat.reduceMul, Nat.reduceAdd, Nat.reduceSub, ←decide_not, k1, kS, e1, hsl, hcp, e4, hla, k7]
  refine table_Name_String_call (Gives.to (String_spec _ bytesW_length y7) fun y8 F8 => ?_)
  have k8 := fun i => (B17.ext F8 (by simp)).cell (i := i)
  simp (disch := (first | omega | decide | (simp only [rsD] <;> omega) | fail)) only [↓rsC, rsK, rsL, ↓rsDec1_5, tick_eq, tickV_eq, ne_eq, Int.reduceAdd, Int.reduceSub, Int.reduceMul, Int.reduceEq, Int.reduceLT, Int.reduceLE, Int.reduceToNat, Nat.reduceMul, Nat.reduceAdd, Nat.reduceSub, ←decide_not, k1, kS, e1, hsl, hcp, e4, hla, k7, k8]
  refine image_reader_number_call (Gives.to (number_spec (h.ext0 (X7.trans F8)) hs hl hb _) fun y9 F9 => ?_)
  have B29 := (B27.ext F8 (by simp)).ext F9 (by simp)
  have f9 := fun i => B29.frozen (i := i)
  have k9 := fun i => B29.cell (i := i)
  simp (disch := (first | omega | decide | (simp only [rsD] <;> omega) | fail)) only [↓rsC, rsK, rsL, ↓rsDec1_5, tick_eq, tickV_eq, ne_eq, Int.reduceAdd, Int.reduceSub, Int.reduceMul, Int.reduceEq, Int.reduceLT, Int.reduceLE, Int.reduceToNat, Nat.reduceMul, Nat.reduceAdd, Nat.reduceSub, ←decide_not, k1, kS, e1, hsl, hcp, e4, hla, k7, k8, f9, k9]
  refine ⟨?_, ((X7.trans (F8.trans F9)).set' (.inr (by omega))).set' (.inr (by omega))⟩
  unfold nameS wat
  rw [Nat.mul_comm]
end Go.Proofs.Ytdpmidgeipibbaa
end
section
set_option linter.unusedVariables false
set_option linter.unusedSimpArgs false
set_option maxHeartbeats 4000000
namespace Go.Proofs.Ytdpmidgeipibbaa
open Go.Sh Go.RowKit

/-- bytes of their own, with no room behind them -/
def BytesC (w w' : World) (u : Value) (l : List (BitVec 8)) : Prop := Ext [] w w' ∧ ∃ a, u = .tuple #[.slice a l.length l.length, i64 0] ∧ RowAt w' a (bys l) ∧ ∀ x, a = some x → w.heap.size ≤ x.block
abbrev rsDec2_0 := (And.intro @xu8_add (And.intro @xu8_mul (And.intro @xu8_rem (And.intro @xu8_quo (And.intro @xu8_com (And.intro @xu8_shr (And.intro @xu8_lss (And.intro @xu16_add (And.intro @xu16_mul (And.intro @xu16_rem (And.intro @xu16_quo (And.intro @xu16_com (And.intro @xu16_shr (And.intro @xu16_lss (And.intro @xu32_add (And.intro @xu32_mul 
  (And.intro @xu32_rem (And.intro @xu32_quo (And.intro @xu32_com (And.intro @xu32_shr (And.intro @xu32_lss (And.intro @xu64_add (And.intro @xu64_mul (And.intro @xu64_rem (And.intro @xu64_quo (And.intro @xu64_com (And.intro @xu64_shr (And.intro @xu64_lss (And.intro @xi64_lss (And.intro @xi64_shr (And.intro @ld_28 (And.intro @ld_69 (And.intro @fa_165_0 
  (And.intro @cv_69_5 (And.intro @ia_28 (And.intro @ln_28 (And.intro @bs_70_0 @bs_70_1)))))))))))))))))))))))))))))))))))))
theorem Bytes_okC {w : World} {base g : Nat} {a : Option Addr} {c : Nat} {ws : List (BitVec 64)} (at' n : Nat) (h : MemIs w base g a c ws) (hi : at' + n ≤ 8 * ws.length) : Yld Try.prog n_mem_Mem_Bytes #[ptr g, i64 at', i64 n] w fun u w' => BytesC w w' u (bytesW ws at' n) := by
  refine mem_Mem_Bytes_of ?_
  unfold mem_Mem_Bytes
  have hl := h.len
  simp (disch := (first | omega | decide | (simp only [rsD] <;> omega) | fail)) only [↓rsC, rsK, rsL, ↓rsDec2_0, tick_eq, tickV_eq, ne_eq, Int.reduceAdd, Int.reduceSub, Int.reduceMul, Int.reduceEq, Int.reduceLT, Int.reduceLE, Int.reduceToNat, Nat.reduceMul, Nat.reduceAdd, Nat.reduceSub, ←decide_not, h.hd]
  refine mem_in_call (Gives.to (min_spec _ _ _ _ (by omega) (by omega)) fun w1 E1 => ?_)
  have z1 := E1.size
  try simp only [World.size_alloc, World.size_setCell, World.size_drew] at z1
  have hv : decide (among (at' : Int) n (ws.length * 8)) = true := decide_eq_true (by unfold among; omega)
  simp (disch := (first | omega | decide | (simp only [rsD] <;> omega) | fail)) only [↓rsC, rsK, rsL, ↓rsDec2_0, tick_eq, tickV_eq, ne_eq, Int.reduceAdd, Int.reduceSub, Int.reduceMul, Int.reduceEq, Int.reduceLT, Int.reduceLE, Int.reduceToNat, Nat.reduceMul, Nat.reduceAdd, Nat.reduceSub, ←decide_not, h.hd, hv]
  refine xLoop_r n (fun k vs w' => ∃ u, vs = [u, i64 ((at' : Int) + k)] ∧ Ext [] w w' ∧ w'.ownsRow w.heap.size 5 1 u k (bys (bytesW ws at' k))) ⟨_, by simp, E1, own_nil⟩ ?_ ?_
  · rintro k hk u v1 ⟨s, hu, F1, O1⟩ nxt hnx
    simp only [List.map_cons, List.map_nil, List.cons.injEq, and_true] at hu
    rw [hu.1, hu.2]
    have h1 := h.ext0 F1
    obtain ⟨b, o, rfl, hb, hc⟩ := h1.own.row.at (i := (at' + k) / 8) (by simp; omega)
    simp only [List.getElem_map] at hc
    have t1 : (((at' : Int) + k) / 8).toNat = (at' + k) / 8 := by omega
    have t2 : (8 * (((at' : Int) + k) % 8)).toNat = 8 * ((at' + k) % 8) := by omega
    unfold mem_Mem_Bytes_l1
    have eb : (ws[(at' + k) / 8] >>> (8 * ((at' + k) % 8))).setWidth 8 = byteW ws (at' + k) := by
      unfold byteW
      rw [List.getD_eq_getElem?_getD, List.getElem?_eq_getElem (by omega)]
      rfl
    simp (disch := (first | omega | decide | (simp only [rsD] <;> omega) | fail)) only [↓rsC, rsK, rsL, ↓rsDec2_0, tick_eq, tickV_eq, ne_eq, Int.reduceAdd, Int.reduceSub, Int.reduceMul, Int.reduceEq, Int.reduceLT, Int.reduceLE, Int.reduceToNat, Nat.reduceMul, Nat.reduceAdd, Nat.reduceSub, ←decide_not, h.hd, hv, h1.hd, t1, hc, t2, eb]
    refine xAppend_own (e := 5) (base := w.heap.size) (news := bys [byteW ws (at' + k)]) (z := .int .u8 0) (bytes := 1) (by kernel_rfl) (by kernel_rfl) (by rfl) (own_ext O1 (Ext.alloc [] v1 _)) (by rfl) (lit_row v1 [byteW ws (at' + k)]) (by simp) bys_ok (by omega) (by omega) (Nat.le_trans F1.size (Ext.alloc [] v1 _).size) ?_
    intro v' w' hown hgr
    have F2 : Ext [] w w' := grownBy_new (F1.trans (Ext.alloc [] v1 _)) hgr (fun g hg => (O1.lt g hg).1)
    simp (disch := (first | omega | decide | (simp only [rsD] <;> omega) | fail)) only [↓rsC, rsK, rsL, ↓rsDec2_0, tick_eq, tickV_eq, ne_eq, Int.reduceAdd, Int.reduceSub, Int.reduceMul, Int.reduceEq, Int.reduceLT, Int.reduceLE, Int.reduceToNat, Nat.reduceMul, Nat.reduceAdd, Nat.reduceSub, ←decide_not, h.hd, hv, h1.hd, t1, hc, t2, eb]
    refine hnx _ _ ⟨v', by simp [Int.add_assoc], F2, ?_⟩
    unfold bytesW
    rw [List.range_succ, List.map_append]
    simpa [bys, bytesW] using hown
  · rintro u v1 ⟨s, hu, F1, O1⟩ nxt
    simp only [List.map_cons, List.map_nil, List.cons.injEq, and_true] at hu
    rw [hu.1, hu.2]
    obtain ⟨a2, c2, rfl, hl2, hc2, hn2, R2⟩ := own_slice O1
    unfold mem_Mem_Bytes_l1
    simp (disch := (first | omega | decide | (simp only [rsD] <;> omega) | fail)) only [↓rsC, rsK, rsL, ↓rsDec2_0, tick_eq, tickV_eq, ne_eq, Int.reduceAdd, Int.reduceSub, Int.reduceMul, Int.reduceEq, Int.reduceLT, Int.reduceLE, Int.reduceToNat, Nat.reduceMul, Nat.reduceAdd, Nat.reduceSub, ←decide_not, h.hd, hv]
    refine slices_Clip_byte_byte_call (Gives.to (ClipB_spec hc2) fun w2 F2 => ?_)
    simp (disch := (first | omega | decide | (simp only [rsD] <;> omega) | fail)) only [↓rsC, rsK, rsL, ↓rsDec2_0, tick_eq, tickV_eq, ne_eq, Int.reduceAdd, Int.reduceSub, Int.reduceMul, Int.reduceEq, Int.reduceLT, Int.reduceLE, Int.reduceToNat, Nat.reduceMul, Nat.reduceAdd, Nat.reduceSub, ←decide_not, h.hd, hv]
    exact ⟨F1.trans F2, a2, by rw [bytesW_length], R2.ext0 F2, fun x hx => by subst hx; exact (O1.lt x.block rfl).1⟩
abbrev rsDec2_1 := (And.intro @xu8_neq (And.intro @xu16_neq (And.intro @xu32_neq (And.intro @xu64_neq (And.intro @xi64_neq (And.intro @xi64_neg (And.intro @ld_99 @fa_102_0)))))))
theorem ORead_okC {w : World} {base s g : Nat} {a : Option Addr} {c : Nat} {ws : List (BitVec 64)} {b t e o from' n : Nat} (S : SpIs w base s g a c ws b t e) (h : ObjAt ws b t o) (hn : from' + n ≤ bN (wat ws o)) : Yld Try.prog n_obj_Read #[ptr s, i64 (o : Int), i64 (from' : Int), i64 (n : Int)] w fun u w' => BytesC w w' u (bytesW ws ((o + 1 + pN (wat ws o)) * 8 + from') n) := by
  obtain ⟨v1, v2, v3, v4, v5, v6, v7, v8⟩ := okW_v h.ok
  have q1 := S.te
  have q2 := S.el
  have hhi := h.hi
  refine obj_Read_of ?_
  unfold obj_Read
  refine obj_bytes_call (Gives.to (bytes_ok S h hn) fun w1 F1 => ?_)
  have S1 := S.ext0 F1
  have k1 := fun i => S1.blk.cell (i := i)
  simp (disch := (first | omega | decide | (simp only [rsD] <;> omega) | fail)) only [↓rsC, rsK, rsL, ↓rsDec2_1, tick_eq, tickV_eq, ne_eq, Int.reduceAdd, Int.reduceSub, Int.reduceMul, Int.reduceEq, Int.reduceLT, Int.reduceLE, Int.reduceToNat, Nat.reduceMul, Nat.reduceAdd, Nat.reduceSub, ←decide_not, k1]
  refine mem_Mem_Bytes_call (Yld.mono (Bytes_okC ((o + 1 + pN (wat ws o)) * 8 + from') n S1.mem (by omega)) ?_)
  rintro u w2 ⟨F2, a2, rfl, R2, U2⟩
  have z1 := F1.size
  simp (disch := (first | omega | decide | (simp only [rsD] <;> omega) | fail)) only [↓rsC, rsK, rsL, ↓rsDec2_1, tick_eq, tickV_eq, ne_eq, Int.reduceAdd, Int.reduceSub, Int.reduceMul, Int.reduceEq, Int.reduceLT, Int.reduceLE, Int.reduceToNat, Nat.reduceMul, Nat.reduceAdd, Nat.reduceSub, ←decide_not, k1]
  exact ⟨F1.trans F2, a2, rfl, R2, fun x hx => by have := U2 x hx; omega⟩
abbrev OwnIt (w : World) (v : Value) (l : List Int) : Prop := Own w 3 1 v l.length (its l)
theorem appIt {w : World} {K : K1} {v : Value} {l : List Int} {o : Int} {g : Nat} {cs : List Value} (hO : OwnIt w v l) (hcs : cs = [i64 o]) (hl : l.length ≤ 100000)
    (hK : ∀ v' w', OwnIt w' v' (l ++ [o]) → Stp (blk v) (blk v') w w' → K v' w') (hg : g = w.heap.size := by first | rfl | (simp only [World.size_alloc, World.size_drew, World.size_setCell] <;> omega)) : xBuiltin Try.prog .append #[66, 66] 66 [false, false] [v, .slice (some ⟨g, 0, none⟩) 1 1] (w.alloc (.cells cs.toArray 3)) K := by
  subst hcs hg
  refine xAppL (bytes := 8) (z := .int .i64 0) (by kernel_rfl) (by kernel_rfl) (by rfl) (by decide) hO (by simp) (by simp [Value.oneCell']) (by omega) (by omega) fun v' w' h1 h2 => hK v' w' ?_ h2
  show Own w' 3 1 v' (l ++ [o]).length (its (l ++ [o]))
  rw [List.length_append, its, List.map_append]
  exact h1
/-- a row grows that lies behind a block -/
theorem grow {y w1 w2 : World} {hx : Nat} {v v' : Value} (F : Ext [hx] y w1) (U : ∀ z ∈ blk v, y.heap.size ≤ z) (hlt : hx < y.heap.size) (T : Stp (blk v) (blk v') w1 w2) : Ext [hx] y w2 ∧ (∀ z ∈ blk v', y.heap.size ≤ z) ∧ hx ∉ blk v ∧ hx ∉ blk v' := by
  have up : ∀ z ∈ blk v', y.heap.size ≤ z := fun z hz => by
    rcases T.at' z hz with h1 | h1
    · exact U z h1
    · have := F.size; omega
  exact ⟨F.cut T.ext (fun z hz => .inr (U z hz)), up, fun h => by have := U _ h; omega, fun h => by have := up _ h; omega⟩
/-- the node that stands at a place -/
def decP (ws : List (BitVec 64)) (os : List Nat) (o : Nat) : List Int := (List.range (pN (wat ws o))).map fun k => numb os (wat ws (o + 1 + k))
def decD (ws : List (BitVec 64)) (o : Nat) : List (BitVec 8) := bytesW ws ((o + 1 + pN (wat ws o)) * 8) (bN (wat ws o))
abbrev rsDec2_2 := (And.intro @xu8_add (And.intro @xu8_lss (And.intro @xu16_add (And.intro @xu16_lss (And.intro @xu32_add (And.intro @xu32_lss (And.intro @xu64_add (And.intro @xu64_lss (And.intro @xi64_lss (And.intro @ld_3 (And.intro @ld_42 (And.intro @ld_66 (And.intro @ld_72 (And.intro @ld_99 (And.intro @ld_132 (And.intro @lr_72 (And.intro @fa_72_0 (And.intro @fa_72_1 
  (And.intro @fa_102_0 (And.intro @fa_123_0 (And.intro @fa_123_1 (And.intro @fa_132_0 (And.intro @al_72 (And.intro @al_123 (And.intro @st_66 (And.intro @st_70 (And.intro @st_72 (And.intro @st_123 (And.intro @bs_66_0 @bs_66_1)))))))))))))))))))))))))))))
theorem rnode_spec {w : World} {base s g : Nat} {a : Option Addr} {c : Nat} {ws : List (BitVec 64)} {b t e o : Nat} {os : List Nat} {pa : Option Addr} {pc : Nat} (S : SpIs w base s g a c ws b t e) (hO : ObjAt ws b t o) (h : RowAt w pa (nums os)) (hs : os.Pairwise (· < ·)) (hl : os.length ≤ 100000) (hb : ∀ y ∈ os, y ≤ 1000000) :
    Yld Try.prog n_image_reader_node #[rdV s pa os.length pc, i64 (o : Int)] w fun u w' => Ext [] w w' ∧ ∃ x : GN, u = .agg (gnC x).toArray ∧ x.p = decP ws os o ∧ x.d = decD ws o ∧ NOk w' x ∧ (∀ y, x.pa = some y → w.heap.size ≤ y.block) ∧ ∀ y, x.da = some y → w.heap.size ≤ y.block := by
  have hwl := S.mem.len
  have hto := hO.lt
  have q1 := S.te
  have q2 := S.el
  obtain ⟨v1, v2, v3, v4, v5, v6, v7, v8⟩ := okW_v hO.ok
  have hhi := hO.hi
  refine image_reader_node_of ?_
  unfold image_reader_node
  have bx : ∀ (y : World) (K : K1), xBox Try.prog 132 (rdV s pa os.length pc) y K = K (ptr y.heap.size) (y.alloc (.cells #[ptr s, .slice pa os.length pc] 132)) := fun y K => xBox_r
  have al : ∀ (y : World) (K : K1), xAlloc Try.prog 72 y K = K (ptr y.heap.size) (y.alloc (.cells #[.slice none 0 0, .slice none 0 0] 72)) := fun y K => xAlloc_r (by kernel_rfl)
  rw [bx, al]
  have B1 : Blk (w.alloc (.cells #[ptr s, .slice pa os.length pc] 132)) w.heap.size 132 [ptr s, .slice pa os.length pc] := Blk.at rfl
  have X1 : Ext [] w (w.alloc (.cells #[ptr s, .slice pa os.length pc] 132)) := Ext.alloc _ _ _
  generalize w.alloc (.cells #[ptr s, .slice pa os.length pc] 132) = y1 at *
  have zw : w.heap.size ≤ w.heap.size := Nat.le_refl _
  generalize w.heap.size = g1 at B1 zw ⊢
  have B2 : Blk (y1.alloc (.cells #[.slice none 0 0, .slice none 0 0] 72)) y1.heap.size 72 [.slice none 0 0, .slice none 0 0] := Blk.at rfl
  have X2 : Ext [] y1 (y1.alloc (.cells #[.slice none 0 0, .slice none 0 0] 72)) := Ext.alloc _ _ _
  have z1 := B1.lt
  have z1w := X1.size
  generalize y1.alloc (.cells #[.slice none 0 0, .slice none 0 0] 72) = y2 at *
  generalize y1.heap.size = g2 at *
  have B12 := B1.ext X2 (by simp)
  have z2 := B2.lt
  have X12 := X1.trans X2
  have S2 := S.ext0 X12
  have k1 := fun i => B12.cell (i := i)
  simp (disch := (first | omega | decide | (simp only [rsD] <;> omega) | fail)) only [↓rsC, rsK, rsL, ↓rsDec2_2, tick_eq, tickV_eq, ne_eq, Int.reduceAdd, Int.reduceSub, Int.reduceMul, Int.reduceEq, Int.reduceLT, Int.reduceLE, Int.reduceToNat, Nat.reduceMul, Nat.reduceAdd, Nat.reduceSub, ←decide_not, k1]
  refine space_Space_Head_call (Gives.to (SHead_in S2 hO.lo hto) fun y3 F3 => ?_)
  rw [v1, v2, v3, v4, v5]
  have B13 := B12.ext F3 (by simp)
  have B23 := B2.ext F3 (by simp)
  have z3 := F3.size
  simp (disch := (first | omega | decide | (simp only [rsD] <;> omega) | fail)) only [↓rsC, rsK, rsL, ↓rsDec2_2, tick_eq, tickV_eq, ne_eq, Int.reduceAdd, Int.reduceSub, Int.reduceMul, Int.reduceEq, Int.reduceLT, Int.reduceLE, Int.reduceToNat, Nat.reduceMul, Nat.reduceAdd, Nat.reduceSub, ←decide_not, k1]
  simp only [size_sets, World.size_alloc]
  have Bh0 : Blk (y3.alloc (.cells #[i64 (pN (wat ws o) : Int), i64 (bN (wat ws o) : Int), .bool false, i64 0] 123)) y3.heap.size 123 [i64 (pN (wat ws o) : Int), i64 (bN (wat ws o) : Int), .bool false, i64 0] := Blk.at rfl
  have X3 : Ext [] y3 (y3.alloc (.cells #[i64 (pN (wat ws o) : Int), i64 (bN (wat ws o) : Int), .bool false, i64 0] 123)) := Ext.alloc _ _ _
  have zs4 : (y3.alloc (.cells #[i64 (pN (wat ws o) : Int), i64 (bN (wat ws o) : Int), .bool false, i64 0] 123)).heap.size = y3.heap.size + 1 := World.size_alloc _ _
  generalize y3.alloc (.cells #[i64 (pN (wat ws o) : Int), i64 (bN (wat ws o) : Int), .bool false, i64 0] 123) = y4 at *
  have Bx0 : Blk (y4.alloc (.cells #[.slice none 0 0, .slice none 0 0] 72)) (y3.heap.size + 1) 72 [.slice none 0 0, .slice none 0 0] := Blk.at zs4.symm
  have X4 : Ext [] y4 (y4.alloc (.cells #[.slice none 0 0, .slice none 0 0] 72)) := Ext.alloc _ _ _
  have zs5 : (y4.alloc (.cells #[.slice none 0 0, .slice none 0 0] 72)).heap.size = y3.heap.size + 1 + 1 := by rw [World.size_alloc, zs4]
  generalize y4.alloc (.cells #[.slice none 0 0, .slice none 0 0] 72) = y at *
  have Bh := Bh0.ext X4 (by simp)
  have Xy : Ext [] w y := X12.trans (F3.trans (X3.trans X4))
  have B14 := B13.ext (X3.trans X4) (by simp)
  have B24 := B23.ext (X3.trans X4) (by simp)
  generalize hhx : y3.heap.size + 1 = hx at *
  have hlt : hx < y.heap.size := by omega
  have g12 := B13.lt
  have g23 := B23.lt
  generalize y3.heap.size = gh at *
  have fresh : ∀ {w' : World}, Ext [hx] y w' → Ext [] w w' := fun F => Xy.new F (fun z hz => by simp only [List.mem_singleton] at hz; have := F3.size; omega)
  have ne1 : g1 ∉ [hx] := by simp only [List.mem_singleton]; omega
  have ne2 : g2 ∉ [hx] := by simp only [List.mem_singleton]; omega
  have neh : gh ∉ [hx] := by simp only [List.mem_singleton]; omega
  have nilb : ∀ z, z ∉ blk (.slice none 0 0) := by simp [blk, Value.ownBlock]
  have hpl : (decP ws os o).length = pN (wat ws o) := by simp [decP]
  refine xLoop_n (pN (wat ws o)) (fun j => [i64 (j : Int)]) (fun j w' => Ext [hx] y w' ∧ ∃ v, OwnIt w' v ((decP ws os o).take j) ∧ Blk w' hx 72 [v, .slice none 0 0] ∧ ∀ z ∈ blk v, y.heap.size ≤ z) rfl ⟨Ext.refl _ _, _, Own.nil, Bx0, fun z hz => absurd hz (nilb z)⟩ ?_ ?_
  · rintro j hj u x1 hu ⟨F, v, O, B, U⟩ nxt hnx
    simp only [List.map_cons, List.map_nil, List.cons.injEq, and_true] at hu
    rw [hu]
    have Sx := S.ext0 (fresh F)
    have kr := fun i => (B14.ext F ne1).cell (i := i)
    have kS := fun i => Sx.blk.cell (i := i)
    obtain ⟨a0, c0, hv0, _⟩ := O.slice
    subst hv0
    unfold image_reader_node_l1
    have ei : (o : Int) + 1 + (j : Int) = ((o + 1 + j : Nat) : Int) := by omega
    simp (disch := (first | omega | decide | (simp only [rsD] <;> omega) | fail)) only [↓rsC, rsK, rsL, ↓rsDec2_2, tick_eq, tickV_eq, ne_eq, Int.reduceAdd, Int.reduceSub, Int.reduceMul, Int.reduceEq, Int.reduceLT, Int.reduceLE, Int.reduceToNat, Nat.reduceMul, Nat.reduceAdd, Nat.reduceSub, ←decide_not, k1, kr, kS, ei]
    have hget : Gives Try.prog n_mem_Mem_Get #[ptr g, i64 ((o + 1 + j : Nat) : Int)] x1 (.tuple #[u64 (wat ws (o + 1 + j)), i64 0]) := Get_ok (o + 1 + j) Sx.mem (by omega)
    refine mem_Mem_Get_call (Gives.to hget fun x2 E2 => ?_)
    have E3 := E2.trans (Ext.drew [] x2)
    have kr3 := fun i => ((B14.ext F ne1).ext E3 (by simp)).cell (i := i)
    have kb3 := fun i => (B.ext E3 (by simp)).cell (i := i)
    simp (disch := (first | omega | decide | (simp only [rsD] <;> omega) | fail)) only [↓rsC, rsK, rsL, ↓rsDec2_2, tick_eq, tickV_eq, ne_eq, Int.reduceAdd, Int.reduceSub, Int.reduceMul, Int.reduceEq, Int.reduceLT, Int.reduceLE, Int.reduceToNat, Nat.reduceMul, Nat.reduceAdd, Nat.reduceSub, ←decide_not, k1, kr, kS, ei, kr3, kb3]
    refine image_reader_number_call (Gives.to (number_spec (h.ext0 ((fresh F).trans E3)) hs hl hb _) fun x4 E4 => ?_)
    have F4 := (F.trans (E3.more (by simp))).trans (E4.more (by simp))
    have B4 := (B.ext E3 (by simp)).ext E4 (by simp)
    have O4 := (O.ext0 E3).ext0 E4
    have kb4 := fun i => B4.cell (i := i)
    have zb4 := B4.lt
    simp (disch := (first | omega | decide | (simp only [rsD] <;> omega) | fail)) only [↓rsC, rsK, rsL, ↓rsDec2_2, tick_eq, tickV_eq, ne_eq, Int.reduceAdd, Int.reduceSub, Int.reduceMul, Int.reduceEq, Int.reduceLT, Int.reduceLE, Int.reduceToNat, Nat.reduceMul, Nat.reduceAdd, Nat.reduceSub, ←decide_not, k1, kr, kS, ei, kr3, kb3, kb4]
    refine appIt O4 rfl (by simp; omega) fun v' x5 O5 T5 => ?_
    obtain ⟨F5, U5, n1, n2⟩ := grow F4 U hlt T5
    have B5 := B4.ext T5.ext n1
    obtain ⟨a3, c3, hv3, _⟩ := O5.slice
    have k5 := fun i => B5.cell (i := i)
    have f5 := fun i => B5.frozen (i := i)
    subst hv3
    simp (disch := (first | omega | decide | (simp only [rsD] <;> omega) | fail)) only [↓rsC, rsK, rsL, ↓rsDec2_2, tick_eq, tickV_eq, ne_eq, Int.reduceAdd, Int.reduceSub, Int.reduceMul, Int.reduceEq, Int.reduceLT, Int.reduceLE, Int.reduceToNat, Nat.reduceMul, Nat.reduceAdd, Nat.reduceSub, ←decide_not, k1, kr, kS, ei, kr3, kb3, kb4, k5, f5]
    have B6 := B5.set (i := 0) (v := .slice a3 ((decP ws os o).take j ++ [numb os (wat ws (o + 1 + j))]).length c3)
    have O6 := O5.ext (Ext.set (w := x5) (b := hx) (o := 0) (v := .slice a3 ((decP ws os o).take j ++ [numb os (wat ws (o + 1 + j))]).length c3)) (fun z hz hm => by simp only [List.mem_singleton] at hm; subst hm; exact n2 hz)
    have hsu : (decP ws os o).take (j + 1) = (decP ws os o).take j ++ [numb os (wat ws (o + 1 + j))] := by
      rw [List.take_add_one, List.getElem?_eq_getElem (by omega)]
      simp [decP]
    rw [← hsu] at O6 B6 U5 ⊢
    exact hnx _ ⟨F5.set' (.inl (by simp)), _, O6, B6, U5⟩
  · rintro u x1 hu ⟨F, v, O, B, U⟩ nxt
    simp only [List.map_cons, List.map_nil, List.cons.injEq, and_true] at hu
    rw [hu]
    have etk : (decP ws os o).take (pN (wat ws o)) = decP ws os o := by rw [← hpl, List.take_length]
    rw [etk] at O
    have Sx := S.ext0 (fresh F)
    have kr := fun i => (B14.ext F ne1).cell (i := i)
    have kh := fun i => (Bh.ext F neh).cell (i := i)
    obtain ⟨a0, c0, hv0, hc0, _, hn0, R0, _⟩ := O.slice
    subst hv0
    unfold image_reader_node_l1
    simp (disch := (first | omega | decide | (simp only [rsD] <;> omega) | fail)) only [↓rsC, rsK, rsL, ↓rsDec2_2, tick_eq, tickV_eq, ne_eq, Int.reduceAdd, Int.reduceSub, Int.reduceMul, Int.reduceEq, Int.reduceLT, Int.reduceLE, Int.reduceToNat, Nat.reduceMul, Nat.reduceAdd, Nat.reduceSub, ←decide_not, k1, kr, kh]
    have hrd := ORead_okC (from' := 0) (n := bN (wat ws o)) Sx hO (by omega)
    refine obj_Read_call (Yld.mono hrd ?_)
    rintro u x2 ⟨F2, a2, rfl, R2, U2⟩
    rw [bytesW_length]
    have B2 := B.ext F2 (by simp)
    have k2 := fun i => B2.cell (i := i)
    have f2 := fun i => B2.frozen (i := i)
    have O2 := O.ext0 F2
    simp (disch := (first | omega | decide | (simp only [rsD] <;> omega) | fail)) only [↓rsC, rsK, rsL, ↓rsDec2_2, tick_eq, tickV_eq, ne_eq, Int.reduceAdd, Int.reduceSub, Int.reduceMul, Int.reduceEq, Int.reduceLT, Int.reduceLE, Int.reduceToNat, Nat.reduceMul, Nat.reduceAdd, Nat.reduceSub, ←decide_not, k1, kr, kh, k2, f2]
    refine slices_Clip_int_int_call (Gives.to (ClipI_spec hc0) fun x3 F3' => ?_)
    have Fs : Ext [hx] x2 (x2.setCell ⟨hx, 1, none⟩ (.slice a2 (bN (wat ws o)) (bN (wat ws o)))) := Ext.set
    have B3 := (B2.set (i := 1) (v := .slice a2 (bN (wat ws o)) (bN (wat ws o)))).ext F3' (by simp)
    have F3x := ((F.trans (F2.more (by simp))).trans Fs).trans (F3'.more (by simp))
    have k3 := fun i => B3.cell (i := i)
    have f3 := fun i => B3.frozen (i := i)
    have B24x := B24.ext F3x ne2
    have k24 := fun i => B24x.cell (i := i)
    have f24 := fun i => B24x.frozen (i := i)
    have Rp := ((R0.ext0 F2).ext Fs (fun b o hb hm => by
      simp only [List.mem_singleton] at hm
      have := U b (by subst hb; simp [blk, Value.ownBlock])
      omega)).ext0 F3'
    have Rd := (R2.ext Fs (fun b o hb hm => by
      simp only [List.mem_singleton] at hm
      have := U2 _ hb
      have := F.size
      simp only at *
      omega)).ext0 F3'
    have g2x : g2 ≠ hx := by omega
    simp (disch := (first | omega | decide | (simp only [rsD] <;> omega) | fail)) only [↓rsC, rsK, rsL, ↓rsDec2_2, tick_eq, tickV_eq, ne_eq, Int.reduceAdd, Int.reduceSub, Int.reduceMul, Int.reduceEq, Int.reduceLT, Int.reduceLE, Int.reduceToNat, Nat.reduceMul, Nat.reduceAdd, Nat.reduceSub, ←decide_not, k1, kr, kh, k2, f2, k3, f3, k24, f24, g2x]
    have zF := F.size
    have nda : ∀ b o, a2 = some ⟨b, o, none⟩ → b ∉ [hx, g2] := fun b o hb hm => by
      have := U2 _ hb
      simp only [List.mem_cons, List.not_mem_nil, or_false] at hm
      simp only at this
      omega
    have npa : ∀ b o, a0 = some ⟨b, o, none⟩ → b ∉ [hx, g2] := fun b o hb hm => by
      have := U b (by subst hb; simp [blk, Value.ownBlock])
      simp only [List.mem_cons, List.not_mem_nil, or_false] at hm
      omega
    have FE : Ext [hx, g2] x3 (((x3.setCell ⟨hx, 0, none⟩ (.slice a0 (decP ws os o).length (decP ws os o).length)).setCell ⟨g2, 0, none⟩ (.slice a0 (decP ws os o).length (decP ws os o).length)).setCell ⟨g2, 1, none⟩ (.slice a2 (bN (wat ws o)) (bN (wat ws o)))) := (((Ext.refl _ _).set' (.inl (by simp))).set' (.inl (by simp))).set' (.inl (by simp))
    refine ⟨(((fresh F3x).set' (.inr (by have := F3.size; omega))).set' (.inr (by omega))).set' (.inr (by omega)), ⟨decP ws os o, a0, (decP ws os o).length, decD ws o, a2, bN (wat ws o)⟩, ?_, rfl, rfl, ?_, fun y' hy' => ?_, fun y' hy' => ?_⟩
    · have : (decD ws o).length = bN (wat ws o) := bytesW_length
      simp only [gnC, this]
    · have hd : (decD ws o).length = bN (wat ws o) := bytesW_length
      refine ⟨Rp.ext FE npa, Nat.le_refl _, fun e => ?_, Rd.ext FE nda, by rw [hd]; exact Nat.le_refl _, fun e => ?_⟩
      · have := hn0 e; simp only; omega
      · rcases Rd with h | ⟨b, o, h, _⟩
        · have := congrArg List.length h
          simp only [List.length_map, bytesW_length, List.length_nil] at this
          exact this
        · simp only at e; rw [e] at h; cases h
    · have := U y'.block (by simp only at hy'; rw [hy']; simp [blk, Value.ownBlock])
      have := Xy.size
      omega
    · have := U2 y' hy'
      have := Xy.size
      omega
end Go.Proofs.Ytdpmidgeipibbaa
end
section
set_option linter.unusedVariables false
set_option linter.unusedSimpArgs false
set_option maxHeartbeats 4000000
namespace Go.Proofs.Ytdpmidgeipibbaa
open Go.Sh Go.RowKit

theorem lowN_get {os : List Nat} (hs : os.Pairwise (· < ·)) {i : Nat} (hi : i < os.length) : lowN os os[i] = i := by
  have hinc : ∀ i j (hi : i < os.length) (hj : j < os.length), i < j → os[i] < os[j] := fun i j hi hj hij => List.pairwise_iff_getElem.1 hs i j hi hj hij
  refine lowN_at (Nat.le_of_lt hi) (fun k hk h => hinc k i hk hi h) fun k hk h => ?_
  by_cases e : i = k
  · subst e; exact Nat.le_refl _
  · exact Nat.le_of_lt (hinc i k hi hk (by omega))
theorem lowN_mem {os : List Nat} (hs : os.Pairwise (· < ·)) {x : Nat} (hx : x ∈ os) : ∃ h : lowN os x < os.length, os[lowN os x] = x := by
  obtain ⟨i, hi, rfl⟩ := List.getElem_of_mem hx
  have := lowN_get hs hi
  exact ⟨by rw [this]; exact hi, by simp only [this]⟩
theorem numb_ran {os : List Nat} (hs : os.Pairwise (· < ·)) (x : BitVec 64) : 0 ≤ numb os x ∧ numb os x ≤ os.length := by
  unfold numb
  split
  · omega
  · split
    · rename_i h
      obtain ⟨h1, _⟩ := lowN_mem hs h
      omega
    · omega
theorem numb_zero {os : List Nat} {x : BitVec 64} (h : x.toNat = 0) : numb os x = 0 := by unfold numb; rw [if_pos (.inl h)]
theorem numb_some {os : List Nat} {x : BitVec 64} (h0 : x.toNat ≠ 0) (h1 : x.toNat ≤ 8192) (h2 : x.toNat - 1 ∈ os) : numb os x = (lowN os (x.toNat - 1) : Int) + 1 := by
  unfold numb; rw [if_neg (by omega), if_pos h2]
theorem ptW_numb {os : List Nat} (hs : os.Pairwise (· < ·)) {x : BitVec 64} (h : PtrOk os x.toNat) : ptW os (numb os x) = x := by
  rcases h with h | ⟨h1, h2, h3⟩
  · rw [numb_zero h]
    unfold ptW
    rw [if_pos rfl]
    exact BitVec.eq_of_toNat_eq (by rw [h]; rfl)
  · rw [numb_some (by omega) h1 h3]
    unfold ptW
    rw [if_neg (by omega)]
    obtain ⟨q1, q2⟩ := lowN_mem hs h3
    rw [show ((lowN os (x.toNat - 1) : Int) + 1).toNat - 1 = lowN os (x.toNat - 1) by omega, List.getD_eq_getElem?_getD, List.getElem?_eq_getElem q1, Option.getD_some, q2]
    apply BitVec.eq_of_toNat_eq
    rw [BitVec.toNat_ofNat]
    omega
theorem bytesLess_tri : ∀ x y : List UInt8, (Op.bytesLess x y || x == y) = false → Op.bytesLess y x = true
  | [], [], h => by simp at h
  | [], b :: y, h => by simp [Op.bytesLess] at h
  | a :: x, [], h => by simp [Op.bytesLess]
  | a :: x, b :: y, h => by
    rw [Op.bytesLess] at h ⊢
    rw [Bool.or_eq_false_iff, Bool.or_eq_false_iff] at h
    obtain ⟨⟨h1, h2⟩, h3⟩ := h
    have h1 : ¬ a < b := by simpa using h1
    by_cases e : a = b
    · subst e
      have h4 : (Op.bytesLess x y || x == y) = false := by
        rw [Bool.or_eq_false_iff]
        refine ⟨by simpa using h2, ?_⟩
        simp only [beq_eq_false_iff_ne, ne_eq, List.cons.injEq, true_and] at h3 ⊢
        exact h3
      have := bytesLess_tri x y h4
      simp [this]
    · have : b < a := by
        rcases UInt8.lt_or_lt_of_ne e with h | h
        · exact absurd h h1
        · exact h
      simp [this]
theorem byteW_bit (ws : List (BitVec 64)) (i r : Nat) : (byteW ws i).getLsbD r = (decide (r < 8) && (wat ws (i / 8)).getLsbD (8 * (i % 8) + r)) := by
  unfold byteW wat
  rw [BitVec.getLsbD_setWidth, BitVec.getLsbD_ushiftRight]
theorem bytesW_at {ws : List (BitVec 64)} {a n i : Nat} (hi : i < n) : (bytesW ws a n).getD i (BitVec.ofNat 8 0) = byteW ws (a + i) := by
  rw [List.getD_eq_getElem?_getD, bytesW, List.getElem?_map, List.getElem?_range hi]
  rfl
theorem wordV_bytes {ws : List (BitVec 64)} {q n k b : Nat} (hb : b < 64) : (wordV (bytesW ws (q * 8) n) k).getLsbD b = (decide (8 * k + b / 8 < n) && (wat ws (q + k)).getLsbD b) := by
  rw [wordV_bit _ _ _ hb]
  by_cases h : 8 * k + b / 8 < n
  · rw [bytesW_at h, byteW_bit, show (q * 8 + (8 * k + b / 8)) / 8 = q + k by omega, show 8 * ((q * 8 + (8 * k + b / 8)) % 8) + b % 8 = b by omega]
    have : b % 8 < 8 := by omega
    simp [h, this]
  · rw [List.getD_eq_getElem?_getD, List.getElem?_eq_none (by rw [bytesW_length]; omega)]
    simp [h]
theorem wordV_whole {ws : List (BitVec 64)} {q n k : Nat} (h : 8 * k + 8 ≤ n) : wordV (bytesW ws (q * 8) n) k = wat ws (q + k) := by
  apply BitVec.eq_of_getLsbD_eq
  intro b hb
  rw [wordV_bytes hb]
  have : 8 * k + b / 8 < n := by omega
  simp [this]
theorem wordV_last {ws : List (BitVec 64)} {q n k : Nat} (hk : k = n / 8) (hz : wat ws (q + k) >>> (8 * (n % 8)) = 0#64) : wordV (bytesW ws (q * 8) n) k = wat ws (q + k) := by
  apply BitVec.eq_of_getLsbD_eq
  intro b hb
  rw [wordV_bytes hb]
  by_cases h : 8 * k + b / 8 < n
  · simp [h]
  · have := congrArg (fun z => z.getLsbD (b - 8 * (n % 8))) hz
    simp only [BitVec.getLsbD_ushiftRight, BitVec.getLsbD_zero] at this
    rw [show 8 * (n % 8) + (b - 8 * (n % 8)) = b by omega] at this
    simp [h, this]
theorem Sc.sum {x : Nat → BitVec 64} {t o : Nat} {l : List Nat} (h : Sc x t o l none) : (∀ j (hj : j < l.length), l[j] = o + ((l.take j).map fun p => szW (x p)).sum) ∧ o + (l.map fun p => szW (x p)).sum = t := by
  generalize hb : (none : Option Nat) = b at h
  induction h with
  | done => exact ⟨fun j hj => by simp at hj, by simp⟩
  | bad => cases hb
  | @step o l b h1 h2 h3 ih =>
    obtain ⟨i1, i2⟩ := ih hb
    refine ⟨fun j hj => ?_, by simp only [List.map_cons, List.sum_cons]; omega⟩
    cases j with
    | zero => simp
    | succ j =>
      simp only [List.getElem_cons_succ, List.take_succ_cons, List.map_cons, List.sum_cons]
      rw [i1 j (by simpa using hj)]
      omega
/-! the graph that words are read as -/
def bare (x : GN) : GN := ⟨x.p, none, 0, x.d, none, 0⟩
def decN (l : List (BitVec 64)) (os : List Nat) (o : Nat) : GN := ⟨decP l os o, none, 0, decD l o, none, 0⟩
def decNs (l : List (BitVec 64)) (os : List Nat) : List GN := os.map (decN l os)
def decRs (l : List (BitVec 64)) (os : List Nat) : List GR := (List.range (nR l)).map fun i => ⟨nameS l (2 + 5 * i), numb os (wat l (2 + 5 * i + 4))⟩
theorem decNs_get {l : List (BitVec 64)} {os : List Nat} {j : Nat} (h : j < (decNs l os).length) : (decNs l os)[j] = decN l os (os[j]'(by simpa [decNs] using h)) := by simp [decNs]
theorem decRs_get {l : List (BitVec 64)} {os : List Nat} {j : Nat} (h : j < (decRs l os).length) : (decRs l os)[j] = ⟨nameS l (2 + 5 * j), numb os (wat l (2 + 5 * j + 4))⟩ := by simp [decRs]
theorem decNs_len {l : List (BitVec 64)} {os : List Nat} : (decNs l os).length = os.length := by simp [decNs]
theorem decRs_len {l : List (BitVec 64)} {os : List Nat} : (decRs l os).length = nR l := by simp [decRs]
structure DecOk (l : List (BitVec 64)) (os : List Nat) : Prop where
  two : 2 ≤ l.length
  room : 2 + 5 * nR l ≤ l.length
  sc : Sc (wat l) l.length (2 + 5 * nR l) os none
  good : GoodG (decNs l os) (decRs l os)
  enc : encW (decNs l os) (decRs l os) = l
theorem bare_gW (ns : List GN) : gW (ns.map bare) = gW ns := by
  unfold gW
  rw [List.map_map]
  rfl
theorem bare_plL (ns : List GN) (R j : Nat) : plL (ns.map bare) R j = plL ns R j := by
  unfold plL
  refine List.map_congr_left fun i _ => ?_
  rw [← List.map_take, bare_gW]
theorem bare_enc (ns : List GN) (rs : List GR) : encW (ns.map bare) rs = encW ns rs := by
  unfold encW
  rw [bare_gW, List.length_map, bare_plL, List.flatMap_map]
  rfl
theorem bare_good {ns : List GN} {rs : List GR} : GoodG (ns.map bare) rs ↔ GoodG ns rs := by
  constructor
  · intro h
    refine ⟨fun x hx => ?_, h.r, fun r hr => ?_, h.o⟩
    · have := h.x (bare x) (List.mem_map.2 ⟨x, hx, rfl⟩)
      rw [List.length_map] at this
      exact this
    · have := h.s r hr
      rw [List.length_map] at this
      exact this
  · intro h
    refine ⟨fun x hx => ?_, h.r, fun r hr => ?_, h.o⟩
    · obtain ⟨y, hy, rfl⟩ := List.mem_map.1 hx
      have := h.x y hy
      rw [List.length_map]
      exact this
    · have := h.s r hr
      rw [List.length_map]
      exact this
section
variable {ns : List GN} {rs : List GR} (hg : GoodG ns rs) (hN : 2 + 5 * rs.length + gW ns ≤ 8192)
include hg hN
end
end Go.Proofs.Ytdpmidgeipibbaa
end
section
set_option linter.unusedVariables false
set_option linter.unusedSimpArgs false
set_option maxHeartbeats 4000000
namespace Go.Proofs.Ytdpmidgeipibbaa
open Go.Sh Go.RowKit

theorem Sc.cover {x : Nat → BitVec 64} {t o : Nat} {l : List Nat} (h : Sc x t o l none) : ∀ i, o ≤ i → i < t → ∃ p ∈ l, p ≤ i ∧ i < p + szW (x p) := by
  generalize hb : (none : Option Nat) = b at h
  induction h with
  | done => intro i h1 h2; omega
  | bad => cases hb
  | @step o l b h1 h2 h3 ih =>
    intro i h4 h5
    by_cases h6 : i < o + szW (x o)
    · exact ⟨o, List.mem_cons_self .., h4, h6⟩
    · obtain ⟨p, hp, h7, h8⟩ := ih hb i (by omega) h5
      exact ⟨p, List.mem_cons_of_mem _ hp, h7, h8⟩
theorem okW_pack_eq {x : BitVec 64} (h : okW x) : packW (pN x) (bN x) false 0 = x := by
  obtain ⟨⟨h1, h2⟩, h3⟩ := h
  have ht : uT x = 0 := by unfold uT; rw [h3]; rfl
  have hp : 0 ≤ uP x := by unfold uP; rw [h3]; simp; omega
  have hbb : 0 ≤ uB x := by unfold uB; rw [h3]; simp; omega
  rw [h3, ht] at h2
  unfold pN bN
  rw [Int.toNat_of_nonneg hp, Int.toNat_of_nonneg hbb]
  exact h2
theorem roots_in {l : List (BitVec 64)} {os : List Nat} : ∀ R, rootsF l os R = [] → ∀ i, i < R → nameB l (2 + 5 * i) ∧ leN (nameS l (2 + 5 * i)) (lastAt l i) = false ∧ PtrOk os (wat l (2 + 5 * i + 4)).toNat
  | 0, _, i, hi => by omega
  | R + 1, h, i, hi => by
    rw [rootsF, List.append_eq_nil_iff, List.append_eq_nil_iff] at h
    obtain ⟨h1, h2, h3⟩ := h
    by_cases e : i = R
    · subst e
      unfold nmF at h2
      unfold rtF at h3
      split at h2
      · cases h2
      rename_i h4
      split at h3
      · rename_i h5
        refine ⟨Classical.byContradiction fun hn => h4 (.inl hn), ?_, h5⟩
        cases hq : leN (nameS l (2 + 5 * i)) (lastAt l i)
        · rfl
        · exact absurd (.inr hq) h4
      · cases h3
    · exact roots_in R h1 i (by omega)
theorem last_in {l : List (BitVec 64)} : ∀ i, (∀ j, j < i → nameB l (2 + 5 * j)) → 0 < i → lastAt l i = nameS l (2 + 5 * (i - 1))
  | 0, _, h => by omega
  | i + 1, h, _ => by rw [lastAt, if_pos (h i (by omega))]; rfl
/-- what is known of words with nothing wrong -/
structure Fine (l : List (BitVec 64)) (os : List Nat) : Prop where
  len : l.length ≤ 8192
  sz : sizeOk l
  mag : wat l 0 = BitVec.ofNat 64 1296125772
  sc : Sc (wat l) l.length (2 + 5 * nR l) os none
  ptr : ∀ o ∈ os, ∀ k, k < pN (wat l o) → PtrOk os (wat l (o + 1 + k)).toNat
  pad : ∀ o ∈ os, ¬ padX (wat l) o
  rt : ∀ i, i < nR l → nameB l (2 + 5 * i) ∧ leN (nameS l (2 + 5 * i)) (lastAt l i) = false ∧ PtrOk os (wat l (2 + 5 * i + 4)).toNat
theorem img_fine {l : List (BitVec 64)} {os : List Nat} {bad : Option Nat} (hl : l.length ≤ 8192) (hS : sizeOk l → Sc (wat l) l.length (2 + 5 * nR l) os bad) (h : imgG l os bad = []) : Fine l os := by
  unfold imgG at h
  rw [List.append_eq_nil_iff] at h
  obtain ⟨h1, h2⟩ := h
  split at h2
  rotate_left
  · cases h2
  rename_i hz
  rw [List.append_eq_nil_iff] at h2
  obtain ⟨h3, h4⟩ := h2
  unfold allF at h3
  rw [List.append_eq_nil_iff, List.flatMap_eq_nil_iff] at h3
  obtain ⟨h5, h6⟩ := h3
  have hb : bad = none := by cases bad with
    | none => rfl
    | some b => cases h5
  subst hb
  have ho : ∀ o ∈ os, (∀ k, k < pN (wat l o) → PtrOk os (wat l (o + 1 + k)).toNat) ∧ ¬ padX (wat l) o := fun o hm => by
    have := h6 o hm
    unfold objF at this
    rw [List.append_eq_nil_iff, ptrF_nil] at this
    refine ⟨this.1, fun hp => ?_⟩
    have h7 := this.2
    unfold padF at h7
    rw [if_pos hp] at h7
    cases h7
  refine ⟨hl, hz, ?_, hS hz, fun o hm => (ho o hm).1, fun o hm => (ho o hm).2, roots_in _ h4⟩
  unfold magF at h1
  split at h1
  · cases h1
  · rename_i h7
    exact Classical.byContradiction fun h8 => h7 (.inr h8)
section
variable {l : List (BitVec 64)} {os : List Nat} (F : Fine l os)
include F
theorem fine_good : GoodG (decNs l os) (decRs l os) := by
  have hs := F.sc.all.1
  refine ⟨fun x hx => ?_, ?_, fun r hr => ?_, fun i hi => ?_⟩
  · obtain ⟨o, ho, rfl⟩ := List.mem_map.1 hx
    obtain ⟨_, hok, _⟩ := F.sc.all.2 o ho
    obtain ⟨v1, v2, v3, v4, v5, v6, v7, v8⟩ := okW_v hok
    refine ⟨fun p hp => ?_, by simpa [decN, decP] using v7, by simpa [decN, decD, bytesW_length] using v8⟩
    obtain ⟨k, hk, rfl⟩ := List.mem_map.1 hp
    rw [decNs_len]
    exact numb_ran hs _
  · rw [decRs_len]; exact F.sz.2.2.2.1
  · obtain ⟨i, hi, rfl⟩ := List.mem_map.1 hr
    obtain ⟨h1, _, _⟩ := F.rt i (List.mem_range.1 hi)
    refine ⟨nmOk_iff.1 h1.1, ?_⟩
    rw [decNs_len]
    exact numb_ran hs _
  · have hi' : i + 1 < nR l := by rwa [decRs_len] at hi
    rw [decRs_get, decRs_get]
    obtain ⟨_, h2, _⟩ := F.rt (i + 1) hi'
    rw [last_in (i + 1) (fun j hj => (F.rt j (by omega)).1) (by omega)] at h2
    unfold leN at h2
    exact bytesLess_tri _ _ h2
theorem fine_sz {o : Nat} (ho : o ∈ os) : gsz (decN l os o) = szW (wat l o) := by
  obtain ⟨_, hok, _⟩ := F.sc.all.2 o ho
  obtain ⟨v1, v2, v3, v4, v5, v6, v7, v8⟩ := okW_v hok
  rw [v6]
  simp [gsz, decN, decP, decD, bytesW_length]
theorem fine_gW (j : Nat) : gW ((decNs l os).take j) = ((os.take j).map fun p => szW (wat l p)).sum := by
  unfold gW decNs
  rw [← List.map_take, List.map_map]
  congr 1
  exact List.map_congr_left fun o ho => fine_sz F (List.mem_of_mem_take ho)
theorem fine_plc {j : Nat} (hj : j < os.length) : plc (decNs l os) (decRs l os) j = os[j] := by
  unfold plc
  rw [fine_gW F, decRs_len, F.sc.sum.1 j hj]
theorem fine_pl : plE (decNs l os) (decRs l os) = os := by
  refine List.ext_getElem (by rw [plL_len, decNs_len]) fun j h1 h2 => ?_
  have := pl_get (ns := decNs l os) (rs := decRs l os) (j := j) (by rw [decNs_len]; exact h2)
  rw [List.getElem?_eq_getElem h1] at this
  rw [Option.some.inj this, fine_plc F h2]
theorem fine_all : 2 + 5 * (decRs l os).length + gW (decNs l os) = l.length := by
  have h := fine_gW F (decNs l os).length
  rw [List.take_length, decNs_len, List.take_length] at h
  rw [h, decRs_len]
  exact F.sc.sum.2
theorem fine_hdr : wat l 1 = hdrW (nR l) l.length := by
  obtain ⟨h1, h2, h3, h4, h5⟩ := F.sz
  have hl := F.len
  have f0 : (fieldB (wat l 1) 0 16).toNat = _ := field_nat _ (a := 0) (n := 16) (by decide) (by decide)
  have f1 : (fieldB (wat l 1) 16 32).toNat = _ := field_nat _ (a := 16) (n := 32) (by decide) (by decide)
  have f2 : (fieldB (wat l 1) 48 16).toNat = _ := field_nat _ (a := 48) (n := 16) (by decide) (by decide)
  have e0 : nR l = _ := f0
  have e1 := congrArg BitVec.toNat h3
  have e2 := congrArg BitVec.toNat h2
  rw [f1, BitVec.toNat_ofNat] at e1
  rw [f2, BitVec.toNat_ofNat] at e2
  apply BitVec.eq_of_toNat_eq
  unfold hdrW
  rw [BitVec.toNat_ofNat]
  have := (wat l 1).isLt
  omega
theorem fine_enc : encW (decNs l os) (decRs l os) = l := by
  have hg := fine_good F
  have hl := F.len
  have ha := fine_all F
  have hE := enc_len hg
  have hs := F.sc.all.1
  have hR : (decRs l os).length = nR l := decRs_len
  have hpl := fine_pl F
  have key : ∀ i, i < l.length → wat (encW (decNs l os) (decRs l os)) i = wat l i := by
    intro i hi
    by_cases h0 : i = 0
    · subst h0
      rw [F.mag]; rfl
    by_cases h1 : i = 1
    · subst h1
      rw [fine_hdr F, ← hR, ← ha]; rfl
    by_cases h2 : i < 2 + 5 * nR l
    · have hj : (i - 2) / 5 < nR l := by omega
      have hj' : (i - 2) / 5 < (decRs l os).length := by omega
      obtain ⟨n1, n2, n3⟩ := F.rt _ hj
      by_cases h4 : (i - 2) % 5 = 4
      · have := enc_rt hg hj'
        rw [show 2 + 5 * ((i - 2) / 5) + 4 = i by omega, hpl, decRs_get] at this
        rw [this]
        rw [show 2 + 5 * ((i - 2) / 5) + 4 = i by omega] at n3 ⊢
        exact ptW_numb hs n3
      · have e : (encW (decNs l os) (decRs l os))[2 + 5 * ((i - 2) / 5) + (i - 2) % 5]? = _ := enc_root (fun r hr => (hg.s r hr).1.2.1) hj' (k := (i - 2) % 5) (by omega)
        rw [show 2 + 5 * ((i - 2) / 5) + (i - 2) % 5 = i by omega, decRs_get] at e
        have hp : padS (nameS l (2 + 5 * ((i - 2) / 5))) = bytesW l ((2 + 5 * ((i - 2) / 5)) * 8) 32 := by
          have := n1.2
          unfold fixN at this
          rw [if_pos n1.1] at this
          rw [Nat.mul_comm _ 8]
          exact this
        unfold rtW at e
        simp only [hp] at e
        have hw : (i - 2) % 5 < ((bytesW l ((2 + 5 * ((i - 2) / 5)) * 8) 32).length + 7) / 8 := by rw [bytesW_length]; omega
        rw [List.getElem?_append_left (by rw [wordsV_len]; exact hw), wordsV_at _ hw, wordV_whole (by omega)] at e
        rw [wat_some e]
        congr 1
        omega
    · obtain ⟨o, ho, h3, h4⟩ := F.sc.cover i (by omega) hi
      obtain ⟨_, hok, _⟩ := F.sc.all.2 o ho
      obtain ⟨v1, v2, v3, v4, v5, v6, v7, v8⟩ := okW_v hok
      have hpt := F.ptr o ho
      have hpad := F.pad o ho
      obtain ⟨j, hj, rfl⟩ := List.getElem_of_mem ho
      have hj' : j < (decNs l os).length := by rw [decNs_len]; exact hj
      have hpc := fine_plc F hj
      have hx : (decNs l os)[j] = decN l os os[j] := decNs_get hj'
      have xp : (decNs l os)[j].p.length = pN (wat l os[j]) := by rw [hx]; simp [decN, decP]
      have xd : (decNs l os)[j].d.length = bN (wat l os[j]) := by rw [hx]; simp [decN, decD, bytesW_length]
      by_cases c0 : i = os[j]
      · have := enc_hd hg hj'
        rw [hpc, xp, xd, okW_pack_eq hok] at this
        rw [c0]
        exact this
      by_cases c1 : i < os[j] + 1 + pN (wat l os[j])
      · have hk : i - os[j] - 1 < (decNs l os)[j].p.length := by rw [xp]; omega
        have := enc_ptr hg hj' hk
        have xe : (decNs l os)[j].p[i - os[j] - 1] = numb os (wat l (os[j] + 1 + (i - os[j] - 1))) := by
          simp only [hx, decN, decP]
          rw [List.getElem_map, List.getElem_range]
        rw [hpc, hpl, xe, show os[j] + 1 + (i - os[j] - 1) = i by omega] at this
        have hq := hpt (i - os[j] - 1) (by omega)
        rw [show os[j] + 1 + (i - os[j] - 1) = i by omega] at hq
        rw [this]
        exact ptW_numb hs hq
      · have hk : i - os[j] - 1 - pN (wat l os[j]) < ((decNs l os)[j].d.length + 7) / 8 := by rw [xd]; omega
        have := enc_dat hg hj' hk
        have xe : (decNs l os)[j].d = bytesW l ((os[j] + 1 + pN (wat l os[j])) * 8) (bN (wat l os[j])) := by rw [hx]; rfl
        rw [hpc, xp, xe, show os[j] + 1 + pN (wat l os[j]) + (i - os[j] - 1 - pN (wat l os[j])) = i by omega] at this
        rw [this]
        by_cases c2 : 8 * (i - os[j] - 1 - pN (wat l os[j])) + 8 ≤ bN (wat l os[j])
        · rw [wordV_whole c2]
          congr 1
          omega
        · have hz : wat l (os[j] + szW (wat l os[j]) - 1) >>> (8 * (bN (wat l os[j]) % 8)) = 0#64 := Classical.byContradiction fun hn => hpad ⟨by omega, hn⟩
          rw [xd] at hk
          rw [show os[j] + szW (wat l os[j]) - 1 = os[j] + 1 + pN (wat l os[j]) + (i - os[j] - 1 - pN (wat l os[j])) by omega] at hz
          rw [wordV_last (by omega) hz]
          congr 1
          omega
  refine List.ext_getElem (by omega) fun i h1 h2 => ?_
  have := key i h2
  unfold wat at this
  rw [List.getD_eq_getElem?_getD, List.getElem?_eq_getElem h1, List.getD_eq_getElem?_getD, List.getElem?_eq_getElem h2] at this
  exact this
theorem fine_dec : DecOk l os := ⟨F.sz.1, F.sz.2.2.2.2, F.sc, fine_good F, fine_enc F⟩
end
/-- words are a graph's just if nothing is wrong -/
theorem img_dec {l : List (BitVec 64)} {os : List Nat} {bad : Option Nat} (hl : l.length ≤ 8192) (hS : sizeOk l → Sc (wat l) l.length (2 + 5 * nR l) os bad) : imgG l os bad = [] ↔ ∃ os', DecOk l os' := by
  constructor
  · intro h
    exact ⟨os, fine_dec (img_fine hl hS h)⟩
  · rintro ⟨os', D⟩
    have hlen := enc_len D.good
    rw [D.enc] at hlen
    have := enc_img (os := os) (bad := bad) D.good (by omega)
    rw [D.enc] at this
    exact this hS
end Go.Proofs.Ytdpmidgeipibbaa
end
section
set_option linter.unusedVariables false
set_option linter.unusedSimpArgs false
set_option maxHeartbeats 4000000
namespace Go.Proofs.Ytdpmidgeipibbaa
open Go.Sh Go.RowKit

/-- a node's rows lie apart from blocks -/
structure Apt (M : List Nat) (x : GN) : Prop where
  p : ∀ y, x.pa = some y → x.p ≠ [] → y.block ∉ M
  d : ∀ y, x.da = some y → x.d ≠ [] → y.block ∉ M
theorem NOk.ext {w w' : World} {M : List Nat} {x : GN} (h : NOk w x) (hx : Ext M w w') (ha : Apt M x) : NOk w' x := by
  refine ⟨?_, h.pl, h.pn, ?_, h.dl, h.dn⟩
  · by_cases e : x.p = []
    · rw [e]; exact .nil
    · exact h.pr.ext hx fun b o hb => ha.p _ hb e
  · by_cases e : x.d = []
    · rw [e]; exact .nil
    · exact h.dr.ext hx fun b o hb => ha.d _ hb e
theorem NOk.lt {w : World} {x : GN} (h : NOk w x) : (∀ y, x.pa = some y → x.p ≠ [] → y.block < w.heap.size) ∧ ∀ y, x.da = some y → x.d ≠ [] → y.block < w.heap.size := by
  constructor
  · intro y hy hn
    obtain ⟨b, o, h1, h2, _⟩ := h.pr.get (by simpa using hn)
    rw [hy] at h1
    cases h1
    exact h2
  · intro y hy hn
    obtain ⟨b, o, h1, h2, _⟩ := h.dr.get (by simpa using hn)
    rw [hy] at h1
    cases h1
    exact h2
/-- the blocks grow, but only by new ones -/
theorem Apt.more {w : World} {M M' : List Nat} {x : GN} (h : Apt M x) (hk : NOk w x) (hm : ∀ b ∈ M', b ∈ M ∨ w.heap.size ≤ b) : Apt M' x := by
  obtain ⟨h1, h2⟩ := hk.lt
  constructor
  · intro y hy hn hb
    rcases hm _ hb with h3 | h3
    · exact h.p y hy hn h3
    · have := h1 y hy hn; omega
  · intro y hy hn hb
    rcases hm _ hb with h3 | h3
    · exact h.d y hy hn h3
    · have := h2 y hy hn; omega
/-- a block that holds other things -/
theorem Apt.cons {w : World} {M : List Nat} {x : GN} {g : Nat} {e : TypeId} {cells : List Value} (h : Apt M x) (hk : NOk w x) (B : Blk w g e cells) (hc : ∀ v ∈ cells, (∀ i, v ≠ i64 i) ∧ ∀ c : BitVec 8, v ≠ u8 c) : Apt (g :: M) x := by
  constructor
  · intro y hy hn hm
    rcases List.mem_cons.1 hm with hm | hm
    · obtain ⟨b, o, h1, h2, h3⟩ := hk.pr.get (by simpa using hn)
      rw [hy] at h1
      cases h1
      simp only at hm
      subst hm
      have hl : 0 < (its x.p).length := by simpa using List.length_pos_iff.2 hn
      have h4 := h3 0 _ (List.getElem?_eq_getElem hl)
      rw [B.cell] at h4
      have h5 := List.mem_of_getElem? h4
      rw [List.getElem_map] at h5
      exact (hc _ h5).1 _ rfl
    · exact h.p y hy hn hm
  · intro y hy hn hm
    rcases List.mem_cons.1 hm with hm | hm
    · obtain ⟨b, o, h1, h2, h3⟩ := hk.dr.get (by simpa using hn)
      rw [hy] at h1
      cases h1
      simp only at hm
      subst hm
      have hl : 0 < (bys x.d).length := by simpa using List.length_pos_iff.2 hn
      have h4 := h3 0 _ (List.getElem?_eq_getElem hl)
      rw [B.cell] at h4
      have h5 := List.mem_of_getElem? h4
      rw [List.getElem_map] at h5
      exact (hc _ h5).2 _ rfl
    · exact h.d y hy hn hm
abbrev OwnGN (w : World) (v : Value) (l : List GN) : Prop := Own w 72 2 v l.length (l.flatMap gnC)
abbrev OwnGR (w : World) (v : Value) (l : List GR) : Prop := Own w 74 2 v l.length (l.flatMap grC)
set_option maxRecDepth 100000 in
theorem appGN {w : World} {K : K1} {v : Value} {l : List GN} {x : GN} {g : Nat} {cs : List Value} (hO : OwnGN w v l) (hcs : cs = gnC x) (hl : l.length ≤ 1000000)
    (hK : ∀ v' w', OwnGN w' v' (l ++ [x]) → Stp (blk v) (blk v') w w' → K v' w') (hg : g = w.heap.size := by first | rfl | (simp only [World.size_alloc, World.size_drew, World.size_setCell] <;> omega)) : xBuiltin Try.prog .append #[22, 22] 22 [false, false] [v, .slice (some ⟨g, 0, none⟩) 1 1] (w.alloc (.cells cs.toArray 72)) K := by
  subst hcs hg
  refine xAppL (s := 2) (n := l.length) (m := 1) (xs := l.flatMap gnC) (news := gnC x) (bytes := 48) (z := .agg #[.slice none 0 0, .slice none 0 0]) (by kernel_rfl) (by kernel_rfl) (by rfl) (by decide) hO (by rfl) (by simp [gnC, Value.oneCell']) (by omega) (by omega) fun v' w' h1 h2 => hK v' w' ?_ h2
  show Own w' 72 2 v' (l ++ [x]).length ((l ++ [x]).flatMap gnC)
  rw [List.length_append, List.flatMap_append]
  simpa using h1
set_option maxRecDepth 100000 in
theorem appGR {w : World} {K : K1} {v : Value} {l : List GR} {x : GR} {g : Nat} {cs : List Value} (hO : OwnGR w v l) (hcs : cs = grC x) (hl : l.length ≤ 1000000)
    (hK : ∀ v' w', OwnGR w' v' (l ++ [x]) → Stp (blk v) (blk v') w w' → K v' w') (hg : g = w.heap.size := by first | rfl | (simp only [World.size_alloc, World.size_drew, World.size_setCell] <;> omega)) : xBuiltin Try.prog .append #[23, 23] 23 [false, false] [v, .slice (some ⟨g, 0, none⟩) 1 1] (w.alloc (.cells cs.toArray 74)) K := by
  subst hcs hg
  refine xAppL (s := 2) (n := l.length) (m := 1) (xs := l.flatMap grC) (news := grC x) (bytes := 24) (z := .agg #[.string ⟨#[]⟩, .int .i64 0]) (by kernel_rfl) (by kernel_rfl) (by rfl) (by decide) hO (by rfl) (by simp [grC, Value.oneCell']) (by omega) (by omega) fun v' w' h1 h2 => hK v' w' ?_ h2
  show Own w' 74 2 v' (l ++ [x]).length ((l ++ [x]).flatMap grC)
  rw [List.length_append, List.flatMap_append]
  simpa using h1
theorem minI (a b : Int) (w : World) (K : K1) : xBuiltin Try.prog .min #[3, 3] 3 [false, false] [i64 a, i64 b] w K = K (i64 (if b < a then b else a)) w := xBuiltin_okv (by simp [builtin, Builtin.min_, Builtin.min2])
theorem ClipGN_spec {w : World} {b : Option Addr} {n m : Nat} (hm : n ≤ m) : Gives Try.prog n_slices_Clip_graph_Node_graph_Node #[.slice b n m] w (.slice b n n) := by
  refine slices_Clip_graph_Node_graph_Node_of ?_
  unfold slices_Clip_graph_Node_graph_Node
  have hs := fun (K : K1) (w : World) => xSlice_hms (P := Try.prog) (w := w) (K := K) (t := 22) (z := 2) (k := .i64) (k' := .i64) (a := b) (n := n) (c := m) (h := (n : Int)) (m := (n : Int)) (by kernel_rfl) (by kernel_rfl) (by omega) (by omega) (by omega)
  simp (disch := (first | omega | decide | (simp only [rsD] <;> omega) | fail)) only [↓rsC, rsK, rsL, ↓ln_22, tick_eq, tickV_eq, ne_eq, Int.reduceAdd, Int.reduceSub, Int.reduceMul, Int.reduceEq, Int.reduceLT, Int.reduceLE, Int.reduceToNat, Nat.reduceMul, Nat.reduceAdd, Nat.reduceSub, ←decide_not, hs]
  exact ⟨by simp, Ext.refl _ _⟩
theorem ClipGR_spec {w : World} {b : Option Addr} {n m : Nat} (hm : n ≤ m) : Gives Try.prog n_slices_Clip_graph_Root_graph_Root #[.slice b n m] w (.slice b n n) := by
  refine slices_Clip_graph_Root_graph_Root_of ?_
  unfold slices_Clip_graph_Root_graph_Root
  have hs := fun (K : K1) (w : World) => xSlice_hms (P := Try.prog) (w := w) (K := K) (t := 23) (z := 2) (k := .i64) (k' := .i64) (a := b) (n := n) (c := m) (h := (n : Int)) (m := (n : Int)) (by kernel_rfl) (by kernel_rfl) (by omega) (by omega) (by omega)
  simp (disch := (first | omega | decide | (simp only [rsD] <;> omega) | fail)) only [↓rsC, rsK, rsL, ↓ln_23, tick_eq, tickV_eq, ne_eq, Int.reduceAdd, Int.reduceSub, Int.reduceMul, Int.reduceEq, Int.reduceLT, Int.reduceLE, Int.reduceToNat, Nat.reduceMul, Nat.reduceAdd, Nat.reduceSub, ←decide_not, hs]
  exact ⟨by simp, Ext.refl _ _⟩
def DecR (w' : World) (l : List (BitVec 64)) (u : Value) : Prop :=
  (∃ os na nc ra rc ns, DecOk l os ∧ ns.map bare = decNs l os ∧ u = .tuple #[gV na nc ra rc ns (decRs l os), i64 0] ∧ GIs w' na nc ra rc ns (decRs l os)) ∨
  ((∀ os, ¬ DecOk l os) ∧ u = .tuple #[gV none 0 none 0 [] [], i64 2])
abbrev rsDec3_0 := (And.intro @xu8_add (And.intro @xu8_mul (And.intro @xu8_com (And.intro @xu8_neq (And.intro @xu8_lss (And.intro @xu8_gtr (And.intro @xu16_add (And.intro @xu16_mul (And.intro @xu16_com (And.intro @xu16_neq (And.intro @xu16_lss (And.intro @xu16_gtr (And.intro @xu32_add (And.intro @xu32_mul (And.intro @xu32_com (And.intro @xu32_neq 
  (And.intro @xu32_lss (And.intro @xu32_gtr (And.intro @xu64_add (And.intro @xu64_mul (And.intro @xu64_com (And.intro @xu64_neq (And.intro @xu64_lss (And.intro @xu64_gtr (And.intro @xi64_lss (And.intro @xi64_gtr (And.intro @xi64_neq (And.intro @xi64_neg (And.intro @ld_3 (And.intro @ld_22 (And.intro @ld_23 (And.intro @ld_25 (And.intro @ld_66 (And.intro @ld_69 
  (And.intro @ld_132 (And.intro @lr_25 (And.intro @fa_25_0 (And.intro @fa_25_1 (And.intro @fa_132_1 (And.intro @al_25 (And.intro @al_132 (And.intro @st_22 (And.intro @st_23 (And.intro @st_25 (And.intro @st_66 (And.intro @st_132 (And.intro @bd_132_0 (And.intro @bd_25_0_1 (And.intro @bd_25 (And.intro @cv_69_3 (And.intro @ia_28 (And.intro @ia_66 (And.intro @ln_28 (And.intro @ln_66 
  (And.intro @bs_22_1 @bs_23_1)))))))))))))))))))))))))))))))))))))))))))))))))))))))
theorem iDecode_spec {w : World} {l : List (BitVec 64)} {a : Option Addr} {c : Nat} (h : RowAt w a (wrds l)) (hc : l.length ≤ c) (hn : a = none → c = 0) (hl : l.length ≤ 8192) : Yld Try.prog n_image_Decode #[.slice a l.length c] w fun u w' => Ext [] w w' ∧ DecR w' l u := by
  refine image_Decode_of ?_
  unfold image_Decode
  have al : ∀ (y : World) (K : K1), xAlloc Try.prog 25 y K = K (ptr y.heap.size) (y.alloc (.cells #[.slice none 0 0, .slice none 0 0] 25)) := fun y K => xAlloc_r (by kernel_rfl)
  rw [al]
  have B0 : Blk (w.alloc (.cells #[.slice none 0 0, .slice none 0 0] 25)) w.heap.size 25 [.slice none 0 0, .slice none 0 0] := Blk.at rfl
  have X0 : Ext [] w (w.alloc (.cells #[.slice none 0 0, .slice none 0 0] 25)) := Ext.alloc _ _ _
  have h0 := h.ext0 X0
  obtain ⟨g0, hg0⟩ : ∃ g, g = w.heap.size := ⟨_, rfl⟩
  rw [← hg0] at B0 ⊢
  have zw : w.heap.size ≤ g0 := Nat.le_of_eq hg0.symm
  generalize w.alloc (.cells #[.slice none 0 0, .slice none 0 0] 25) = y0 at *
  have fail : ∀ y1 : World, Ext [] y0 y1 → (∀ os, ¬ DecOk l os) → Ext [] w ((y1.setCell ⟨g0, 0, none⟩ (.slice none 0 0)).setCell ⟨g0, 1, none⟩ (.slice none 0 0)) ∧ DecR ((y1.setCell ⟨g0, 0, none⟩ (.slice none 0 0)).setCell ⟨g0, 1, none⟩ (.slice none 0 0)) l (.tuple #[.agg #[.slice none 0 0, .slice none 0 0], i64 2]) :=
    fun y1 F1 hno => ⟨((X0.trans F1).set' (.inr zw)).set' (.inr zw), .inr ⟨hno, rfl⟩⟩
  refine mem_Of_call (Yld.mono (Of_spec l a c y0 hl h0 hn) ?_)
  rintro u y1 ⟨F1, g, a1, c1, rfl, M1⟩
  have k1 := fun i => (B0.ext F1 (by simp)).cell (i := i)
  have f1 := fun i => (B0.ext F1 (by simp)).frozen (i := i)
  by_cases h2 : l.length < 2
  · simp (disch := (first | omega | decide | (simp only [rsD] <;> omega) | fail)) only [↓rsC, rsK, rsL, ↓rsDec3_0, tick_eq, tickV_eq, ne_eq, Int.reduceAdd, Int.reduceSub, Int.reduceMul, Int.reduceEq, Int.reduceLT, Int.reduceLE, Int.reduceToNat, Nat.reduceMul, Nat.reduceAdd, Nat.reduceSub, ←decide_not, k1, f1]
    exact fail y1 F1 fun os D => by have := D.two; omega
  obtain ⟨b, o, rfl, hlt, hc1⟩ := row_w (h0.ext0 F1) (i := 1) (by omega)
  simp (disch := (first | omega | decide | (simp only [rsD] <;> omega) | fail)) only [↓rsC, rsK, rsL, ↓rsDec3_0, tick_eq, tickV_eq, ne_eq, Int.reduceAdd, Int.reduceSub, Int.reduceMul, Int.reduceEq, Int.reduceLT, Int.reduceLE, Int.reduceToNat, Nat.reduceMul, Nat.reduceAdd, Nat.reduceSub, ←decide_not, hc1]
  refine bits_Field_call (Gives.to (Field_spec _ _ _ y1) fun y2 F2 => ?_)
  have efr : (fieldB (wat l 1) 0 16).toInt = (nR l : Int) := by
    have : nR l < 65536 := nR_lt l
    exact BitVec.toInt_eq_toNat_of_lt (by unfold nR at this; omega)
  have hnr := nR_lt l
  simp (disch := (first | omega | decide | (simp only [rsD] <;> omega) | fail)) only [↓rsC, rsK, rsL, ↓rsDec3_0, tick_eq, tickV_eq, ne_eq, Int.reduceAdd, Int.reduceSub, Int.reduceMul, Int.reduceEq, Int.reduceLT, Int.reduceLE, Int.reduceToNat, Nat.reduceMul, Nat.reduceAdd, Nat.reduceSub, ←decide_not, hc1, efr]
  rw [efr]
  have F12 := F1.trans F2
  have M2 := M1.ext0 F2
  refine mem_Mem_Len_call (Gives.to (Len_spec M2) fun y3 F3 => ?_)
  rw [minI]
  have F13 := F12.trans F3
  refine mem_Mem_Len_call (Gives.to (Len_spec (M2.ext0 F3)) fun y4 F4 => ?_)
  refine mem_Mem_Len_call (Gives.to (Len_spec ((M2.ext0 F3).ext0 F4)) fun y5 F5 => ?_)
  have M5 := ((M2.ext0 F3).ext0 F4).ext0 F5
  have F15 := F13.trans (F4.trans F5)
  have k5 := fun i => (B0.ext F15 (by simp)).cell (i := i)
  have f5 := fun i => (B0.ext F15 (by simp)).frozen (i := i)
  by_cases hfr : l.length < 2 + 5 * nR l
  · have hno : ∀ os, ¬ DecOk l os := fun os D => by have := D.room; omega
    rw [if_pos (by omega)]
    refine space_Of_call (Yld.mono (SOf_spec M5 (Nat.le_refl l.length) (Nat.le_refl _) (Nat.le_refl _)) ?_)
    rintro u y6 ⟨F6, H6⟩
    have k6 := fun i => ((B0.ext F15 (by simp)).ext F6 (by simp)).cell (i := i)
    have f6 := fun i => ((B0.ext F15 (by simp)).ext F6 (by simp)).frozen (i := i)
    cases ho : objs l l.length l.length with
    | none =>
      rw [ho] at H6
      simp only at H6
      subst H6
      simp (disch := (first | omega | decide | (simp only [rsD] <;> omega) | fail)) only [↓rsC, rsK, rsL, ↓rsDec3_0, tick_eq, tickV_eq, ne_eq, Int.reduceAdd, Int.reduceSub, Int.reduceMul, Int.reduceEq, Int.reduceLT, Int.reduceLE, Int.reduceToNat, Nat.reduceMul, Nat.reduceAdd, Nat.reduceSub, ←decide_not, hc1, efr, k6, f6]
      exact fail y6 (F15.trans F6) hno
    | some os =>
      rw [ho] at H6
      obtain ⟨s, rfl, _, S6⟩ := H6
      simp (disch := (first | omega | decide | (simp only [rsD] <;> omega) | fail)) only [↓rsC, rsK, rsL, ↓rsDec3_0, tick_eq, tickV_eq, ne_eq, Int.reduceAdd, Int.reduceSub, Int.reduceMul, Int.reduceEq, Int.reduceLT, Int.reduceLE, Int.reduceToNat, Nat.reduceMul, Nat.reduceAdd, Nat.reduceSub, ←decide_not, hc1, efr]
      refine mem_Mem_Len_call (Gives.to (Len_spec S6.mem) fun y7 F7 => ?_)
      have k7 := fun i => (((B0.ext F15 (by simp)).ext F6 (by simp)).ext F7 (by simp)).cell (i := i)
      have f7 := fun i => (((B0.ext F15 (by simp)).ext F6 (by simp)).ext F7 (by simp)).frozen (i := i)
      simp (disch := (first | omega | decide | (simp only [rsD] <;> omega) | fail)) only [↓rsC, rsK, rsL, ↓rsDec3_0, tick_eq, tickV_eq, ne_eq, Int.reduceAdd, Int.reduceSub, Int.reduceMul, Int.reduceEq, Int.reduceLT, Int.reduceLE, Int.reduceToNat, Nat.reduceMul, Nat.reduceAdd, Nat.reduceSub, ←decide_not, hc1, efr, k7, f7]
      exact fail y7 (F15.trans (F6.trans F7)) hno
  rw [if_neg (by omega)]
  have efm : (2 + 5 * (nR l : Int)) = ((2 + 5 * nR l : Nat) : Int) := by omega
  rw [efm]
  refine space_Of_call (Yld.mono (SOf_spec M5 (b := 2 + 5 * nR l) (by omega) (Nat.le_refl _) (Nat.le_refl _)) ?_)
  rintro u y6 ⟨F6, H6⟩
  have B06 := (B0.ext F15 (by simp)).ext F6 (by simp)
  have F16 := F15.trans F6
  have k6 := fun i => B06.cell (i := i)
  have f6 := fun i => B06.frozen (i := i)
  cases ho : objs l (2 + 5 * nR l) l.length with
  | none =>
    rw [ho] at H6
    simp only at H6
    subst H6
    simp (disch := (first | omega | decide | (simp only [rsD] <;> omega) | fail)) only [↓rsC, rsK, rsL, ↓rsDec3_0, tick_eq, tickV_eq, ne_eq, Int.reduceAdd, Int.reduceSub, Int.reduceMul, Int.reduceEq, Int.reduceLT, Int.reduceLE, Int.reduceToNat, Nat.reduceMul, Nat.reduceAdd, Nat.reduceSub, ←decide_not, hc1, efr, k6, f6]
    refine fail y6 F16 fun os D => ?_
    rw [(objs_some D.room).2 D.sc.objs] at ho
    cases ho
  | some os =>
  rw [ho] at H6
  obtain ⟨s, rfl, _, S6⟩ := H6
  have hsc := ((objs_some (show 2 + 5 * nR l ≤ l.length by omega)).1 ho).sc
  simp (disch := (first | omega | decide | (simp only [rsD] <;> omega) | fail)) only [↓rsC, rsK, rsL, ↓rsDec3_0, tick_eq, tickV_eq, ne_eq, Int.reduceAdd, Int.reduceSub, Int.reduceMul, Int.reduceEq, Int.reduceLT, Int.reduceLE, Int.reduceToNat, Nat.reduceMul, Nat.reduceAdd, Nat.reduceSub, ←decide_not, hc1, efr]
  refine mem_Mem_Len_call (Gives.to (Len_spec S6.mem) fun y7 F7 => ?_)
  have B07 := B06.ext F7 (by simp)
  have F17 := F16.trans F7
  have S7 := S6.ext0 F7
  simp (disch := (first | omega | decide | (simp only [rsD] <;> omega) | fail)) only [↓rsC, rsK, rsL, ↓rsDec3_0, tick_eq, tickV_eq, ne_eq, Int.reduceAdd, Int.reduceSub, Int.reduceMul, Int.reduceEq, Int.reduceLT, Int.reduceLE, Int.reduceToNat, Nat.reduceMul, Nat.reduceAdd, Nat.reduceSub, ←decide_not, hc1, efr]
  obtain ⟨gr, hgr⟩ : ∃ g, g = y7.heap.size := ⟨_, rfl⟩
  have Br0 : Blk (y7.alloc (.cells #[ptr s, .slice none 0 0] 132)) gr 132 [ptr s, .slice none 0 0] := Blk.at hgr
  have X8 : Ext [] y7 (y7.alloc (.cells #[ptr s, .slice none 0 0] 132)) := Ext.alloc _ _ _
  rw [← hgr]
  generalize y7.alloc (.cells #[ptr s, .slice none 0 0] 132) = y8 at *
  have S8 := S7.ext0 X8
  have hob := SObjects_spec S8
  rw [ho] at hob
  refine space_Space_Objects_call (Yld.mono hob ?_)
  rintro u y9 ⟨v9, rfl, F9, pa, pc, rfl, hpc, R9⟩
  have S9 := S8.ext0 F9
  have Br9 := Br0.ext F9 (by simp)
  have k9 := fun i => Br9.cell (i := i)
  have f9 := fun i => Br9.frozen (i := i)
  have zr9 := Br9.lt
  have B09 := (B07.ext X8 (by simp)).ext F9 (by simp)
  have g0lt := B07.lt
  simp (disch := (first | omega | decide | (simp only [rsD] <;> omega) | fail)) only [↓rsC, rsK, rsL, ↓rsDec3_0, tick_eq, tickV_eq, ne_eq, Int.reduceAdd, Int.reduceSub, Int.reduceMul, Int.reduceEq, Int.reduceLT, Int.reduceLE, Int.reduceToNat, Nat.reduceMul, Nat.reduceAdd, Nat.reduceSub, ←decide_not, hc1, efr, k9, f9]
  simp only [size_sets]
  have R10 : RowAt (y9.setCell ⟨gr, 1, none⟩ (.slice pa os.length pc)) pa (nums os) := by
    by_cases he : os = []
    · subst he; exact .nil
    · refine R9.ext Ext.set fun b' o' hb hm => ?_
      simp only [List.mem_singleton] at hm
      subst hb hm
      obtain ⟨b2, o2, e2, _, hc2⟩ := R9.get (by simpa using he)
      cases e2
      have := hc2 0 _ (List.getElem?_eq_getElem (by simpa using List.length_pos_iff.2 he))
      rw [Nat.add_zero, Br9.cell] at this
      rcases o' with _ | _ | o'
      · simp at this
      · simp at this
      · simp at this
  have E10 : Ext [gr] y9 (y9.setCell ⟨gr, 1, none⟩ (.slice pa os.length pc)) := Ext.set
  have Br10 := Br9.set (i := 1) (v := .slice pa os.length pc)
  have hgs : s ∉ [gr] := by have := S7.blk.lt; simp only [List.mem_singleton]; omega
  have hgg : g ∉ [gr] := by have := S7.mem.lt; simp only [List.mem_singleton]; omega
  have hga : l ≠ [] → ∀ x ∈ blkOf a1, x ∉ [gr] := fun hw x hx => by have := S7.mem.blt hw x hx; simp only [List.mem_singleton]; omega
  have S10 := S9.ext E10 hgs hgg hga
  have B010 := B09.ext E10 (by simp only [List.mem_singleton]; omega)
  have X10 : Ext [] w (y9.setCell ⟨gr, 1, none⟩ (.slice pa os.length pc)) := (X0.trans (F17.trans (X8.trans F9))).set' (.inr (by have := (X0.trans F17).size; omega))
  have zs10 : (y9.setCell ⟨gr, 1, none⟩ (.slice pa os.length pc)).heap.size = y9.heap.size := World.size_setCell _ _ _
  generalize y9.setCell ⟨gr, 1, none⟩ (.slice pa os.length pc) = y10 at *
  have Bx0 : Blk (y10.alloc (.cells #[.slice none 0 0, .slice none 0 0] 25)) y9.heap.size 25 [.slice none 0 0, .slice none 0 0] := Blk.at zs10.symm
  have X11 : Ext [] y10 (y10.alloc (.cells #[.slice none 0 0, .slice none 0 0] 25)) := Ext.alloc _ _ _
  have zs11 : (y10.alloc (.cells #[.slice none 0 0, .slice none 0 0] 25)).heap.size = y9.heap.size + 1 := by rw [World.size_alloc, zs10]
  generalize y10.alloc (.cells #[.slice none 0 0, .slice none 0 0] 25) = y at *
  have Xy := X10.trans X11
  have Sy := S10.ext0 X11
  have Ry := R10.ext0 X11
  have Bry := Br10.ext X11 (by simp)
  have B0y := B010.ext X11 (by simp)
  obtain ⟨hx, hhx⟩ : ∃ g, g = y9.heap.size := ⟨_, rfl⟩
  rw [← hhx] at Bx0 ⊢
  have hlt : hx < y.heap.size := by omega
  have zS := S9.blk.lt
  have zg := S9.mem.lt
  have zB0 := B09.lt
  have fresh : ∀ {w' : World}, Ext [hx] y w' → Ext [] w w' := fun F => Xy.new F (fun z hz => by simp only [List.mem_singleton] at hz; have := (X10.size); omega)
  have ner : gr ∉ [hx] := by simp only [List.mem_singleton]; omega
  have ne0 : g0 ∉ [hx] := by simp only [List.mem_singleton]; omega
  have neS : s ∉ [hx] := by simp only [List.mem_singleton]; omega
  have neg : g ∉ [hx] := by simp only [List.mem_singleton]; omega
  have nea : l ≠ [] → ∀ x ∈ blkOf a1, x ∉ [hx] := fun hw x hx' => by have := S9.mem.blt hw x hx'; simp only [List.mem_singleton]; omega
  have nilb : ∀ z, z ∉ blk (.slice none 0 0) := by simp [blk, Value.ownBlock]
  have Ra : ∀ {w' : World}, Ext [hx] y w' → RowAt w' pa (nums os) := fun F => by
    by_cases he : os = []
    · subst he; exact .nil
    · obtain ⟨b2, o2, e2, hlt2, _⟩ := R10.get (by simpa using he)
      exact Ry.ext F fun b' o' hb hm => by
        simp only [List.mem_singleton] at hm
        rw [e2] at hb
        cases hb
        omega
  obtain ⟨hsort, hall⟩ := hsc.all
  have hcount := hsc.count
  have hob2 : ∀ y ∈ os, y ≤ 1000000 := fun y hy => by have := (hall y hy).2.2; omega
  have hosl : os.length ≤ 100000 := by omega
  have Sx : ∀ {w' : World}, Ext [hx] y w' → SpIs w' y0.heap.size s g a1 c1 l (2 + 5 * nR l) l.length l.length := fun F => Sy.ext F neS neg nea
  refine xLoop_n os.length (fun j => [i64 (j : Int)]) (fun j w' => Ext [hx] y w' ∧ ∃ v ns, ns.map bare = (decNs l os).take j ∧ OwnGN w' v ns ∧ Blk w' hx 25 [v, .slice none 0 0] ∧ (∀ z ∈ blk v, y.heap.size ≤ z) ∧ ∀ x ∈ ns, NOk w' x ∧ Apt (hx :: blk v) x) rfl ⟨Ext.refl _ _, .slice none 0 0, [], by simp, Own.nil, Bx0, fun z hz => absurd hz (nilb z), by simp⟩ ?_ ?_
  · rintro j hj u x1 hu ⟨F, v, ns, hns, O, B, U, A⟩ nxt hnx
    simp only [List.map_cons, List.map_nil, List.cons.injEq, and_true] at hu
    rw [hu]
    obtain ⟨a0, c0', hv0, _⟩ := O.slice
    subst hv0
    obtain ⟨bb, oo, rfl, hbl, hcc⟩ := (Ra F).at (i := j) (by simpa using hj)
    have hcj : x1.cell? ⟨bb, oo + j, none⟩ = some (i64 (os[j] : Int)) := by rw [hcc]; simp
    have nsl : ns.length = j := by
      have := congrArg List.length hns
      rw [List.length_map, List.length_take, decNs_len] at this
      omega
    unfold image_Decode_l1
    have Ed := Ext.drew [] x1
    have kr := fun i => ((Bry.ext F ner).ext Ed (by simp)).cell (i := i)
    have kb := fun i => (B.ext Ed (by simp)).cell (i := i)
    have hm : os[j] ∈ os := List.getElem_mem hj
    have hO : ObjAt l (2 + 5 * nR l) l.length os[j] := ⟨(hall _ hm).1, (hall _ hm).2.1, (hall _ hm).2.2⟩
    simp (disch := (first | omega | decide | (simp only [rsD] <;> omega) | fail)) only [↓rsC, rsK, rsL, ↓rsDec3_0, tick_eq, tickV_eq, ne_eq, Int.reduceAdd, Int.reduceSub, Int.reduceMul, Int.reduceEq, Int.reduceLT, Int.reduceLE, Int.reduceToNat, Nat.reduceMul, Nat.reduceAdd, Nat.reduceSub, ←decide_not, hc1, efr, k9, f9, hcj, kr, kb]
    have Fd := F.trans (Ed.more (by simp))
    refine image_reader_node_call (Yld.mono (rnode_spec (Sx Fd) hO (Ra Fd) hsort hosl hob2) ?_)
    rintro u x2 ⟨F2, x, rfl, hxp, hxd, hxk, hfa, hfb⟩
    have F02 := Fd.trans (F2.more (by simp))
    have B2 := (B.ext Ed (by simp)).ext F2 (by simp)
    have O2 := (O.ext0 Ed).ext0 F2
    have zb2 := B2.lt
    have k2 := fun i => B2.cell (i := i)
    simp (disch := (first | omega | decide | (simp only [rsD] <;> omega) | fail)) only [↓rsC, rsK, rsL, ↓rsDec3_0, tick_eq, tickV_eq, ne_eq, Int.reduceAdd, Int.reduceSub, Int.reduceMul, Int.reduceEq, Int.reduceLT, Int.reduceLE, Int.reduceToNat, Nat.reduceMul, Nat.reduceAdd, Nat.reduceSub, ←decide_not, hc1, efr, k9, f9, hcj, kr, kb, k2]
    refine appGN O2 rfl (by omega) fun v' x5 O5 T5 => ?_
    obtain ⟨F5, U5, n1, n2⟩ := grow F02 U hlt T5
    have B5 := B2.ext T5.ext n1
    obtain ⟨a3, c3, hv3, _⟩ := O5.slice
    have k5 := fun i => B5.cell (i := i)
    have f5 := fun i => B5.frozen (i := i)
    subst hv3
    simp (disch := (first | omega | decide | (simp only [rsD] <;> omega) | fail)) only [↓rsC, rsK, rsL, ↓rsDec3_0, tick_eq, tickV_eq, ne_eq, Int.reduceAdd, Int.reduceSub, Int.reduceMul, Int.reduceEq, Int.reduceLT, Int.reduceLE, Int.reduceToNat, Nat.reduceMul, Nat.reduceAdd, Nat.reduceSub, ←decide_not, hc1, efr, k9, f9, hcj, kr, kb, k2, k5, f5]
    have B6 := B5.set (i := 0) (v := .slice a3 (ns ++ [x]).length c3)
    have O6 := O5.ext (Ext.set (w := x5) (b := hx) (o := 0) (v := .slice a3 (ns ++ [x]).length c3)) (fun z hz hm => by simp only [List.mem_singleton] at hm; subst hm; exact n2 hz)
    refine hnx _ ⟨F5.set' (.inl (by simp)), _, ns ++ [x], ?_, O6, B6, U5, fun q hq => ?_⟩
    · rw [List.map_append, hns, List.take_add_one, List.getElem?_eq_getElem (by rw [decNs_len]; exact hj), decNs_get]
      simp [bare, decN, hxp, hxd]
    · have hA : NOk x2 q ∧ Apt (hx :: blk (.slice a0 ns.length c0')) q := by
        rcases List.mem_append.1 hq with hq | hq
        · exact ⟨((A q hq).1.ext0 Ed).ext0 F2, (A q hq).2⟩
        · rw [List.mem_singleton] at hq
          subst hq
          have hz1 : hx < x1.drew.heap.size := (B.ext Ed (by simp)).lt
          have hz2 := (O.ext0 Ed).lt
          refine ⟨hxk, fun y hy _ hm => ?_, fun y hy _ hm => ?_⟩
          · have := hfa y hy
            rcases List.mem_cons.1 hm with e | e
            · omega
            · have := hz2 _ e; omega
          · have := hfb y hy
            rcases List.mem_cons.1 hm with e | e
            · omega
            · have := hz2 _ e; omega
      have hA2 := hA.1.ext (T5.ext.more (fun z hz => List.mem_cons_of_mem hx hz)) hA.2
      have hA3 : Apt (hx :: blk (.slice a3 (ns ++ [x]).length c3)) q := hA.2.more hA.1 fun b hb => by
        rcases List.mem_cons.1 hb with e | e
        · exact .inl (by rw [e]; exact List.mem_cons_self ..)
        · exact (T5.at' b e).imp (List.mem_cons_of_mem _) id
      exact ⟨hA2.ext (Ext.set.more (by simp)) hA3, hA3⟩
  rintro u x1 hu ⟨F, v, ns, hns, O, B, U, A⟩ nxt
  simp only [List.map_cons, List.map_nil, List.cons.injEq, and_true] at hu
  rw [hu]
  have hns : ns.map bare = decNs l os := by rw [hns]; exact List.take_of_length_le (by rw [decNs_len]; exact Nat.le_refl _)
  have nsl : ns.length = os.length := by
    have := congrArg List.length hns
    rwa [List.length_map, decNs_len] at this
  unfold image_Decode_l1
  simp (disch := (first | omega | decide | (simp only [rsD] <;> omega) | fail)) only [↓rsC, rsK, rsL, ↓rsDec3_0, tick_eq, tickV_eq, ne_eq, Int.reduceAdd, Int.reduceSub, Int.reduceMul, Int.reduceEq, Int.reduceLT, Int.reduceLE, Int.reduceToNat, Nat.reduceMul, Nat.reduceAdd, Nat.reduceSub, ←decide_not, hc1, efr, k9, f9]
  refine xLoop_n (nR l) (fun j => [i64 (j : Int)]) (fun j w' => Ext [hx] y w' ∧ OwnGN w' v ns ∧ ∃ v2, OwnGR w' v2 ((decRs l os).take j) ∧ Blk w' hx 25 [v, v2] ∧ (∀ z ∈ blk v2, y.heap.size ≤ z) ∧ (∀ z ∈ blk v2, z ∉ blk v) ∧ ∀ x ∈ ns, NOk w' x ∧ Apt (hx :: (blk v ++ blk v2)) x) rfl ⟨F, O, .slice none 0 0, Own.nil, B, fun z hz => absurd hz (nilb z), fun z hz => absurd hz (nilb z), fun x hx' => ⟨(A x hx').1, by have := (A x hx').2; simpa [blk, Value.ownBlock] using this⟩⟩ ?_ ?_
  · rintro j hj u x1 hu ⟨F, O, v2, R, B, U2, D, A⟩ nxt hnx
    simp only [List.map_cons, List.map_nil, List.cons.injEq, and_true] at hu
    rw [hu]
    obtain ⟨a0, c0', hv0, _⟩ := R.slice
    subst hv0
    have hlen : ((decRs l os).take j).length = j := by rw [List.length_take, decRs_len]; omega
    unfold image_Decode_l2
    have Ed := Ext.drew [] x1
    have kr := fun i => ((Bry.ext F ner).ext Ed (by simp)).cell (i := i)
    have kb := fun i => (B.ext Ed (by simp)).cell (i := i)
    have ea : (2 + 5 * (j : Int)) = ((2 + 5 * j : Nat) : Int) := by omega
    simp (disch := (first | omega | decide | (simp only [rsD] <;> omega) | fail)) only [↓rsC, rsK, rsL, ↓rsDec3_0, tick_eq, tickV_eq, ne_eq, Int.reduceAdd, Int.reduceSub, Int.reduceMul, Int.reduceEq, Int.reduceLT, Int.reduceLE, Int.reduceToNat, Nat.reduceMul, Nat.reduceAdd, Nat.reduceSub, ←decide_not, hc1, efr, k9, f9, kr, kb, ea]
    have Fd := F.trans (Ed.more (by simp))
    refine image_reader_root_call (Gives.to (rroot_spec (Sx Fd) (Ra Fd) hsort hosl hob2 (2 + 5 * j) (by omega)) fun x2 F2 => ?_)
    have F02 := Fd.trans (F2.more (by simp))
    have B2 := (B.ext Ed (by simp)).ext F2 (by simp)
    have R2 := (R.ext0 Ed).ext0 F2
    have O2 := (O.ext0 Ed).ext0 F2
    have zb2 := B2.lt
    have k2 := fun i => B2.cell (i := i)
    simp (disch := (first | omega | decide | (simp only [rsD] <;> omega) | fail)) only [↓rsC, rsK, rsL, ↓rsDec3_0, tick_eq, tickV_eq, ne_eq, Int.reduceAdd, Int.reduceSub, Int.reduceMul, Int.reduceEq, Int.reduceLT, Int.reduceLE, Int.reduceToNat, Nat.reduceMul, Nat.reduceAdd, Nat.reduceSub, ←decide_not, hc1, efr, k9, f9, kr, kb, ea, k2]
    refine appGR R2 (x := ⟨nameS l (2 + 5 * j), numb os (wat l (2 + 5 * j + 4))⟩) rfl (by omega) fun v' x5 R5 T5 => ?_
    obtain ⟨F5, U5, n1, n2⟩ := grow F02 U2 hlt T5
    have B5 := B2.ext T5.ext n1
    have O5 := O2.ext T5.ext (fun z hz hm => D z hm hz)
    obtain ⟨a3, c3, hv3, _⟩ := R5.slice
    have k5 := fun i => B5.cell (i := i)
    have f5 := fun i => B5.frozen (i := i)
    have hsu : (decRs l os).take (j + 1) = (decRs l os).take j ++ [⟨nameS l (2 + 5 * j), numb os (wat l (2 + 5 * j + 4))⟩] := by
      rw [List.take_add_one, List.getElem?_eq_getElem (by rw [decRs_len]; exact hj), decRs_get]
      rfl
    rw [← hsu] at R5 hv3
    subst hv3
    simp (disch := (first | omega | decide | (simp only [rsD] <;> omega) | fail)) only [↓rsC, rsK, rsL, ↓rsDec3_0, tick_eq, tickV_eq, ne_eq, Int.reduceAdd, Int.reduceSub, Int.reduceMul, Int.reduceEq, Int.reduceLT, Int.reduceLE, Int.reduceToNat, Nat.reduceMul, Nat.reduceAdd, Nat.reduceSub, ←decide_not, hc1, efr, k9, f9, kr, kb, ea, k2, k5, f5]
    have B6 := B5.set (i := 1) (v := .slice a3 ((decRs l os).take (j + 1)).length c3)
    have hxv : hx ∉ blk v := fun hm => by have := U _ hm; omega
    have D5 : ∀ z ∈ blk (.slice a3 ((decRs l os).take (j + 1)).length c3), z ∉ blk v := fun z hz hm => by
      rcases T5.at' z hz with h1 | h1
      · exact D z h1 hm
      · have := O2.lt z hm
        omega
    have R6 := R5.ext (Ext.set (w := x5) (b := hx) (o := 1) (v := .slice a3 ((decRs l os).take (j + 1)).length c3)) (fun z hz hm => by simp only [List.mem_singleton] at hm; subst hm; exact n2 hz)
    have O6 := O5.ext (Ext.set (w := x5) (b := hx) (o := 1) (v := .slice a3 ((decRs l os).take (j + 1)).length c3)) (fun z hz hm => by simp only [List.mem_singleton] at hm; subst hm; exact hxv hz)
    refine hnx _ ⟨F5.set' (.inl (by simp)), O6, _, R6, B6, U5, D5, fun q hq => ?_⟩
    have hA : NOk x2 q ∧ Apt (hx :: (blk v ++ blk (.slice a0 ((decRs l os).take j).length c0'))) q := ⟨((A q hq).1.ext0 Ed).ext0 F2, (A q hq).2⟩
    have hA2 := hA.1.ext (T5.ext.more (fun z hz => List.mem_cons_of_mem hx (List.mem_append_right _ hz))) hA.2
    have hA3 : Apt (hx :: (blk v ++ blk (.slice a3 ((decRs l os).take (j + 1)).length c3))) q := hA.2.more hA.1 fun b hb => by
      rcases List.mem_cons.1 hb with e | e
      · exact .inl (by rw [e]; exact List.mem_cons_self ..)
      · rcases List.mem_append.1 e with e | e
        · exact .inl (List.mem_cons_of_mem _ (List.mem_append_left _ e))
        · exact (T5.at' b e).imp (fun h => List.mem_cons_of_mem _ (List.mem_append_right _ h)) id
    exact ⟨hA2.ext (Ext.set.more (by simp)) hA3, hA3⟩
  rintro u x1 hu ⟨F, O, v2, R, B, U2, D, A⟩ nxt
  simp only [List.map_cons, List.map_nil, List.cons.injEq, and_true] at hu
  rw [hu]
  have etk : (decRs l os).take (nR l) = decRs l os := List.take_of_length_le (by rw [decRs_len]; exact Nat.le_refl _)
  rw [etk] at R
  obtain ⟨na, nc, hvn, hnc, _, hnn, Rn, _⟩ := O.slice
  obtain ⟨ra, rc, hvr, hrc, _, hrn, Rr, _⟩ := R.slice
  subst hvn hvr
  have G : GIs x1 na nc ra rc ns (decRs l os) := ⟨Rn, hnc, hnn, Rr, hrc, hrn, fun x hx' => (A x hx').1⟩
  have k1 := fun i => B.cell (i := i)
  unfold image_Decode_l2
  simp (disch := (first | omega | decide | (simp only [rsD] <;> omega) | fail)) only [↓rsC, rsK, rsL, ↓rsDec3_0, tick_eq, tickV_eq, ne_eq, Int.reduceAdd, Int.reduceSub, Int.reduceMul, Int.reduceEq, Int.reduceLT, Int.reduceLE, Int.reduceToNat, Nat.reduceMul, Nat.reduceAdd, Nat.reduceSub, ←decide_not, hc1, efr, k9, f9, k1]
  have hxl : ∀ x ∈ ns, x.p.length ≤ 64 ∧ x.d.length ≤ 1024 := fun x hx' => by
    have : bare x ∈ decNs l os := by rw [← hns]; exact List.mem_map.2 ⟨x, hx', rfl⟩
    obtain ⟨o, ho', e⟩ := List.mem_map.1 this
    obtain ⟨v1, v2, v3, v4, v5, v6, v7, v8⟩ := okW_v (hall o ho').2.1
    have e1 : x.p = decP l os o := congrArg GN.p e.symm
    have e2 : x.d = decD l o := congrArg GN.d e.symm
    rw [e1, e2]
    refine ⟨by simpa [decP] using v7, by simpa [decD, bytesW_length] using v8⟩
  have hf : FewH ns (decRs l os) := ⟨by omega, by rw [decRs_len]; omega, fun x hx' => by have := hxl x hx'; omega⟩
  refine image_Encode_call (Yld.mono (iEncode_spec G hf) ?_)
  have hEn : encW ns (decRs l os) = encW (decNs l os) (decRs l os) := by rw [← hns, bare_enc]
  have hGn : GoodG (decNs l os) (decRs l os) ↔ GoodG ns (decRs l os) := by rw [← hns, bare_good]
  have hgW : gW (decNs l os) = gW ns := by rw [← hns, bare_gW]
  have fail2 : ∀ y1 : World, Ext [] w y1 → (∀ os, ¬ DecOk l os) → Ext [] w ((y1.setCell ⟨g0, 0, none⟩ (.slice none 0 0)).setCell ⟨g0, 1, none⟩ (.slice none 0 0)) ∧ DecR ((y1.setCell ⟨g0, 0, none⟩ (.slice none 0 0)).setCell ⟨g0, 1, none⟩ (.slice none 0 0)) l (.tuple #[.agg #[.slice none 0 0, .slice none 0 0], i64 2]) :=
    fun y1 F1 hno => ⟨(F1.set' (.inr zw)).set' (.inr zw), .inr ⟨hno, rfl⟩⟩
  have uniq : ∀ os', DecOk l os' → os' = os := fun os' D => (D.sc.uniq hsc).1
  rintro u x2 (⟨hne, rfl, E2⟩ | ⟨h0', hgood, hneed, ae, ce, rfl, hce, _, Re, E2⟩)
  · have B02 := (B0y.ext F ne0).ext E2 (by simp)
    have k2 := fun i => B02.cell (i := i)
    have f2 := fun i => B02.frozen (i := i)
    simp (disch := (first | omega | decide | (simp only [rsD] <;> omega) | fail)) only [↓rsC, rsK, rsL, ↓rsDec3_0, tick_eq, tickV_eq, ne_eq, Int.reduceAdd, Int.reduceSub, Int.reduceMul, Int.reduceEq, Int.reduceLT, Int.reduceLE, Int.reduceToNat, Nat.reduceMul, Nat.reduceAdd, Nat.reduceSub, ←decide_not, hc1, efr, k9, f9, k1, hne, k2, f2]
    refine fail2 x2 ((fresh F).trans E2) fun os' Q => hne ?_
    have := uniq os' Q
    subst this
    have hlen := enc_len Q.good
    rw [Q.enc, hgW] at hlen
    unfold encC
    rw [if_neg (by rw [chk_zero.2 (hGn.1 Q.good)]; simp), if_neg (by omega)]
  · have hel : (encW ns (decRs l os)).length ≤ 1000000 := by rw [enc_len hgood]; omega
    simp (disch := (first | omega | decide | (simp only [rsD] <;> omega) | fail)) only [↓rsC, rsK, rsL, ↓rsDec3_0, tick_eq, tickV_eq, ne_eq, Int.reduceAdd, Int.reduceSub, Int.reduceMul, Int.reduceEq, Int.reduceLT, Int.reduceLE, Int.reduceToNat, Nat.reduceMul, Nat.reduceAdd, Nat.reduceSub, ←decide_not, hc1, efr, k9, f9, k1]
    refine slices_Equal_uint64_uint64_call (Gives.to (EqualW_spec Re (h.ext0 ((fresh F).trans E2)) hel (by omega)) fun x3 E3 => ?_)
    have E23 := E2.trans E3
    have B03 := (B0y.ext F ne0).ext E23 (by simp)
    have k3 := fun i => B03.cell (i := i)
    have f3 := fun i => B03.frozen (i := i)
    by_cases heq : encW ns (decRs l os) = l
    case neg =>
      rw [decide_eq_false heq]
      simp (disch := (first | omega | decide | (simp only [rsD] <;> omega) | fail)) only [↓rsC, rsK, rsL, ↓rsDec3_0, tick_eq, tickV_eq, ne_eq, Int.reduceAdd, Int.reduceSub, Int.reduceMul, Int.reduceEq, Int.reduceLT, Int.reduceLE, Int.reduceToNat, Nat.reduceMul, Nat.reduceAdd, Nat.reduceSub, ←decide_not, hc1, efr, k9, f9, k1, k3, f3]
      refine fail2 x3 ((fresh F).trans E23) fun os' Q => heq ?_
      have := uniq os' Q
      subst this
      rw [hEn]
      exact Q.enc
    rw [decide_eq_true heq]
    have DO : DecOk l os := ⟨by omega, by omega, hsc, hGn.2 hgood, by rw [← hEn]; exact heq⟩
    have Ed := Ext.drew [] x3
    have B3 := (B.ext E23 (by simp)).ext Ed (by simp)
    have k3d := fun i => B3.cell (i := i)
    have E3d := E23.trans Ed
    simp (disch := (first | omega | decide | (simp only [rsD] <;> omega) | fail)) only [↓rsC, rsK, rsL, ↓rsDec3_0, tick_eq, tickV_eq, ne_eq, Int.reduceAdd, Int.reduceSub, Int.reduceMul, Int.reduceEq, Int.reduceLT, Int.reduceLE, Int.reduceToNat, Nat.reduceMul, Nat.reduceAdd, Nat.reduceSub, ←decide_not, hc1, efr, k9, f9, k1, k3d]
    refine slices_Clip_graph_Node_graph_Node_call (Gives.to (ClipGN_spec hnc) fun x4 E4 => ?_)
    have B4 := B3.ext E4 (by simp)
    have k4 := fun i => B4.cell (i := i)
    simp (disch := (first | omega | decide | (simp only [rsD] <;> omega) | fail)) only [↓rsC, rsK, rsL, ↓rsDec3_0, tick_eq, tickV_eq, ne_eq, Int.reduceAdd, Int.reduceSub, Int.reduceMul, Int.reduceEq, Int.reduceLT, Int.reduceLE, Int.reduceToNat, Nat.reduceMul, Nat.reduceAdd, Nat.reduceSub, ←decide_not, hc1, efr, k9, f9, k1, k3d, k4]
    refine slices_Clip_graph_Root_graph_Root_call (Gives.to (ClipGR_spec hrc) fun x5 E5 => ?_)
    have B5 := B4.ext E5 (by simp)
    have k5 := fun i => B5.cell (i := i)
    have f5 := fun i => B5.frozen (i := i)
    have E15 := E3d.trans (E4.trans E5)
    have B05 := (B0y.ext F ne0).ext E15 (by simp)
    have k05 := fun i => B05.cell (i := i)
    have f05 := fun i => B05.frozen (i := i)
    have ne0x : g0 ≠ hx := by omega
    simp (disch := (first | omega | decide | (simp only [rsD] <;> omega) | fail)) only [↓rsC, rsK, rsL, ↓rsDec3_0, tick_eq, tickV_eq, ne_eq, Int.reduceAdd, Int.reduceSub, Int.reduceMul, Int.reduceEq, Int.reduceLT, Int.reduceLE, Int.reduceToNat, Nat.reduceMul, Nat.reduceAdd, Nat.reduceSub, ←decide_not, hc1, efr, k9, f9, k1, k3d, k4, k5, f5, k05, f05, ne0x]
    have FE : Ext [g0, hx] x5 ((((x5.setCell ⟨hx, 0, none⟩ (.slice na ns.length ns.length)).setCell ⟨hx, 1, none⟩ (.slice ra (decRs l os).length (decRs l os).length)).setCell ⟨g0, 0, none⟩ (.slice na ns.length ns.length)).setCell ⟨g0, 1, none⟩ (.slice ra (decRs l os).length (decRs l os).length)) := ((((Ext.refl _ _).set' (.inl (by simp))).set' (.inl (by simp))).set' (.inl (by simp))).set' (.inl (by simp))
    have Fw := (fresh F).trans E15
    have zX : w.heap.size ≤ hx := by have := X10.size; omega
    refine ⟨(((Fw.set' (.inr zX)).set' (.inr zX)).set' (.inr zw)).set' (.inr zw), .inl ⟨os, na, ns.length, ra, (decRs l os).length, ns, DO, hns, rfl, ?_⟩⟩
    have nna : ∀ b o, na = some ⟨b, o, none⟩ → b ∉ [g0, hx] := fun b o hb hm => by
      have := U b (by rw [hb]; simp [blk, Value.ownBlock])
      simp only [List.mem_cons, List.not_mem_nil, or_false] at hm
      omega
    have nra : ∀ b o, ra = some ⟨b, o, none⟩ → b ∉ [g0, hx] := fun b o hb hm => by
      have := U2 b (by rw [hb]; simp [blk, Value.ownBlock])
      simp only [List.mem_cons, List.not_mem_nil, or_false] at hm
      omega
    refine ⟨(Rn.ext0 E15).ext FE nna, Nat.le_refl _, fun e => by have := hnn e; omega, (Rr.ext0 E15).ext FE nra, Nat.le_refl _, fun e => by have := hrn e; omega, fun q hq => ?_⟩
    have hA := A q hq
    have hk := hA.1.ext0 E15
    have hA2 := hA.2.cons hk B05 (by simp)
    exact hk.ext (FE.more (by simp)) hA2
end Go.Proofs.Ytdpmidgeipibbaa
end
section
set_option linter.unusedVariables false
set_option linter.unusedSimpArgs false
set_option maxHeartbeats 4000000
namespace Go.Proofs.Ytdpmidgeipibbaa
open Go.Sh Go.RowKit

abbrev ImgS (l : List (BitVec 64)) (os : List Nat) (bad : Option Nat) : Prop := sizeOk l → Sc (wat l) l.length (2 + 5 * nR l) os bad
theorem img_uniq {l : List (BitVec 64)} {os os' : List Nat} {bad bad' : Option Nat} (h : ImgS l os bad) (h' : ImgS l os' bad') : imgG l os bad = imgG l os' bad' := by
  unfold imgG
  by_cases hs : sizeOk l
  · obtain ⟨rfl, rfl⟩ := (h hs).uniq (h' hs)
    rfl
  · rw [if_neg hs, if_neg hs]
theorem img_len {l : List (BitVec 64)} {os : List Nat} {bad : Option Nat} (h : ImgS l os bad) (hl : l.length ≤ 8192) : (imgG l os bad).length ≤ 1000000 := by
  unfold imgG
  have h1 : (magF l).length ≤ 1 := by unfold magF; split <;> simp
  rw [List.length_append]
  by_cases hs : sizeOk l
  · rw [if_pos hs]
    have h3 := (h hs).fnd os os.length
    rw [List.take_length] at h3
    have h4 : (badF bad).length ≤ 1 := by cases bad <;> simp [badF]
    have h5 := rootsF_len l os (nR l)
    have := hs.2.2.2.1
    unfold allF
    rw [List.length_append, List.length_append]
    omega
  · rw [if_neg hs]
    simp; omega
abbrev rsChk13_0 := (And.intro @xu8_com (And.intro @xu8_eql (And.intro @xu8_gtr (And.intro @xu16_com (And.intro @xu16_eql (And.intro @xu16_gtr (And.intro @xu32_com (And.intro @xu32_eql (And.intro @xu32_gtr (And.intro @xu64_com (And.intro @xu64_eql (And.intro @xu64_gtr (And.intro @xi64_gtr (And.intro @xi64_eql (And.intro @al_25 (And.intro @st_25 
  (And.intro @eb_4 (And.intro @ln_28 @ln_37))))))))))))))))))
theorem CheckImages_spec (l : List (BitVec 64)) (a : Option Addr) (n c : Nat) (w : World) (ha : WordsArg w l a n c) : Gives Try.prog n_loamlaw26_CheckImages #[.slice a n c] w (.bool true) := by
  have hn := ha.len
  subst hn
  refine loamlaw26_CheckImages_of ?_
  unfold loamlaw26_CheckImages
  refine loamlaw26_known_call (Gives.to (known26_spec w) fun w1 F1 => ?_)
  simp (disch := (first | omega | decide | (simp only [rsD] <;> omega) | fail)) only [↓rsC, rsK, rsL, ↓rsChk13_0, tick_eq, tickV_eq, ne_eq, Int.reduceAdd, Int.reduceSub, Int.reduceMul, Int.reduceEq, Int.reduceLT, Int.reduceLE, Int.reduceToNat, Nat.reduceMul, Nat.reduceAdd, Nat.reduceSub, ←decide_not, eq_self]
  by_cases hl : 300 < l.length
  · simp (disch := (first | omega | decide | (simp only [rsD] <;> omega) | fail)) only [↓rsC, rsK, rsL, ↓rsChk13_0, tick_eq, tickV_eq, ne_eq, Int.reduceAdd, Int.reduceSub, Int.reduceMul, Int.reduceEq, Int.reduceLT, Int.reduceLE, Int.reduceToNat, Nat.reduceMul, Nat.reduceAdd, Nat.reduceSub, ←decide_not, eq_self]
    exact ⟨by trivial, F1⟩
  simp (disch := (first | omega | decide | (simp only [rsD] <;> omega) | fail)) only [↓rsC, rsK, rsL, ↓rsChk13_0, tick_eq, tickV_eq, ne_eq, Int.reduceAdd, Int.reduceSub, Int.reduceMul, Int.reduceEq, Int.reduceLT, Int.reduceLE, Int.reduceToNat, Nat.reduceMul, Nat.reduceAdd, Nat.reduceSub, ←decide_not, eq_self]
  refine check_Image_call (Yld.mono (Image_spec l a c w1 (ha.row.ext0 F1) ha.cap (by omega)) ?_)
  rintro u w2 ⟨os, bad, hS, F2, a2, c2, rfl, hc2, hn2, R2⟩
  have F12 := F1.trans F2
  simp (disch := (first | omega | decide | (simp only [rsD] <;> omega) | fail)) only [↓rsC, rsK, rsL, ↓rsChk13_0, tick_eq, tickV_eq, ne_eq, Int.reduceAdd, Int.reduceSub, Int.reduceMul, Int.reduceEq, Int.reduceLT, Int.reduceLE, Int.reduceToNat, Nat.reduceMul, Nat.reduceAdd, Nat.reduceSub, ←decide_not, eq_self]
  refine image_Decode_call (Yld.mono (iDecode_spec (ha.row.ext0 F12) ha.cap ha.nil (by omega)) ?_)
  rintro u w3 ⟨F3, D⟩
  have key : ∃ e : Int, ∃ na nc ra rc ns rs, u = .tuple #[gV na nc ra rc ns rs, i64 e] ∧ decide (e = 0) = decide ((imgG l os bad).length = 0) := by
    have hi := img_dec (by omega) hS
    rcases D with ⟨os', na, nc, ra, rc, ns, DO, _, rfl, _⟩ | ⟨hno, rfl⟩
    · refine ⟨0, na, nc, ra, rc, ns, _, rfl, ?_⟩
      rw [hi.2 ⟨os', DO⟩]
      rfl
    · refine ⟨2, none, 0, none, 0, [], [], rfl, ?_⟩
      have : ¬ (imgG l os bad).length = 0 := fun h => by
        obtain ⟨os', DO⟩ := hi.1 (List.eq_nil_of_length_eq_zero h)
        exact hno os' DO
      rw [decide_eq_false this]
      rfl
  obtain ⟨e, na, nc, ra, rc, ns, rs, rfl, he⟩ := key
  have hlen := img_len hS (by omega)
  simp (disch := (first | omega | decide | (simp only [rsD] <;> omega) | fail)) only [↓rsC, rsK, rsL, ↓rsChk13_0, tick_eq, tickV_eq, ne_eq, Int.reduceAdd, Int.reduceSub, Int.reduceMul, Int.reduceEq, Int.reduceLT, Int.reduceLE, Int.reduceToNat, Nat.reduceMul, Nat.reduceAdd, Nat.reduceSub, ←decide_not, eq_self]
  have X : Ext [] w3 (w3.alloc (.cells #[.slice na ns.length nc, .slice ra rs.length rc] 25)) := Ext.alloc _ _ _
  generalize w3.alloc (.cells #[.slice na ns.length nc, .slice ra rs.length rc] 25) = w4 at *
  have F14 := F12.trans (F3.trans X)
  refine loamref17_Image_call (Yld.mono (rImage_spec l a c w4 (ha.row.ext0 F14) ha.cap ha.nil (by omega)) ?_)
  rintro u w5 ⟨os5, bad5, hS5, F5, a5, c5, rfl, hc5, hn5, R5⟩
  rw [img_uniq hS5 hS] at R5 hc5 ⊢
  have R25 := ((R2.ext0 F3).ext0 X).ext0 F5
  refine loamlaw26_same_call (Gives.to (same26_spec R25 R5 hlen) fun w6 F6 => ?_)
  simp (disch := (first | omega | decide | (simp only [rsD] <;> omega) | fail)) only [↓rsC, rsK, rsL, ↓rsChk13_0, tick_eq, tickV_eq, ne_eq, Int.reduceAdd, Int.reduceSub, Int.reduceMul, Int.reduceEq, Int.reduceLT, Int.reduceLE, Int.reduceToNat, Nat.reduceMul, Nat.reduceAdd, Nat.reduceSub, ←decide_not, eq_self]
  refine check_Right_call (Yld.mono (ImRight_spec l a c w6 (ha.row.ext0 (F14.trans (F5.trans F6))) ha.cap (by omega)) ?_)
  rintro u w7 ⟨os7, bad7, hS7, rfl, F7⟩
  rw [img_uniq hS7 hS]
  have F17 := F14.trans (F5.trans (F6.trans F7))
  by_cases hz : (imgG l os bad).length = 0
  · rw [hz] at he ⊢
    have he0 : e = 0 := by simpa using he
    subst he0
    simp (disch := (first | omega | decide | (simp only [rsD] <;> omega) | fail)) only [↓rsC, rsK, rsL, ↓rsChk13_0, tick_eq, tickV_eq, ne_eq, Int.reduceAdd, Int.reduceSub, Int.reduceMul, Int.reduceEq, Int.reduceLT, Int.reduceLE, Int.reduceToNat, Nat.reduceMul, Nat.reduceAdd, Nat.reduceSub, ←decide_not, eq_self]
    exact ⟨by trivial, F17⟩
  · have hz' : ¬ (((imgG l os bad).length : Int) = 0) := by omega
    rw [decide_eq_false hz] at he ⊢
    have he0 : ¬ e = 0 := by simpa using he
    simp (disch := (first | omega | decide | (simp only [rsD] <;> omega) | fail)) only [↓rsC, rsK, rsL, ↓rsChk13_0, tick_eq, tickV_eq, ne_eq, Int.reduceAdd, Int.reduceSub, Int.reduceMul, Int.reduceEq, Int.reduceLT, Int.reduceLE, Int.reduceToNat, Nat.reduceMul, Nat.reduceAdd, Nat.reduceSub, ←decide_not, hz', he0]
    exact ⟨by trivial, F17⟩
end Go.Proofs.Ytdpmidgeipibbaa
end
