/- What the statements on canons begin with (sq). The nodes that come in an order are those that are reached; a graph trimmed is a graph picked. The document's Named and Walk (sq). The document's Pick: where nodes go (sq). A canon's canon; a canon is small. A way to renumber: each draws its place among those that are left. A document's graph as the program's (sq). The statement CanonTurned walked (sq). -/
import Derived.Test.YthhcmoknppljpaaDoorPk1
section
set_option linter.unusedVariables false
set_option linter.unusedSimpArgs false
set_option maxHeartbeats 4000000
namespace Go.Proofs.YthhcmoknppljpaaDoor
open Go.Sh Go.RowKit

def qN (a b : Nat) : List GN := [⟨[], none, 0, [120#8], some ⟨a, 0, none⟩, 1⟩, ⟨[1], some ⟨b, 0, none⟩, 1, [], none, 0⟩]
def qR : List GR := [⟨[114#8], 2⟩]
def zN (a b : Nat) : List GN := [⟨[3], some ⟨a, 0, none⟩, 1, [], none, 0⟩, ⟨[], none, 0, [], none, 0⟩, ⟨[], none, 0, [120#8], some ⟨b, 0, none⟩, 1⟩]
def zR : List GR := [⟨[114#8], 1⟩]
def cN : List GN := [⟨[2], none, 0, [], none, 0⟩, ⟨[], none, 0, [120#8], none, 0⟩]
def cR : List GR := [⟨[114#8], 1⟩]
theorem qN_len (a b : Nat) : (qN a b).length = 2 := rfl
theorem qR_len : qR.length = 1 := rfl
theorem zN_len (a b : Nat) : (zN a b).length = 3 := rfl
theorem zR_len : zR.length = 1 := rfl
theorem q_can (a b : Nat) : canNs (qN a b) qR = cN ∧ canRs (qN a b) qR = cR := ⟨rfl, rfl⟩
theorem z_can (a b : Nat) : canNs (zN a b) zR = cN ∧ canRs (zN a b) zR = cR := ⟨rfl, rfl⟩
theorem q_ord (a b : Nat) : ordV (qN a b) [2] = [2, 1] := rfl
theorem c_txt : strOf (txtB cN cR) = { data := #[114, 32, 45, 62, 32, 49, 10, 49, 58, 32, 50, 10, 50, 58, 32, 120, 55, 56, 10] } := by
  have d1 : dB 1 = [49#8] := dB_small (by decide)
  have d2 : dB 2 = [50#8] := dB_small (by decide)
  have e : txtB cN cR = [114#8, 32#8, 45#8, 62#8, 32#8, 49#8, 10#8, 49#8, 58#8, 32#8, 50#8, 10#8, 50#8, 58#8, 32#8, 120#8, 55#8, 56#8, 10#8] := by
    have h1 : rootsB cR = [114#8, 32#8, 45#8, 62#8, 32#8, 49#8, 10#8] := by simp [rootsB, cR, rootB, d1]
    have h2 : nodeB 0 ⟨[2], none, 0, [], none, 0⟩ = [49#8, 58#8, 32#8, 50#8, 10#8] := by simp [nodeB, ptrsB, ptrB, dataB, d1, d2]
    have h3 : nodeB 1 ⟨[], none, 0, [120#8], none, 0⟩ = [50#8, 58#8, 32#8, 120#8, 55#8, 56#8, 10#8] := by
      simp [nodeB, ptrsB, dataB, d2, hexB, hex2]
      decide
    have h4 : nodesB cN 2 = [49#8, 58#8, 32#8, 50#8, 10#8] ++ [50#8, 58#8, 32#8, 120#8, 55#8, 56#8, 10#8] := by
      rw [← h2, ← h3, nodesB_succ (by decide), nodesB_succ (by decide)]
      simp [nodesB, cN]
    unfold txtB
    rw [h1, show cN.length = 2 from rfl, h4]
    rfl
  rw [e]
  decide +kernel
abbrev rsKn18_0 := (And.intro @xu8_com (And.intro @xu8_eql (And.intro @xu16_com (And.intro @xu16_eql (And.intro @xu32_com (And.intro @xu32_eql (And.intro @xu64_com (And.intro @xu64_eql (And.intro @xi64_eql (And.intro @ld_3 (And.intro @ld_25 (And.intro @al_25 (And.intro @st_25 (And.intro @bd_25_0_1 (And.intro @bd_25 (And.intro @bd_52_0 (And.intro @bd_52_0_1 
  (And.intro @bd_52_1 (And.intro @bd_52 (And.intro @bd_55_0_1 (And.intro @fd_25_0 (And.intro @ia_40 (And.intro @ln_22 (And.intro @ln_40 (And.intro @bs_22_1 (And.intro @bs_22_2 (And.intro @bs_22_3 (And.intro @bs_23_0 (And.intro @bs_23_1 (And.intro @bs_40_0 (And.intro @bs_40_1 (And.intro @bs_45_0 (And.intro @bs_45_1 @bs_45_2)))))))))))))))))))))))))))))))))
theorem known18_spec (w : World) : Gives Tryd.prog n_loamlaw18_known #[] w (.bool true) := by
  refine loamlaw18_known_of ?_
  unfold loamlaw18_known
  simp (disch := (first | omega | decide | (simp only [rsD] <;> omega) | fail)) only [↓rsC, rsK, rsL, ↓rsKn18_0, tick_eq, tickV_eq, ne_eq, Int.reduceAdd, Int.reduceSub, Int.reduceMul, Int.reduceEq, Int.reduceLT, Int.reduceLE, Int.reduceToNat, Nat.reduceMul, Nat.reduceAdd, Nat.reduceSub, ←decide_not, eq_self]
  refine xConv_bytes (cs := bys [120#8]) (by kernel_rfl) (by kernel_rfl) fun y2 X2 R2 z2 => ?_
  generalize w.heap.size = g2 at *
  simp (disch := (first | omega | decide | (simp only [rsD] <;> omega) | fail)) only [↓rsC, rsK, rsL, ↓rsKn18_0, tick_eq, tickV_eq, ne_eq, Int.reduceAdd, Int.reduceSub, Int.reduceMul, Int.reduceEq, Int.reduceLT, Int.reduceLE, Int.reduceToNat, Nat.reduceMul, Nat.reduceAdd, Nat.reduceSub, ←decide_not, eq_self]
  have B3 : Blk (y2.alloc (.cells #[i64 1] 3)) y2.heap.size 3 [i64 1] := Blk.at rfl
  have X3 : Ext [] y2 (y2.alloc (.cells #[i64 1] 3)) := Ext.alloc _ _ _
  have zs3 : (y2.alloc (.cells #[i64 1] 3)).heap.size = y2.heap.size + 1 := World.size_alloc _ _
  generalize y2.alloc (.cells #[i64 1] 3) = y3 at *
  rw [← zs3]
  have B4 : Blk (y3.alloc (.cells #[.slice none 0 0, .slice (some ⟨g2, 0, none⟩) 1 1, .slice (some ⟨y2.heap.size, 0, none⟩) 1 1, .slice none 0 0] 52)) y3.heap.size 52 [.slice none 0 0, .slice (some ⟨g2, 0, none⟩) 1 1, .slice (some ⟨y2.heap.size, 0, none⟩) 1 1, .slice none 0 0] := Blk.at rfl
  have X4 : Ext [] y3 (y3.alloc (.cells #[.slice none 0 0, .slice (some ⟨g2, 0, none⟩) 1 1, .slice (some ⟨y2.heap.size, 0, none⟩) 1 1, .slice none 0 0] 52)) := Ext.alloc _ _ _
  have zs4 : (y3.alloc (.cells #[.slice none 0 0, .slice (some ⟨g2, 0, none⟩) 1 1, .slice (some ⟨y2.heap.size, 0, none⟩) 1 1, .slice none 0 0] 52)).heap.size = y3.heap.size + 1 := World.size_alloc _ _
  generalize y3.alloc (.cells #[.slice none 0 0, .slice (some ⟨g2, 0, none⟩) 1 1, .slice (some ⟨y2.heap.size, 0, none⟩) 1 1, .slice none 0 0] 52) = y4 at *
  rw [← zs4]
  have B5 : Blk (y4.alloc (.cells #[.string ⟨#[114]⟩, i64 2] 55)) y4.heap.size 55 [.string ⟨#[114]⟩, i64 2] := Blk.at rfl
  have X5 : Ext [] y4 (y4.alloc (.cells #[.string ⟨#[114]⟩, i64 2] 55)) := Ext.alloc _ _ _
  have zs5 : (y4.alloc (.cells #[.string ⟨#[114]⟩, i64 2] 55)).heap.size = y4.heap.size + 1 := World.size_alloc _ _
  generalize y4.alloc (.cells #[.string ⟨#[114]⟩, i64 2] 55) = y5 at *
  rw [← zs5]
  have B6 : Blk (y5.alloc (.cells #[.slice (some ⟨y3.heap.size, 0, none⟩) 2 2, .slice (some ⟨y4.heap.size, 0, none⟩) 1 1] 25)) y5.heap.size 25 [.slice (some ⟨y3.heap.size, 0, none⟩) 2 2, .slice (some ⟨y4.heap.size, 0, none⟩) 1 1] := Blk.at rfl
  have X6 : Ext [] y5 (y5.alloc (.cells #[.slice (some ⟨y3.heap.size, 0, none⟩) 2 2, .slice (some ⟨y4.heap.size, 0, none⟩) 1 1] 25)) := Ext.alloc _ _ _
  have zs6 : (y5.alloc (.cells #[.slice (some ⟨y3.heap.size, 0, none⟩) 2 2, .slice (some ⟨y4.heap.size, 0, none⟩) 1 1] 25)).heap.size = y5.heap.size + 1 := World.size_alloc _ _
  generalize y5.alloc (.cells #[.slice (some ⟨y3.heap.size, 0, none⟩) 2 2, .slice (some ⟨y4.heap.size, 0, none⟩) 1 1] 25) = y6 at *
  rw [← zs6]
  have B7 : Blk (y6.alloc (.cells #[i64 3] 3)) y6.heap.size 3 [i64 3] := Blk.at rfl
  have X7 : Ext [] y6 (y6.alloc (.cells #[i64 3] 3)) := Ext.alloc _ _ _
  have zs7 : (y6.alloc (.cells #[i64 3] 3)).heap.size = y6.heap.size + 1 := World.size_alloc _ _
  generalize y6.alloc (.cells #[i64 3] 3) = y7 at *
  rw [← zs7]
  refine xConv_bytes (cs := bys [120#8]) (by kernel_rfl) (by kernel_rfl) fun y8 X8 R8 z8 => ?_
  simp (disch := (first | omega | decide | (simp only [rsD] <;> omega) | fail)) only [↓rsC, rsK, rsL, ↓rsKn18_0, tick_eq, tickV_eq, ne_eq, Int.reduceAdd, Int.reduceSub, Int.reduceMul, Int.reduceEq, Int.reduceLT, Int.reduceLE, Int.reduceToNat, Nat.reduceMul, Nat.reduceAdd, Nat.reduceSub, ←decide_not, eq_self]
  simp only [World.size_alloc, size_sets]
  rw [← zs6]
  have B9 : Blk (y8.alloc (.cells #[.slice (some ⟨y6.heap.size, 0, none⟩) 1 1, .slice none 0 0, .slice none 0 0, .slice none 0 0, .slice none 0 0, .slice (some ⟨y7.heap.size, 0, none⟩) 1 1] 52)) y8.heap.size 52 [.slice (some ⟨y6.heap.size, 0, none⟩) 1 1, .slice none 0 0, .slice none 0 0, .slice none 0 0, .slice none 0 0, .slice (some ⟨y7.heap.size, 0, none⟩) 1 1] := Blk.at rfl
  have X9 : Ext [] y8 (y8.alloc (.cells #[.slice (some ⟨y6.heap.size, 0, none⟩) 1 1, .slice none 0 0, .slice none 0 0, .slice none 0 0, .slice none 0 0, .slice (some ⟨y7.heap.size, 0, none⟩) 1 1] 52)) := Ext.alloc _ _ _
  have zs9 : (y8.alloc (.cells #[.slice (some ⟨y6.heap.size, 0, none⟩) 1 1, .slice none 0 0, .slice none 0 0, .slice none 0 0, .slice none 0 0, .slice (some ⟨y7.heap.size, 0, none⟩) 1 1] 52)).heap.size = y8.heap.size + 1 := World.size_alloc _ _
  generalize y8.alloc (.cells #[.slice (some ⟨y6.heap.size, 0, none⟩) 1 1, .slice none 0 0, .slice none 0 0, .slice none 0 0, .slice none 0 0, .slice (some ⟨y7.heap.size, 0, none⟩) 1 1] 52) = y9 at *
  rw [← zs9]
  have B10 : Blk (y9.alloc (.cells #[.string ⟨#[114]⟩, i64 1] 55)) y9.heap.size 55 [.string ⟨#[114]⟩, i64 1] := Blk.at rfl
  have X10 : Ext [] y9 (y9.alloc (.cells #[.string ⟨#[114]⟩, i64 1] 55)) := Ext.alloc _ _ _
  have zs10 : (y9.alloc (.cells #[.string ⟨#[114]⟩, i64 1] 55)).heap.size = y9.heap.size + 1 := World.size_alloc _ _
  generalize y9.alloc (.cells #[.string ⟨#[114]⟩, i64 1] 55) = y10 at *
  rw [← zs10]
  have B11 : Blk (y10.alloc (.cells #[.slice (some ⟨y8.heap.size, 0, none⟩) 3 3, .slice (some ⟨y9.heap.size, 0, none⟩) 1 1] 25)) y10.heap.size 25 [.slice (some ⟨y8.heap.size, 0, none⟩) 3 3, .slice (some ⟨y9.heap.size, 0, none⟩) 1 1] := Blk.at rfl
  have X11 : Ext [] y10 (y10.alloc (.cells #[.slice (some ⟨y8.heap.size, 0, none⟩) 3 3, .slice (some ⟨y9.heap.size, 0, none⟩) 1 1] 25)) := Ext.alloc _ _ _
  have zs11 : (y10.alloc (.cells #[.slice (some ⟨y8.heap.size, 0, none⟩) 3 3, .slice (some ⟨y9.heap.size, 0, none⟩) 1 1] 25)).heap.size = y10.heap.size + 1 := World.size_alloc _ _
  generalize y10.alloc (.cells #[.slice (some ⟨y8.heap.size, 0, none⟩) 3 3, .slice (some ⟨y9.heap.size, 0, none⟩) 1 1] 25) = y11 at *
  have cA : ({ data := #[114] } : ByteArray) = strOf [114#8] := by decide +kernel
  rw [cA] at B5 B10
  obtain ⟨gi, hgi⟩ : ∃ g, g = y2.heap.size := ⟨_, rfl⟩
  obtain ⟨gn, hgn⟩ : ∃ g, g = y3.heap.size := ⟨_, rfl⟩
  obtain ⟨gr, hgr⟩ : ∃ g, g = y4.heap.size := ⟨_, rfl⟩
  obtain ⟨ga, hga⟩ : ∃ g, g = y5.heap.size := ⟨_, rfl⟩
  obtain ⟨gj, hgj⟩ : ∃ g, g = y6.heap.size := ⟨_, rfl⟩
  obtain ⟨gk, hgk⟩ : ∃ g, g = y7.heap.size := ⟨_, rfl⟩
  obtain ⟨gm, hgm⟩ : ∃ g, g = y8.heap.size := ⟨_, rfl⟩
  obtain ⟨gs, hgs⟩ : ∃ g, g = y9.heap.size := ⟨_, rfl⟩
  obtain ⟨gb, hgb⟩ : ∃ g, g = y10.heap.size := ⟨_, rfl⟩
  rw [← hgi] at B3 B4
  rw [← hgn] at B4 B6
  rw [← hgr] at B5 B6
  rw [← hga] at B6 ⊢
  rw [← hgj] at B7 B9
  rw [← hgk] at R8 B9
  rw [← hgm] at B9 B11
  rw [← hgs] at B10 B11
  rw [← hgb] at B11 ⊢
  have X911 := X9.trans (X10.trans X11)
  have X811 := X911
  have X711 := X8.trans X811
  have X611 := X7.trans X711
  have X511 := X6.trans X611
  have X411 := X5.trans X511
  have X311 := X4.trans X411
  have X211 := X3.trans X311
  have Xw := X2.trans X211
  have GA : GIs y11 (some ⟨gn, 0, none⟩) 2 (some ⟨gr, 0, none⟩) 1 (qN g2 gi) qR := by
    refine ⟨(B4.ext X411 (by simp)).row, Nat.le_refl _, fun e => (by cases e), (B5.ext X511 (by simp)).row, Nat.le_refl _, fun e => (by cases e), fun x hx => ?_⟩
    simp only [qN, List.mem_cons, List.not_mem_nil, or_false] at hx
    rcases hx with rfl | rfl
    · exact ⟨.nil, Nat.le_refl _, fun _ => rfl, R2.ext0 X211, Nat.le_refl _, fun e => (by cases e)⟩
    · exact ⟨(B3.ext X311 (by simp)).row, Nat.le_refl _, fun e => (by cases e), .nil, Nat.le_refl _, fun _ => rfl⟩
  have GB : GIs y11 (some ⟨gm, 0, none⟩) 3 (some ⟨gs, 0, none⟩) 1 (zN gj gk) zR := by
    refine ⟨(B9.ext (X10.trans X11) (by simp)).row, Nat.le_refl _, fun e => (by cases e), (B10.ext X11 (by simp)).row, Nat.le_refl _, fun e => (by cases e), fun x hx => ?_⟩
    simp only [zN, List.mem_cons, List.not_mem_nil, or_false] at hx
    rcases hx with rfl | rfl | rfl
    · exact ⟨(B7.ext X711 (by simp)).row, Nat.le_refl _, fun e => (by cases e), .nil, Nat.le_refl _, fun _ => rfl⟩
    · exact ⟨.nil, Nat.le_refl _, fun _ => rfl, .nil, Nat.le_refl _, fun _ => rfl⟩
    · exact ⟨.nil, Nat.le_refl _, fun _ => rfl, R8.ext0 X811, Nat.le_refl _, fun e => (by cases e)⟩
  have hfa : FewH (qN g2 gi) qR := ⟨by simp [qN], by simp [qR], fun x hx => by
    simp only [qN, List.mem_cons, List.not_mem_nil, or_false] at hx
    rcases hx with rfl | rfl <;> simp⟩
  have hfb : FewH (zN gj gk) zR := ⟨by simp [zN], by simp [zR], fun x hx => by
    simp only [zN, List.mem_cons, List.not_mem_nil, or_false] at hx
    rcases hx with rfl | rfl | rfl <;> simp⟩
  have B6' := B6.ext X611 (by simp)
  have k8a := fun i => (B6.ext (X7.trans X8) (by simp)).cell (i := i)
  have k11a := fun i => B6'.cell (i := i)
  have k11b := fun i => B11.cell (i := i)
  clear X2 X3 X4 X5 X6 X7 X8 X9 X10 X11 B3 B4 B5 B7 B9 B10 R2 R8 X911 X811 X711 X611 X511 X411 X311 X211
  simp (disch := (first | omega | decide | (simp only [rsD] <;> omega) | fail)) only [↓rsC, rsK, rsL, ↓rsKn18_0, tick_eq, tickV_eq, ne_eq, Int.reduceAdd, Int.reduceSub, Int.reduceMul, Int.reduceEq, Int.reduceLT, Int.reduceLE, Int.reduceToNat, Nat.reduceMul, Nat.reduceAdd, Nat.reduceSub, ←decide_not, k11a, k11b, k8a]
  have hS := CSame_spec GA GB hfa hfb
  simp only [gV, qN_len, qR_len, zN_len, zR_len] at hS
  refine canon_Same_call (Yld.mono hS ?_)
  rintro u y12 hu
  obtain ⟨rfl, F12⟩ := boolTrue hu ⟨(q_can _ _).1.trans (z_can _ _).1.symm, (q_can _ _).2.trans (z_can _ _).2.symm⟩
  have k12a := fun i => (B6'.ext F12 (by simp)).cell (i := i)
  have k12b := fun i => (B11.ext F12 (by simp)).cell (i := i)
  simp (disch := (first | omega | decide | (simp only [rsD] <;> omega) | fail)) only [↓rsC, rsK, rsL, ↓rsKn18_0, tick_eq, tickV_eq, ne_eq, Int.reduceAdd, Int.reduceSub, Int.reduceMul, Int.reduceEq, Int.reduceLT, Int.reduceLE, Int.reduceToNat, Nat.reduceMul, Nat.reduceAdd, Nat.reduceSub, ←decide_not, k11a, k11b, k8a, k12a, k12b]
  have hE := GEqual_spec (GA.ext0 F12) (GB.ext0 F12) hfa hfb
  simp only [gV, qN_len, qR_len, zN_len, zR_len] at hE
  refine graph_Equal_call (Yld.mono hE ?_)
  rintro u y13 hu
  obtain ⟨rfl, F13⟩ := boolFalse hu (fun h => by
    have h2 := congrArg List.length h.1
    rw [List.length_map, List.length_map] at h2
    cases h2)
  have F113 := F12.trans F13
  have k13a := fun i => (B6'.ext F113 (by simp)).cell (i := i)
  simp (disch := (first | omega | decide | (simp only [rsD] <;> omega) | fail)) only [↓rsC, rsK, rsL, ↓rsKn18_0, tick_eq, tickV_eq, ne_eq, Int.reduceAdd, Int.reduceSub, Int.reduceMul, Int.reduceEq, Int.reduceLT, Int.reduceLE, Int.reduceToNat, Nat.reduceMul, Nat.reduceAdd, Nat.reduceSub, ←decide_not, k11a, k11b, k8a, k12a, k12b, k13a]
  have hts : TxS (canNs (qN g2 gi) qR) (canRs (qN g2 gi) qR) := by
    rw [(q_can _ _).1, (q_can _ _).2]
    refine ⟨by decide, by decide, fun r hr => ?_, fun x hx => ?_⟩
    · simp only [cR, List.mem_cons, List.not_mem_nil, or_false] at hr
      subst hr
      decide
    · simp only [cN, List.mem_cons, List.not_mem_nil, or_false] at hx
      rcases hx with rfl | rfl <;> simp
  have hT := CText_spec (GA.ext0 F113) hfa hts
  simp only [gV, qN_len, qR_len, zN_len, zR_len] at hT
  refine canon_Text_call (Yld.mono hT ?_)
  rintro u y14 ⟨rfl, F14⟩
  rw [(q_can _ _).1, (q_can _ _).2, c_txt]
  have F114 := F113.trans F14
  have k14b := fun i => (B11.ext F114 (by simp)).cell (i := i)
  simp (disch := (first | omega | decide | (simp only [rsD] <;> omega) | fail)) only [↓rsC, rsK, rsL, ↓rsKn18_0, tick_eq, tickV_eq, ne_eq, Int.reduceAdd, Int.reduceSub, Int.reduceMul, Int.reduceEq, Int.reduceLT, Int.reduceLE, Int.reduceToNat, Nat.reduceMul, Nat.reduceAdd, Nat.reduceSub, ←decide_not, k11a, k11b, k8a, k12a, k12b, k13a, k14b]
  have hC := Canon_spec (GB.ext0 F114) hfb
  simp only [gV, qN_len, qR_len, zN_len, zR_len] at hC
  refine canon_Canon_call (Yld.mono hC ?_)
  rintro u y15 ⟨F15, na', nc', ra', rc', ns', hns, rfl, _⟩
  have hl : ns'.length = 2 := by
    have := congrArg List.length hns
    rw [List.length_map, (z_can _ _).1] at this
    exact this
  have F115 := F114.trans F15
  have k15a := fun i => (B6'.ext F115 (by simp)).cell (i := i)
  simp (disch := (first | omega | decide | (simp only [rsD] <;> omega) | fail)) only [↓rsC, rsK, rsL, ↓rsKn18_0, tick_eq, tickV_eq, ne_eq, Int.reduceAdd, Int.reduceSub, Int.reduceMul, Int.reduceEq, Int.reduceLT, Int.reduceLE, Int.reduceToNat, Nat.reduceMul, Nat.reduceAdd, Nat.reduceSub, ←decide_not, k11a, k11b, k8a, k12a, k12b, k13a, k14b, k15a, hl]
  have hO1 := Order_spec (GA.ext0 F115) hfa
  simp only [gV, qN_len, qR_len, zN_len, zR_len] at hO1
  refine canon_Order_call (Yld.mono hO1 ?_)
  rintro u y16 ⟨F16, a16, rfl, _⟩
  have F116 := F115.trans F16
  have k16a := fun i => (B6'.ext F116 (by simp)).cell (i := i)
  have ho : ordV (qN g2 gi) (tosL qR) = [2, 1] := q_ord _ _
  have ho2 : ([2, 1] : List Int).length = 2 := rfl
  rw [ho]
  simp (disch := (first | omega | decide | (simp only [rsD] <;> omega) | fail)) only [↓rsC, rsK, rsL, ↓rsKn18_0, tick_eq, tickV_eq, ne_eq, Int.reduceAdd, Int.reduceSub, Int.reduceMul, Int.reduceEq, Int.reduceLT, Int.reduceLE, Int.reduceToNat, Nat.reduceMul, Nat.reduceAdd, Nat.reduceSub, ←decide_not, k11a, k11b, k8a, k12a, k12b, k13a, k14b, k15a, hl, k16a, ho2]
  have hO2 := Order_spec (GA.ext0 F116) hfa
  simp only [gV, qN_len, qR_len, zN_len, zR_len] at hO2
  refine canon_Order_call (Yld.mono hO2 ?_)
  rintro u y17 ⟨F17, a17, rfl, R17, _⟩
  rw [ho] at R17 ⊢
  obtain ⟨b17, o17, rfl, _, c17⟩ := its_at R17 (k := 0) (by decide)
  have F117 := F116.trans F17
  have c17' : y17.cell? ⟨b17, o17, none⟩ = some (i64 2) := c17
  simp (disch := (first | omega | decide | (simp only [rsD] <;> omega) | fail)) only [↓rsC, rsK, rsL, ↓rsKn18_0, tick_eq, tickV_eq, ne_eq, Int.reduceAdd, Int.reduceSub, Int.reduceMul, Int.reduceEq, Int.reduceLT, Int.reduceLE, Int.reduceToNat, Nat.reduceMul, Nat.reduceAdd, Nat.reduceSub, ←decide_not, k11a, k11b, k8a, k12a, k12b, k13a, k14b, k15a, hl, k16a, ho2, c17']
  exact ⟨trivial, Xw.trans F117⟩
end Go.Proofs.YthhcmoknppljpaaDoor
end
section
set_option linter.unusedVariables false
set_option linter.unusedSimpArgs false
set_option maxHeartbeats 4000000
namespace Go.Proofs.YthhcmoknppljpaaDoor
open Go.Sh Go.RowKit

/-! picked in their own order -/
end Go.Proofs.YthhcmoknppljpaaDoor
end
section
set_option linter.unusedVariables false
set_option linter.unusedSimpArgs false
set_option maxHeartbeats 4000000
namespace Go.Proofs.YthhcmoknppljpaaDoor
open Go.Sh Go.RowKit

def seenB (n : Nat) (out : List Int) : List Value := (List.range (n + 1)).map fun (i : Nat) => .bool (decide ((i : Int) ∈ out))
structure WkS (n : Nat) (y w : World) (gs : Nat) (v : Value) (out : List Int) : Prop where
  F : Ext [gs] y w
  O : OwnIt w v out
  U : ∀ z ∈ blk v, y.heap.size ≤ z
  B : Blk w gs 4 (seenB n out)
theorem WkS.ext0 {n : Nat} {y w w' : World} {gs : Nat} {v : Value} {out : List Int} (S : WkS n y w gs v out) (hx : Ext [] w w') : WkS n y w' gs v out := ⟨S.F.trans (hx.more (by simp)), S.O.ext0 hx, S.U, S.B.ext hx (by simp)⟩
end Go.Proofs.YthhcmoknppljpaaDoor
end
section
set_option linter.unusedVariables false
set_option linter.unusedSimpArgs false
set_option maxHeartbeats 4000000
namespace Go.Proofs.YthhcmoknppljpaaDoor
open Go.Sh Go.RowKit

def toK (n : Nat) (ord : List Int) : List Int := (List.range n).map fun (i : Nat) => noV ord ((i : Int) + 1)
theorem toK_nil (n : Nat) : its (toK n []) = List.replicate n (i64 0) := by
  refine List.ext_getElem (by simp [toK]) fun i h1 h2 => ?_
  simp [toK, noV]
theorem noV_snoc {o : List Int} {q p : Int} (hq : q ∉ o) : noV (o ++ [q]) p = if p = q then (o.length : Int) + 1 else noV o p := by
  unfold noV
  by_cases e : p = q
  · subst e
    rw [if_pos rfl, if_pos (by simp), List.idxOf_append, if_neg hq]
    simp
  · rw [if_neg e]
    by_cases h : p ∈ o
    · rw [if_pos h, if_pos (by simp [h]), List.idxOf_append, if_pos h]
    · rw [if_neg h, if_neg (by simp [h, e])]
theorem toK_set {n : Nat} {o : List Int} {q : Int} (h : okNo n q) (hq : q ∉ o) : (its (toK n o)).set (q - 1).toNat (i64 ((o.length : Int) + 1)) = its (toK n (o ++ [q])) := by
  unfold okNo at h
  refine List.ext_getElem (by simp [toK]) fun i h1 h2 => ?_
  rw [List.getElem_set]
  simp only [toK, List.getElem_map, List.getElem_range]
  rw [noV_snoc hq]
  split
  · rename_i e
    rw [if_pos (by omega)]
  · rename_i e
    rw [if_neg (by omega)]
theorem toK_get {n : Nat} {o : List Int} {p : Int} (h : okNo n p) : (its (toK n o))[(p - 1).toNat]? = some (i64 (noV o p)) := by
  unfold okNo at h
  simp only [toK, List.getElem?_map]
  rw [List.getElem?_range (by omega)]
  simp only [Option.map_some]
  rw [show (((p - 1).toNat : Nat) : Int) + 1 = p by omega]
def PickR (w : World) (ns : List GN) (rs : List GR) (ord : List Int) (u : Value) (w' : World) : Prop := Ext [] w w' ∧ ∃ na' nc' ra' rc' ns' v, ns'.map bare = ord.map (canN ns ord) ∧ u = .tuple #[gV na' nc' ra' rc' ns' (rs.map fun r => ⟨r.s, noV ord r.to⟩), v] ∧ GIs w' na' nc' ra' rc' ns' (rs.map fun r => ⟨r.s, noV ord r.to⟩) ∧ (∀ z, na' = some z → w.heap.size ≤ z.block) ∧ (∀ z, ra' = some z → w.heap.size ≤ z.block) ∧ ∃ gt, w.heap.size ≤ gt ∧ v = .slice (some ⟨gt, 0, none⟩) ns.length ns.length ∧ RowAt w' (some ⟨gt, 0, none⟩) (its (toK ns.length ord)) ∧ OwnN w' (.slice na' ns'.length nc') ns' ∧ (∀ x ∈ ns', Apt (blk (.slice na' ns'.length nc')) x) ∧ ∀ z, ra' = some z → z.block ∉ blk (.slice na' ns'.length nc')
abbrev rsPck1_0 := (And.intro @xu8_add (And.intro @xu8_sub (And.intro @xu8_neq (And.intro @xu8_lss (And.intro @xu16_add (And.intro @xu16_sub (And.intro @xu16_neq (And.intro @xu16_lss (And.intro @xu32_add (And.intro @xu32_sub (And.intro @xu32_neq (And.intro @xu32_lss (And.intro @xu64_add (And.intro @xu64_sub (And.intro @xu64_neq (And.intro @xu64_lss 
  (And.intro @xi64_lss (And.intro @xi64_neq (And.intro @xi64_neg (And.intro @ld_3 (And.intro @ld_9 (And.intro @ld_29 (And.intro @ld_30 (And.intro @ld_32 (And.intro @ld_40 (And.intro @ld_45 (And.intro @ld_49 (And.intro @ld_56 (And.intro @lr_32 (And.intro @fa_32_0 (And.intro @fa_32_1 (And.intro @fa_49_0 (And.intro @fa_49_1 (And.intro @fa_56_0 (And.intro @fa_56_1 (And.intro @al_32 
  (And.intro @al_49 (And.intro @al_56 (And.intro @st_3 (And.intro @st_29 (And.intro @st_30 (And.intro @st_32 (And.intro @st_40 (And.intro @st_49 (And.intro @st_56 (And.intro @bd_32 (And.intro @bd_49_0 (And.intro @bd_49_0_1 (And.intro @bd_49_1 (And.intro @bd_56_0_1 (And.intro @ia_29 (And.intro @ia_30 (And.intro @ia_40 (And.intro @ln_29 (And.intro @ln_30 (And.intro @ln_40 
  (And.intro @bs_29_1 (And.intro @bs_30_1 (And.intro @bs_40_0 (And.intro @bs_40_1 (And.intro @bs_45_0 (And.intro @bs_45_1 (And.intro @bs_45_2 @mk_40)))))))))))))))))))))))))))))))))))))))))))))))))))))))))))))))
theorem RPick_spec {w : World} {na ra : Option Addr} {nc rc : Nat} {ns : List GN} {rs : List GR} (h : GIs w na nc ra rc ns rs) (hf : FewH ns rs) (hg : ∀ x ∈ ns, ∀ p ∈ x.p, 0 ≤ p ∧ p ≤ ns.length) (hgr : ∀ r ∈ rs, 0 ≤ r.to ∧ r.to ≤ ns.length) {ord : List Int} {a : Option Addr} {c : Nat} (ho : OutOk ns.length ord) (hr : RowAt w a (its ord)) :
    Yld Tryd.prog n_loamref17_Pick #[gV na nc ra rc ns rs, .slice a ord.length c] w (PickR w ns rs ord) := by
  have hfn := hf.n
  have hfr := hf.r
  have hol := ho.len
  refine loamref17_Pick_of ?_
  unfold loamref17_Pick
  have gbox : ∀ (y : World) (K : K1), xBox Tryd.prog 32 (gV na nc ra rc ns rs) y K = K (ptr y.heap.size) (y.alloc (.cells #[.slice na ns.length nc, .slice ra rs.length rc] 32)) := fun y K => xBox_r
  have al : ∀ (y : World) (K : K1), xAlloc Tryd.prog 32 y K = K (ptr y.heap.size) (y.alloc (.cells #[.slice none 0 0, .slice none 0 0] 32)) := fun y K => xAlloc_r (by kernel_rfl)
  rw [gbox, al]
  have B1 : Blk (w.alloc (.cells #[.slice na ns.length nc, .slice ra rs.length rc] 32)) w.heap.size 32 [.slice na ns.length nc, .slice ra rs.length rc] := Blk.at rfl
  have X1 : Ext [] w (w.alloc (.cells #[.slice na ns.length nc, .slice ra rs.length rc] 32)) := Ext.alloc _ _ _
  generalize w.alloc (.cells #[.slice na ns.length nc, .slice ra rs.length rc] 32) = y1 at *
  obtain ⟨g1, hg1⟩ : ∃ g, g = w.heap.size := ⟨_, rfl⟩
  rw [← hg1] at B1 ⊢
  have g1lt := B1.lt
  have zw1 := X1.size
  have B40 : Blk (y1.alloc (.cells #[.slice none 0 0, .slice none 0 0] 32)) y1.heap.size 32 [.slice none 0 0, .slice none 0 0] := Blk.at rfl
  have X2 : Ext [] y1 (y1.alloc (.cells #[.slice none 0 0, .slice none 0 0] 32)) := Ext.alloc _ _ _
  have B12 := B1.ext X2 (by simp)
  generalize y1.alloc (.cells #[.slice none 0 0, .slice none 0 0] 32) = y2 at *
  obtain ⟨g4, hg4⟩ : ∃ g, g = y1.heap.size := ⟨_, rfl⟩
  rw [← hg4] at B40 ⊢
  have g4lt := B40.lt
  have zw2 := X2.size
  have k1 := fun i => B12.cell (i := i)
  simp (disch := (first | omega | decide | (simp only [rsD] <;> omega) | fail)) only [↓rsC, rsK, rsL, ↓rsPck1_0, tick_eq, tickV_eq, ne_eq, Int.reduceAdd, Int.reduceSub, Int.reduceMul, Int.reduceEq, Int.reduceLT, Int.reduceLE, Int.reduceToNat, Nat.reduceMul, Nat.reduceAdd, Nat.reduceSub, ←decide_not, k1]
  have en : ((ns.length : Int)).toNat = ns.length := by omega
  try rw [en]
  have Bt0 : Blk (y2.alloc (.cells (List.replicate ns.length (i64 0)).toArray 3)) y2.heap.size 3 (its (toK ns.length [])) := by rw [toK_nil]; exact Blk.at rfl
  have X3 : Ext [] y2 (y2.alloc (.cells (List.replicate ns.length (i64 0)).toArray 3)) := Ext.alloc _ _ _
  have B13 := B12.ext X3 (by simp)
  have B43 := B40.ext X3 (by simp)
  generalize y2.alloc (.cells (List.replicate ns.length (i64 0)).toArray 3) = y3 at *
  obtain ⟨gt, hgt⟩ : ∃ g, g = y2.heap.size := ⟨_, rfl⟩
  rw [← hgt] at Bt0 ⊢
  have gtlt := Bt0.lt
  have X03 := X1.trans (X2.trans X3)
  have fresh : ∀ {w' : World}, Ext [gt] y3 w' → Ext [] w w' := fun F => X03.new F (fun z hz => by simp only [List.mem_singleton] at hz; omega)
  have ne1 : g1 ∉ [gt] := by simp only [List.mem_singleton]; omega
  have ne4 : g4 ∉ [gt] := by simp only [List.mem_singleton]; omega
  refine xLoop_n ord.length (fun j => [i64 (j : Int)]) (fun j w' => Ext [gt] y3 w' ∧ Blk w' gt 3 (its (toK ns.length (ord.take j)))) rfl ⟨Ext.refl _ _, Bt0⟩ ?_ ?_
  · rintro j hj u x1 hu ⟨F, Bt⟩ nxt hnx
    simp only [List.map_cons, List.map_nil, List.cons.injEq, and_true] at hu
    rw [hu]
    obtain ⟨bo, oo, rfl, _, co⟩ := its_at (hr.ext0 (fresh F)) hj
    obtain ⟨_, _, e1, hbw, _⟩ := its_at hr hj
    cases e1
    have hbg : bo ≠ gt := by omega
    have hok := ho.ok _ (List.getElem_mem hj)
    have hnot : ord[j] ∉ ord.take j := fun hm => by
      obtain ⟨i, hi, e⟩ := List.getElem_of_mem hm
      rw [List.getElem_take] at e
      rw [List.length_take] at hi
      have := List.pairwise_iff_getElem.1 ho.nd i j (by omega) hj (by omega)
      exact this e
    have hsu : ord.take (j + 1) = ord.take j ++ [ord[j]] := by
      rw [List.take_add_one, List.getElem?_eq_getElem hj]
      rfl
    have hlen : (ord.take j).length = j := by simp; omega
    have ht := toK_set hok hnot
    rw [hlen, ← hsu] at ht
    have ks := Bt.cell (i := (ord[j] - 1).toNat)
    rw [toK_get hok] at ks
    have fs := fun i => Bt.frozen (i := i)
    generalize ord[j] = q at *
    unfold okNo at hok
    have hq1 : (q - 1).toNat < ns.length := by omega
    unfold loamref17_Pick_l1
    simp (disch := (first | omega | decide | (simp only [rsD] <;> omega) | fail)) only [↓rsC, rsK, rsL, ↓rsPck1_0, tick_eq, tickV_eq, ne_eq, Int.reduceAdd, Int.reduceSub, Int.reduceMul, Int.reduceEq, Int.reduceLT, Int.reduceLE, Int.reduceToNat, Nat.reduceMul, Nat.reduceAdd, Nat.reduceSub, ←decide_not, k1, co, ks, fs]
    have B2 := Bt.set (i := (q - 1).toNat) (v := i64 ((j : Int) + 1))
    rw [ht] at B2
    exact hnx _ ⟨F.set' (.inl (by simp)), B2⟩
  rintro u x1 hu ⟨F, Bt⟩ nxt
  simp only [List.map_cons, List.map_nil, List.cons.injEq, and_true] at hu
  rw [hu]
  rw [List.take_length] at Bt
  have B1x := B13.ext F ne1
  have B4x := B43.ext F ne4
  have g1x := B1x.lt
  have g4x := B4x.lt
  have gtx := Bt.lt
  unfold loamref17_Pick_l1
  simp (disch := (first | omega | decide | (simp only [rsD] <;> omega) | fail)) only [↓rsC, rsK, rsL, ↓rsPck1_0, tick_eq, tickV_eq, ne_eq, Int.reduceAdd, Int.reduceSub, Int.reduceMul, Int.reduceEq, Int.reduceLT, Int.reduceLE, Int.reduceToNat, Nat.reduceMul, Nat.reduceAdd, Nat.reduceSub, ←decide_not, k1]
  obtain ⟨hx, hhx⟩ : ∃ g, g = x1.heap.size := ⟨_, rfl⟩
  have Bx0 : Blk (x1.alloc (.cells #[.slice none 0 0, .slice none 0 0] 32)) hx 32 [.slice none 0 0, .slice none 0 0] := Blk.at hhx
  have X8 : Ext [] x1 (x1.alloc (.cells #[.slice none 0 0, .slice none 0 0] 32)) := Ext.alloc _ _ _
  have zs8 : (x1.alloc (.cells #[.slice none 0 0, .slice none 0 0] 32)).heap.size = x1.heap.size + 1 := World.size_alloc _ _
  rw [← hhx] at zs8 ⊢
  have F8 := (fresh F).trans X8
  have B18 := B1x.ext X8 (by simp)
  have B48 := B4x.ext X8 (by simp)
  have Bt8 := Bt.ext X8 (by simp)
  have zw8 := (fresh F).size
  generalize x1.alloc (.cells #[.slice none 0 0, .slice none 0 0] 32) = q at *
  have hlt : hx < q.heap.size := by omega
  have fresh2 : ∀ {w' : World}, Ext [hx] q w' → Ext [] w w' := fun F => F8.new F (fun z hz => by simp only [List.mem_singleton] at hz; omega)
  have nq1 : g1 ∉ [hx] := by simp only [List.mem_singleton]; omega
  have nq4 : g4 ∉ [hx] := by simp only [List.mem_singleton]; omega
  have nqt : gt ∉ [hx] := by simp only [List.mem_singleton]; omega
  have nilb : ∀ z, z ∉ blk (.slice none 0 0) := by simp [blk, Value.ownBlock]
  refine xLoop_n ord.length (fun j => [i64 (j : Int)]) (fun j w' => Ext [hx] q w' ∧ ∃ v ns', ns'.map bare = (ord.take j).map (canN ns ord) ∧ OwnN w' v ns' ∧ Blk w' hx 32 [v, .slice none 0 0] ∧ (∀ z ∈ blk v, q.heap.size ≤ z) ∧ ∀ x ∈ ns', NOk w' x ∧ Apt (hx :: blk v) x) rfl ⟨Ext.refl _ _, .slice none 0 0, [], by simp, Own.nil, Bx0, fun z hz => absurd hz (nilb z), by simp⟩ ?_ ?_
  · rintro j hj u x2 hu ⟨F2, v, ns', hns, O, B, U, A⟩ nxt2 hnx2
    simp only [List.map_cons, List.map_nil, List.cons.injEq, and_true] at hu
    rw [hu]
    have hnl : ns'.length = j := by
      have := congrArg List.length hns
      rw [List.length_map, List.length_map, List.length_take] at this
      omega
    have Fd : Ext [hx] q x2.drew := F2.trans ((Ext.drew [] x2).more (by simp))
    obtain ⟨bo, oo, rfl, zbo, co⟩ := its_at (hr.ext0 (fresh2 Fd)) hj
    have hok := ho.ok _ (List.getElem_mem hj)
    have hq : ord[j].toNat - 1 < ns.length := by omega
    obtain ⟨bn, on, ena, zbn, c1, c2⟩ := gn_at (h.nr.ext0 (fresh2 Fd)) hq
    have zb1 := (B18.ext Fd nq1).lt
    have zd : x2.drew.heap.size = x2.heap.size := World.size_drew _
    rw [zd] at zbo zbn zb1
    have hsu : (ord.take (j + 1)).map (canN ns ord) = (ord.take j).map (canN ns ord) ++ [canN ns ord ord[j]] := by
      rw [List.take_add_one, List.getElem?_eq_getElem hj, Option.toList_some, List.map_append]
      rfl
    have hcan : canN ns ord ord[j] = ⟨(ns[ord[j].toNat - 1].p).map (noV ord), none, 0, ns[ord[j].toNat - 1].d, none, 0⟩ := by
      unfold canN ptrsOf dataOf
      rw [List.getElem?_eq_getElem hq]
    rw [hcan] at hsu
    have hxk := h.ok _ (List.getElem_mem hq)
    have hgx := hg _ (List.getElem_mem hq)
    have lx := hf.x _ (List.getElem_mem hq)
    have tq : (ord[j] - 1).toNat = ord[j].toNat - 1 := by omega
    unfold okNo at hok
    generalize ord[j] = qq at *
    generalize ns[qq.toNat - 1] = x at *
    subst ena
    have kd := fun i => (B18.ext Fd nq1).cell (i := i)
    have hqb : qq ≤ 9000 := by omega
    unfold loamref17_Pick_l2
    simp (disch := (first | omega | decide | (simp only [rsD] <;> omega) | fail)) only [↓rsC, rsK, rsL, ↓rsPck1_0, tick_eq, tickV_eq, ne_eq, Int.reduceAdd, Int.reduceSub, Int.reduceMul, Int.reduceEq, Int.reduceLT, Int.reduceLE, Int.reduceToNat, Nat.reduceMul, Nat.reduceAdd, Nat.reduceSub, ←decide_not, k1, co, kd, tq, c1, c2]
    rw [← zd]
    have Bd := B.ext (Ext.drew [] x2) (by simp)
    have Od := O.ext0 (Ext.drew [] x2)
    have Ad : ∀ y ∈ ns', NOk x2.drew y ∧ Apt (hx :: blk v) y := fun y hy => ⟨(A y hy).1.ext0 (Ext.drew [] x2), (A y hy).2⟩
    rw [← zd] at zbo zbn zb1
    generalize x2.drew = xd at *
    have C3 : Blk (xd.alloc (.cells #[.slice x.pa x.p.length x.pc, .slice x.da x.d.length x.dc] 49)) xd.heap.size 49 [.slice x.pa x.p.length x.pc, .slice x.da x.d.length x.dc] := Blk.at rfl
    have X3d : Ext [] xd (xd.alloc (.cells #[.slice x.pa x.p.length x.pc, .slice x.da x.d.length x.dc] 49)) := Ext.alloc _ _ _
    have zs3 : (xd.alloc (.cells #[.slice x.pa x.p.length x.pc, .slice x.da x.d.length x.dc] 49)).heap.size = xd.heap.size + 1 := World.size_alloc _ _
    generalize xd.alloc (.cells #[.slice x.pa x.p.length x.pc, .slice x.da x.d.length x.dc] 49) = x3 at *
    obtain ⟨hc, hhc⟩ : ∃ g, g = xd.heap.size := ⟨_, rfl⟩
    rw [← zs3]
    rw [← hhc] at C3 ⊢
    have E3 : Blk (x3.alloc (.cells #[] 5)) x3.heap.size 5 [] := Blk.at (cs := []) rfl
    have OE : Own (x3.alloc (.cells #[] 5)) 5 1 (.slice (some ⟨x3.heap.size, 0, none⟩) 0 0) 0 [] := Own.close (rest := []) (by rw [List.append_nil]; exact E3) (Nat.le_refl _) (by decide) (by rfl) (by rfl)
    have X34 : Ext [] x3 (x3.alloc (.cells #[] 5)) := Ext.alloc _ _ _
    have zs4 : (x3.alloc (.cells #[] 5)).heap.size = x3.heap.size + 1 := World.size_alloc _ _
    have UE : ∀ z ∈ blk (.slice (some ⟨x3.heap.size, 0, none⟩) 0 0), x3.heap.size ≤ z := by simp [blk, Value.ownBlock]
    generalize x3.alloc (.cells #[] 5) = x4 at *
    have Xd4 := X3d.trans X34
    have Fd4 := Fd.trans (Xd4.more (by simp))
    refine xApp (e := 5) (s := 1) (n := 0) (m := x.d.length) (xs := []) (news := bys x.d) (bytes := 1) (z := .int .u8 0) (by kernel_rfl) (by kernel_rfl) (by rfl) (by decide) OE (by simp) ((hxk.ext0 (fresh2 Fd4)).dr) hxk.dn hxk.dl bys_ok (by omega) (by omega) fun vd x5 O5 T5 => ?_
    rw [Nat.zero_add, List.nil_append] at O5
    obtain ⟨ad, cd, hvd, hdl, _, hdn, Rd, _⟩ := O5.slice
    have E45 : Ext [] x3 x5 := X34.new T5.ext (fun z hz => UE z hz)
    have Ud : ∀ z ∈ blk vd, x3.heap.size ≤ z := fun z hz => by
      rcases T5.at' z hz with h1 | h1
      · exact UE z h1
      · omega
    have Udl := O5.lt
    have Xd5 := X3d.trans E45
    subst hvd
    simp (disch := (first | omega | decide | (simp only [rsD] <;> omega) | fail)) only [↓rsC, rsK, rsL, ↓rsPck1_0, tick_eq, tickV_eq, ne_eq, Int.reduceAdd, Int.reduceSub, Int.reduceMul, Int.reduceEq, Int.reduceLT, Int.reduceLE, Int.reduceToNat, Nat.reduceMul, Nat.reduceAdd, Nat.reduceSub, ←decide_not, k1, co, kd, tq, c1, c2]
    obtain ⟨hn, hhn⟩ : ∃ g, g = x5.heap.size := ⟨_, rfl⟩
    have N60 : Blk (x5.alloc (.cells #[.slice none 0 0, .slice ad x.d.length cd] 49)) hn 49 [.slice none 0 0, .slice ad x.d.length cd] := Blk.at hhn
    have X56 : Ext [] x5 (x5.alloc (.cells #[.slice none 0 0, .slice ad x.d.length cd] 49)) := Ext.alloc _ _ _
    rw [← hhn]
    have Rd6 := Rd.ext0 X56
    have C6 := (C3.ext E45 (by simp)).ext X56 (by simp)
    have Xd6 := Xd5.trans X56
    have z56 := X56.size
    generalize x5.alloc (.cells #[.slice none 0 0, .slice ad x.d.length cd] 49) = x6 at *
    have hn6 := N60.lt
    have F06 := Fd.trans (Xd6.more (by simp))
    have B6 := Bd.ext Xd6 (by simp)
    have O6 := Od.ext0 Xd6
    have zF := Fd.size
    have hxdlt := Bd.lt
    have vdlt := Od.lt
    have zd5 := Xd5.size
    have z35 := E45.size
    have Fy : ∀ {w' : World}, Ext [hn] x6 w' → Ext [hx] q w' := fun F' => F06.cut F' (fun z hz => by simp only [List.mem_singleton] at hz; subst hz; exact .inr (by omega))
    have hxn : hx ∉ [hn] := by simp only [List.mem_singleton]; omega
    have hcn : hc ∉ [hn] := by simp only [List.mem_singleton]; omega
    have hnv : hn ∉ blk v := fun hm => by have := vdlt _ hm; omega
    have hpl : (x.p.map (noV ord)).length = x.p.length := by simp
    refine xLoop_n x.p.length (fun k => [i64 (k : Int)]) (fun k w' => Ext [hn] x6 w' ∧ ∃ vp, OwnIt w' vp ((x.p.map (noV ord)).take k) ∧ Blk w' hn 49 [vp, .slice ad x.d.length cd] ∧ ∀ z ∈ blk vp, x6.heap.size ≤ z) rfl ⟨Ext.refl _ _, .slice none 0 0, Own.nil, N60, fun z hz => absurd hz (nilb z)⟩ ?_ ?_
    · rintro k hk u x7 hu ⟨F7, vp, Op, Bp, Up⟩ nxt4 hn4
      simp only [List.map_cons, List.map_nil, List.cons.injEq, and_true] at hu
      rw [hu]
      obtain ⟨a1, c1', hv1, _⟩ := Op.slice
      subst hv1
      obtain ⟨bp, op, ep, _, cp⟩ := its_at (hxk.ext0 (fresh2 (Fy F7))).pr hk
      have hsu2 : (x.p.map (noV ord)).take (k + 1) = (x.p.map (noV ord)).take k ++ [noV ord x.p[k]] := by
        rw [List.take_add_one, List.getElem?_eq_getElem (by omega)]
        simp
      have hpg := hgx _ (List.getElem_mem hk)
      generalize x.p[k] = pk at *
      have kb := fun i => Bp.cell (i := i)
      have kc := fun i => (C6.ext F7 hcn).cell (i := i)
      have zbp := Bp.lt
      have Bt7 := Bt8.ext (Fy F7) nqt
      have kt : okNo ns.length pk → x7.cell? ⟨gt, (pk - 1).toNat, none⟩ = some (i64 (noV ord pk)) := fun hp => by rw [Bt7.cell, toK_get hp]
      have join : ∀ t : Int, t = noV ord pk → loamref17_Pick_j1 (PickR w ns rs ord) nxt4 (ptr hn) (i64 (k : Int)) (i64 t) x7 := by
        rintro t rfl
        unfold loamref17_Pick_j1
        simp (disch := (first | omega | decide | (simp only [rsD] <;> omega) | fail)) only [↓rsC, rsK, rsL, ↓rsPck1_0, tick_eq, tickV_eq, ne_eq, Int.reduceAdd, Int.reduceSub, Int.reduceMul, Int.reduceEq, Int.reduceLT, Int.reduceLE, Int.reduceToNat, Nat.reduceMul, Nat.reduceAdd, Nat.reduceSub, ←decide_not, k1, co, kd, tq, c1, c2, kb]
        refine appIt Op rfl (by simp; omega) fun v' x8 O8 T8 => ?_
        obtain ⟨F8', U8, n1, n2⟩ := grow F7 Up hn6 T8
        have B8 := Bp.ext T8.ext n1
        obtain ⟨a3, c3, hv3, _⟩ := O8.slice
        have k8 := fun i => B8.cell (i := i)
        have f8 := fun i => B8.frozen (i := i)
        rw [← hsu2] at O8 hv3
        subst hv3
        simp (disch := (first | omega | decide | (simp only [rsD] <;> omega) | fail)) only [↓rsC, rsK, rsL, ↓rsPck1_0, tick_eq, tickV_eq, ne_eq, Int.reduceAdd, Int.reduceSub, Int.reduceMul, Int.reduceEq, Int.reduceLT, Int.reduceLE, Int.reduceToNat, Nat.reduceMul, Nat.reduceAdd, Nat.reduceSub, ←decide_not, k1, co, kd, tq, c1, c2, kb, k8, f8]
        have B9 := B8.set (i := 0) (v := .slice a3 ((x.p.map (noV ord)).take (k + 1)).length c3)
        have O9 := O8.ext (Ext.set (w := x8) (b := hn) (o := 0) (v := .slice a3 ((x.p.map (noV ord)).take (k + 1)).length c3)) (fun z hz hm => by simp only [List.mem_singleton] at hm; subst hm; exact n2 hz)
        exact hn4 _ ⟨F8'.set' (.inl (by simp)), _, O9, B9, U8⟩
      unfold loamref17_Pick_l3
      rw [ep] at kc
      by_cases p0 : pk = 0
      · subst p0
        have e0 : noV ord 0 = 0 := by
          unfold noV
          rw [if_neg]
          intro hm
          have := (ho.ok _ hm).1
          omega
        simp (disch := (first | omega | decide | (simp only [rsD] <;> omega) | fail)) only [↓rsC, rsK, rsL, ↓rsPck1_0, tick_eq, tickV_eq, ne_eq, Int.reduceAdd, Int.reduceSub, Int.reduceMul, Int.reduceEq, Int.reduceLT, Int.reduceLE, Int.reduceToNat, Nat.reduceMul, Nat.reduceAdd, Nat.reduceSub, ←decide_not, k1, co, kd, tq, c1, c2, kc, cp]
        exact join 0 e0.symm
      · have hp : okNo ns.length pk := ⟨by omega, hpg.2⟩
        have kt := kt hp
        simp (disch := (first | omega | decide | (simp only [rsD] <;> omega) | fail)) only [↓rsC, rsK, rsL, ↓rsPck1_0, tick_eq, tickV_eq, ne_eq, Int.reduceAdd, Int.reduceSub, Int.reduceMul, Int.reduceEq, Int.reduceLT, Int.reduceLE, Int.reduceToNat, Nat.reduceMul, Nat.reduceAdd, Nat.reduceSub, ←decide_not, k1, co, kd, tq, c1, c2, kc, cp, kt]
        exact join _ rfl
    · rintro u x7 hu ⟨F7, vp, Op, Bp, Up⟩ nxt4
      simp only [List.map_cons, List.map_nil, List.cons.injEq, and_true] at hu
      rw [hu]
      have etk : (x.p.map (noV ord)).take x.p.length = x.p.map (noV ord) := by rw [← hpl, List.take_length]
      rw [etk] at Op
      obtain ⟨a1, c1', hv1, hc1', _, hn1, R1, _⟩ := Op.slice
      subst hv1
      obtain ⟨a0, c0', hv0, _⟩ := O.slice
      subst hv0
      have B7 := B6.ext F7 hxn
      have O7 := O6.ext F7 (fun z hz hm => by simp only [List.mem_singleton] at hm; subst hm; exact hnv hz)
      have kb := fun i => Bp.cell (i := i)
      have kc := fun i => (C6.ext F7 hcn).cell (i := i)
      have kx := fun i => B7.cell (i := i)
      unfold loamref17_Pick_l3
      simp (disch := (first | omega | decide | (simp only [rsD] <;> omega) | fail)) only [↓rsC, rsK, rsL, ↓rsPck1_0, tick_eq, tickV_eq, ne_eq, Int.reduceAdd, Int.reduceSub, Int.reduceMul, Int.reduceEq, Int.reduceLT, Int.reduceLE, Int.reduceToNat, Nat.reduceMul, Nat.reduceAdd, Nat.reduceSub, ←decide_not, k1, co, kd, tq, c1, c2, kb, kc, kx]
      have nad : ∀ b o, ad = some ⟨b, o, none⟩ → b ∉ [hn] := fun b o hb hm => by
        have := Udl b (by rw [hb]; simp [blk, Value.ownBlock])
        simp only [List.mem_singleton] at hm
        omega
      obtain ⟨X, hX⟩ : ∃ X : GN, X = ⟨x.p.map (noV ord), a1, c1', x.d, ad, cd⟩ := ⟨_, rfl⟩
      have hXb : bare X = ⟨x.p.map (noV ord), none, 0, x.d, none, 0⟩ := by rw [hX]; rfl
      have hXg : gnC X = [.slice a1 (x.p.map (noV ord)).length c1', .slice ad x.d.length cd] := by rw [hX]
      have NX : NOk x7 X := by
        rw [hX]
        exact ⟨R1, hc1', hn1, Rd6.ext F7 nad, hdl, hdn⟩
      have AX : Apt (hx :: blk (.slice a0 ns'.length c0')) X := by
        rw [hX]
        refine ⟨fun y hy _ hm => ?_, fun y hy _ hm => ?_⟩
        · have := Up y.block (by simp only at hy; rw [hy]; simp [blk, Value.ownBlock])
          rcases List.mem_cons.1 hm with e | e
          · omega
          · have := vdlt _ e; omega
        · have := Ud y.block (by simp only at hy; rw [hy]; simp [blk, Value.ownBlock])
          rcases List.mem_cons.1 hm with e | e
          · omega
          · have := vdlt _ e; omega
      have A7 : ∀ y ∈ ns', NOk x7 y ∧ Apt (hx :: blk (.slice a0 ns'.length c0')) y := fun y hy => ⟨((Ad y hy).1.ext0 Xd6).ext F7 ((Ad y hy).2.more (Ad y hy).1 (fun b hb => .inr (by simp only [List.mem_singleton] at hb; omega))), (Ad y hy).2⟩
      refine appN O7 (x := X) hXg.symm (by omega) fun v' x9 O9 T9 => ?_
      obtain ⟨F9, U9, n1, n2⟩ := grow (Fy F7) U hlt T9
      have A9 := fun {w6 : World} (F6 : Ext [hx] x9 w6) => nodes_app A7 NX AX T9 F6
      have B9 := B7.ext T9.ext n1
      obtain ⟨a3, c3, hv3, _⟩ := O9.slice
      have k9 := fun i => B9.cell (i := i)
      have f9 := fun i => B9.frozen (i := i)
      subst hv3
      simp (disch := (first | omega | decide | (simp only [rsD] <;> omega) | fail)) only [↓rsC, rsK, rsL, ↓rsPck1_0, tick_eq, tickV_eq, ne_eq, Int.reduceAdd, Int.reduceSub, Int.reduceMul, Int.reduceEq, Int.reduceLT, Int.reduceLE, Int.reduceToNat, Nat.reduceMul, Nat.reduceAdd, Nat.reduceSub, ←decide_not, k1, co, kd, tq, c1, c2, kb, kc, kx, k9, f9]
      have B10 := B9.set (i := 0) (v := .slice a3 (ns' ++ [X]).length c3)
      have O10 := O9.ext (Ext.set (w := x9) (b := hx) (o := 0) (v := .slice a3 (ns' ++ [X]).length c3)) (fun z hz hm => by simp only [List.mem_singleton] at hm; subst hm; exact n2 hz)
      exact hnx2 _ ⟨F9.set' (.inl (by simp)), _, ns' ++ [X], by rw [List.map_append, hns, hsu, List.map_singleton, hXb], O10, B10, U9, A9 Ext.set⟩
  rintro u x2 hu ⟨F2, v, ns', hns, O, B2q, U, A⟩ nxt2
  simp only [List.map_cons, List.map_nil, List.cons.injEq, and_true] at hu
  rw [hu]
  rw [List.take_length] at hns
  obtain ⟨rs', hrs⟩ : ∃ rs' : List GR, rs' = rs.map fun r => ⟨r.s, noV ord r.to⟩ := ⟨_, rfl⟩
  have hlr : rs'.length = rs.length := by rw [hrs]; simp
  unfold loamref17_Pick_l2
  simp (disch := (first | omega | decide | (simp only [rsD] <;> omega) | fail)) only [↓rsC, rsK, rsL, ↓rsPck1_0, tick_eq, tickV_eq, ne_eq, Int.reduceAdd, Int.reduceSub, Int.reduceMul, Int.reduceEq, Int.reduceLT, Int.reduceLE, Int.reduceToNat, Nat.reduceMul, Nat.reduceAdd, Nat.reduceSub, ←decide_not, k1]
  refine xLoop_n rs.length (fun j => [i64 (j : Int)]) (fun j w' => Ext [hx] q w' ∧ OwnN w' v ns' ∧ ∃ v2, OwnRt w' v2 (rs'.take j) ∧ Blk w' hx 32 [v, v2] ∧ (∀ z ∈ blk v2, q.heap.size ≤ z) ∧ (∀ z ∈ blk v2, z ∉ blk v) ∧ ∀ x ∈ ns', NOk w' x ∧ Apt (hx :: (blk v ++ blk v2)) x) rfl ⟨F2, O, .slice none 0 0, Own.nil, B2q, fun z hz => absurd hz (nilb z), fun z hz => absurd hz (nilb z), fun x hx' => ⟨(A x hx').1, by have := (A x hx').2; simpa [blk, Value.ownBlock] using this⟩⟩ ?_ ?_
  · rintro j hj u x1 hu ⟨F, O, v2, R, B, U2, D, A⟩ nxt3 hnx
    simp only [List.map_cons, List.map_nil, List.cons.injEq, and_true] at hu
    rw [hu]
    obtain ⟨a0, c0', hv0, _⟩ := R.slice
    subst hv0
    have hlenj : (rs'.take j).length = j := by rw [List.length_take]; omega
    obtain ⟨br, or', era, zbr, c1, c2⟩ := gr_at (h.rr.ext0 (fresh2 F)) hj
    have hsu : rs'.take (j + 1) = rs'.take j ++ [⟨rs[j].s, noV ord rs[j].to⟩] := by
      rw [List.take_add_one, List.getElem?_eq_getElem (by omega)]
      simp [hrs]
    have hrg := hgr _ (List.getElem_mem hj)
    generalize rs[j] = rr at *
    have kq := fun i => (B18.ext F nq1).cell (i := i)
    have zq1 := (B18.ext F nq1).lt
    have kb := fun i => B.cell (i := i)
    have zb := B.lt
    have Btx := Bt8.ext F nqt
    have ztx := Btx.lt
    have kt : okNo ns.length rr.to → x1.cell? ⟨gt, (rr.to - 1).toNat, none⟩ = some (i64 (noV ord rr.to)) := fun hp => by rw [Btx.cell, toK_get hp]
    have e0 : noV ord 0 = 0 := by
      unfold noV
      rw [if_neg]
      intro hm
      have := (ho.ok _ hm).1
      omega
    have E9 : Ext [] x1 (x1.alloc (.cells #[.string (strOf rr.s), i64 rr.to] 56)) := Ext.alloc _ _ _
    have Br : Blk (x1.alloc (.cells #[.string (strOf rr.s), i64 rr.to] 56)) x1.heap.size 56 [.string (strOf rr.s), i64 rr.to] := Blk.at rfl
    have F04 := F.trans (E9.more (by simp))
    have B4 := B.ext E9 (by simp)
    have R4' := R.ext0 E9
    have O4 := O.ext0 E9
    have kr := fun i => Br.cell (i := i)
    have k4 := fun i => B4.cell (i := i)
    have join : ∀ t : Int, t = noV ord rr.to → loamref17_Pick_j2 (PickR w ns rs ord) nxt3 (ptr hx) (i64 (j : Int)) (ptr x1.heap.size) (i64 t) (x1.alloc (.cells #[.string (strOf rr.s), i64 rr.to] 56)) := by
      rintro t rfl
      have hA : ∀ p ∈ ns', NOk (x1.alloc (.cells #[.string (strOf rr.s), i64 rr.to] 56)) p ∧ Apt (hx :: (blk v ++ blk (.slice a0 (rs'.take j).length c0'))) p := fun p hp => ⟨(A p hp).1.ext0 E9, (A p hp).2⟩
      generalize x1.alloc (.cells #[.string (strOf rr.s), i64 rr.to] 56) = x4 at *
      unfold loamref17_Pick_j2
      simp (disch := (first | omega | decide | (simp only [rsD] <;> omega) | fail)) only [↓rsC, rsK, rsL, ↓rsPck1_0, tick_eq, tickV_eq, ne_eq, Int.reduceAdd, Int.reduceSub, Int.reduceMul, Int.reduceEq, Int.reduceLT, Int.reduceLE, Int.reduceToNat, Nat.reduceMul, Nat.reduceAdd, Nat.reduceSub, ←decide_not, k1, k4, kr]
      refine appR R4' (x := ⟨rr.s, noV ord rr.to⟩) rfl (by omega) fun v' x5 R5 T5 => ?_
      obtain ⟨F5, U5, n1, n2⟩ := grow F04 U2 hlt T5
      have B5 := B4.ext T5.ext n1
      have O5 := O4.ext T5.ext (fun z hz hm => D z hm hz)
      obtain ⟨a3, c3, hv3, _⟩ := R5.slice
      have k5 := fun i => B5.cell (i := i)
      have f5 := fun i => B5.frozen (i := i)
      rw [← hsu] at R5 hv3
      subst hv3
      simp (disch := (first | omega | decide | (simp only [rsD] <;> omega) | fail)) only [↓rsC, rsK, rsL, ↓rsPck1_0, tick_eq, tickV_eq, ne_eq, Int.reduceAdd, Int.reduceSub, Int.reduceMul, Int.reduceEq, Int.reduceLT, Int.reduceLE, Int.reduceToNat, Nat.reduceMul, Nat.reduceAdd, Nat.reduceSub, ←decide_not, k1, k4, kr, k5, f5]
      have B6 := B5.set (i := 1) (v := .slice a3 (rs'.take (j + 1)).length c3)
      have hxv : hx ∉ blk v := fun hm => by have := U _ hm; omega
      have D5 : ∀ z ∈ blk (.slice a3 (rs'.take (j + 1)).length c3), z ∉ blk v := fun z hz hm => by
        rcases T5.at' z hz with h1 | h1
        · exact D z h1 hm
        · have := O4.lt z hm
          omega
      have R6 := R5.ext (Ext.set (w := x5) (b := hx) (o := 1) (v := .slice a3 (rs'.take (j + 1)).length c3)) (fun z hz hm => by simp only [List.mem_singleton] at hm; subst hm; exact n2 hz)
      have O6 := O5.ext (Ext.set (w := x5) (b := hx) (o := 1) (v := .slice a3 (rs'.take (j + 1)).length c3)) (fun z hz hm => by simp only [List.mem_singleton] at hm; subst hm; exact hxv hz)
      refine hnx _ ⟨F5.set' (.inl (by simp)), O6, _, R6, B6, U5, D5, fun q' hq => ?_⟩
      have hA := hA q' hq
      have hA2 := hA.1.ext (T5.ext.more (fun z hz => List.mem_cons_of_mem hx (List.mem_append_right _ hz))) hA.2
      have hA3 : Apt (hx :: (blk v ++ blk (.slice a3 (rs'.take (j + 1)).length c3))) q' := hA.2.more hA.1 fun b hb => by
        rcases List.mem_cons.1 hb with e | e
        · exact .inl (by rw [e]; exact List.mem_cons_self ..)
        · rcases List.mem_append.1 e with e | e
          · exact .inl (List.mem_cons_of_mem _ (List.mem_append_left _ e))
          · exact (T5.at' b e).imp (fun h => List.mem_cons_of_mem _ (List.mem_append_right _ h)) id
      exact ⟨hA2.ext (Ext.set.more (by simp)) hA3, hA3⟩
    unfold loamref17_Pick_l4
    rw [era] at kq
    by_cases p0 : rr.to = 0
    · simp (disch := (first | omega | decide | (simp only [rsD] <;> omega) | fail)) only [↓rsC, rsK, rsL, ↓rsPck1_0, tick_eq, tickV_eq, ne_eq, Int.reduceAdd, Int.reduceSub, Int.reduceMul, Int.reduceEq, Int.reduceLT, Int.reduceLE, Int.reduceToNat, Nat.reduceMul, Nat.reduceAdd, Nat.reduceSub, ←decide_not, k1, kq, c1, c2]
      exact join 0 (by rw [p0, e0])
    · have hp : okNo ns.length rr.to := ⟨by omega, hrg.2⟩
      have kt := kt hp
      simp (disch := (first | omega | decide | (simp only [rsD] <;> omega) | fail)) only [↓rsC, rsK, rsL, ↓rsPck1_0, tick_eq, tickV_eq, ne_eq, Int.reduceAdd, Int.reduceSub, Int.reduceMul, Int.reduceEq, Int.reduceLT, Int.reduceLE, Int.reduceToNat, Nat.reduceMul, Nat.reduceAdd, Nat.reduceSub, ←decide_not, k1, kq, c1, c2, kt]
      exact join _ rfl
  rintro u x1 hu ⟨F, O, v2, R, B, U2, D, A⟩ nxt3
  simp only [List.map_cons, List.map_nil, List.cons.injEq, and_true] at hu
  rw [hu]
  have etk : rs'.take rs.length = rs' := List.take_of_length_le (by omega)
  rw [etk] at R
  obtain ⟨na', nc', hvn, hnc, _, hnn, Rn, _⟩ := O.slice
  obtain ⟨ra', rc', hvr, hrc, _, hrn, Rr, _⟩ := R.slice
  subst hvn hvr
  have kq := fun i => (B18.ext F nq1).cell (i := i)
  have k3 := fun i => B.cell (i := i)
  have B4w := B48.ext F nq4
  have k4 := fun i => B4w.cell (i := i)
  have f4 := fun i => B4w.frozen (i := i)
  unfold loamref17_Pick_l4
  simp (disch := (first | omega | decide | (simp only [rsD] <;> omega) | fail)) only [↓rsC, rsK, rsL, ↓rsPck1_0, tick_eq, tickV_eq, ne_eq, Int.reduceAdd, Int.reduceSub, Int.reduceMul, Int.reduceEq, Int.reduceLT, Int.reduceLE, Int.reduceToNat, Nat.reduceMul, Nat.reduceAdd, Nat.reduceSub, ←decide_not, k1, kq, k3, k4, f4]
  have FE : Ext [g4] x1 ((x1.setCell ⟨g4, 0, none⟩ (.slice na' ns'.length nc')).setCell ⟨g4, 1, none⟩ (.slice ra' rs'.length rc')) := ((Ext.refl _ _).set' (.inl (by simp))).set' (.inl (by simp))
  have Fw := fresh2 F
  have zw4 : w.heap.size ≤ g4 := by omega
  have nna : ∀ b o, na' = some ⟨b, o, none⟩ → b ∉ [g4] := fun b o hb hm => by
    have := U b (by rw [hb]; simp [blk, Value.ownBlock])
    simp only [List.mem_cons, List.not_mem_nil, or_false] at hm
    omega
  have nra : ∀ b o, ra' = some ⟨b, o, none⟩ → b ∉ [g4] := fun b o hb hm => by
    have := U2 b (by rw [hb]; simp [blk, Value.ownBlock])
    simp only [List.mem_cons, List.not_mem_nil, or_false] at hm
    omega
  unfold PickR
  rw [← hrs]
  refine ⟨(Fw.set' (.inr zw4)).set' (.inr zw4), na', nc', ra', rc', ns', _, hns, rfl, ⟨Rn.ext FE nna, hnc, hnn, Rr.ext FE nra, hrc, hrn, fun p hp => ?_⟩, fun z hz => by have := U z.block (by rw [hz]; simp [blk, Value.ownBlock]); omega, fun z hz => by have := U2 z.block (by rw [hz]; simp [blk, Value.ownBlock]); omega, gt, by omega, rfl, ?_, O.ext FE (fun z hz hm => by simp only [List.mem_singleton] at hm; have := U z hz; omega), fun p hp => (A p hp).2.more (A p hp).1 (fun b hb => .inl (List.mem_cons_of_mem _ (List.mem_append_left _ hb))), fun z hz => D z.block (by rw [hz]; simp [blk, Value.ownBlock])⟩
  · have hA := A p hp
    have hA2 := hA.2.cons hA.1 B4w (by simp)
    exact hA.1.ext (FE.more (by simp)) hA2
  · exact ((Bt8.ext F nqt).ext FE (by simp only [List.mem_singleton]; omega)).row
end Go.Proofs.YthhcmoknppljpaaDoor
end
section
set_option linter.unusedVariables false
set_option linter.unusedSimpArgs false
set_option maxHeartbeats 4000000
namespace Go.Proofs.YthhcmoknppljpaaDoor
open Go.Sh Go.RowKit

theorem noV_in {ord : List Int} {p : Int} (h : p ∈ ord) : noV ord p = (ord.idxOf p : Int) + 1 := by unfold noV; rw [if_pos h]
theorem noV_out {ord : List Int} {p : Int} (h : p ∉ ord) : noV ord p = 0 := by unfold noV; rw [if_neg h]
theorem noV_ran (ord : List Int) (p : Int) : 0 ≤ noV ord p ∧ noV ord p ≤ ord.length := by
  by_cases h : p ∈ ord
  · rw [noV_in h]
    have := List.idxOf_lt_length_of_mem h
    omega
  · rw [noV_out h]
    omega
theorem ptrs_getd {ns : List GN} {q : Int} (h : okNo ns.length q) : ∃ hj : q.toNat - 1 < ns.length, ptrsOf ns q = ns[q.toNat - 1].p ∧ dataOf ns q = ns[q.toNat - 1].d := by
  unfold okNo at h
  have hj : q.toNat - 1 < ns.length := by omega
  refine ⟨hj, ?_, ?_⟩
  · unfold ptrsOf
    rw [List.getElem?_eq_getElem hj]
  · unfold dataOf
    rw [List.getElem?_eq_getElem hj]
theorem pick_iso {ns : List GN} {ord : List Int} (hO : OutOk ns.length ord) (hc : ∀ q ∈ ord, ∀ p ∈ ptrsOf ns q, okNo ns.length p → p ∈ ord) (more : List GN) : Iso ns (ord.map (canN ns ord) ++ more) (fun p => p ∈ ord) (noV ord) := by
  have hlen : (ord.map (canN ns ord)).length = ord.length := by simp
  have hat : ∀ q (hq : q ∈ ord), (ord.map (canN ns ord) ++ more)[(noV ord q).toNat - 1]? = some (canN ns ord q) := fun q hq => by
    have hi := List.idxOf_lt_length_of_mem hq
    rw [noV_in hq, show ((ord.idxOf q : Int) + 1).toNat - 1 = ord.idxOf q by omega, List.getElem?_append_left (by omega), List.getElem?_map, List.getElem?_eq_getElem hi, List.getElem_idxOf]
    rfl
  refine ⟨fun p q hp hq e => ?_, fun p hp => ⟨hO.ok p hp, ?_⟩, fun q hq => ?_, fun q hq p hp => ?_⟩
  · rw [noV_in hp, noV_in hq] at e
    have e1 : ord.idxOf p = ord.idxOf q := by omega
    have h1 := List.getElem_idxOf (List.idxOf_lt_length_of_mem hp)
    have h2 := List.getElem_idxOf (List.idxOf_lt_length_of_mem hq)
    rw [← h1, ← h2]
    simp only [e1]
  · have := List.idxOf_lt_length_of_mem hp
    rw [noV_in hp]
    unfold okNo
    rw [List.length_append, hlen]
    omega
  · have h1 := hat q hq
    unfold ptrsOf dataOf
    rw [h1]
    exact ⟨rfl, rfl⟩
  · by_cases h : okNo ns.length p
    · exact .inl (hc q hq p hp h)
    · refine .inr ⟨h, ?_⟩
      rw [noV_out fun hm => h (hO.ok p hm)]
      unfold okNo
      omega
theorem can_txs {ns : List GN} {rs : List GR} (hn : ns.length ≤ 70) (hr : rs.length ≤ 80) (hs : ∀ r ∈ rs, r.s.length ≤ 40) (hx : ∀ x ∈ ns, x.p.length ≤ 70 ∧ x.d.length ≤ 1100) : TxS (canNs ns rs) (canRs ns rs) := by
  have hO := ord_ok ns (rs.map GR.to)
  have hol := hO.len
  refine ⟨by simp [canNs]; omega, by simpa [canRs] using hr, fun r h => ?_, fun x h => ?_⟩
  · obtain ⟨q, hq, rfl⟩ := List.mem_map.1 h
    have := noV_ran (ordV ns (rs.map GR.to)) q.to
    exact ⟨hs q hq, by simp only; omega, by simp only; omega⟩
  · obtain ⟨q, hq, rfl⟩ := List.mem_map.1 h
    obtain ⟨hj, e1, e2⟩ := ptrs_getd (hO.ok q hq)
    have h1 := hx _ (List.getElem_mem hj)
    unfold canN
    refine ⟨fun p hp => ?_, ?_, ?_⟩
    · obtain ⟨q', _, rfl⟩ := List.mem_map.1 hp
      have := noV_ran (ordV ns (rs.map GR.to)) q'
      omega
    · simp only [List.length_map, e1]
      exact h1.1
    · simp only [e2]
      exact h1.2
end Go.Proofs.YthhcmoknppljpaaDoor
end
section
set_option linter.unusedVariables false
set_option linter.unusedSimpArgs false
set_option maxHeartbeats 4000000
namespace Go.Proofs.YthhcmoknppljpaaDoor
open Go.Sh Go.RowKit

def oneTo (n : Nat) : List Int := (List.range n).map fun (i : Nat) => (i : Int) + 1
theorem oneTo_succ (n : Nat) : oneTo (n + 1) = oneTo n ++ [(n : Int) + 1] := by
  unfold oneTo
  rw [List.range_succ, List.map_append]
  rfl
theorem oneTo_len (n : Nat) : (oneTo n).length = n := by simp [oneTo]
theorem oneTo_mem {n : Nat} {p : Int} : p ∈ oneTo n ↔ okNo n p := by
  unfold oneTo okNo
  rw [List.mem_map]
  constructor
  · rintro ⟨i, hi, rfl⟩
    have := List.mem_range.1 hi
    omega
  · rintro ⟨h1, h2⟩
    exact ⟨p.toNat - 1, List.mem_range.2 (by omega), by omega⟩
theorem oneTo_nd (n : Nat) : (oneTo n).Nodup := by
  unfold oneTo
  rw [List.nodup_iff_pairwise_ne, List.pairwise_map]
  refine List.Pairwise.imp ?_ (List.nodup_range (n := n))
  intro a b h e
  omega
theorem draw_perm {P L : List Int} {n k : Nat} (h : (P ++ L).Perm (oneTo n)) (hk : k < L.length) : ((P ++ [L[k]]) ++ (L.take k ++ L.drop (k + 1))).Perm (oneTo n) := by
  refine List.Perm.trans ?_ h
  rw [List.append_assoc]
  refine List.Perm.append_left P ?_
  have e : L = L.take k ++ L[k] :: L.drop (k + 1) := by
    rw [← List.drop_eq_getElem_cons hk, List.take_append_drop]
  exact (List.perm_middle.symm.trans (by rw [← e]) : (L[k] :: (L.take k ++ L.drop (k + 1))).Perm L)
theorem perm_ok {P : List Int} {n : Nat} (h : P.Perm (oneTo n)) : OutOk n P := ⟨h.nodup_iff.2 (oneTo_nd n), fun p hp => oneTo_mem.1 (h.mem_iff.1 hp)⟩
theorem turned_can {ns ns' : List GN} {rs : List GR} {P : List Int} {more : List GN} (hg : GoodG ns rs) (hP : P.Perm (oneTo ns.length)) (hb : ns'.map bare = P.map (canN ns P) ++ more) : canNs ns' (rs.map fun r => ⟨r.s, noV P r.to⟩) = canNs ns rs ∧ canRs ns' (rs.map fun r => ⟨r.s, noV P r.to⟩) = canRs ns rs := by
  have hO := perm_ok hP
  have hall : ∀ p, okNo ns.length p → p ∈ P := fun p hp => hP.mem_iff.2 (oneTo_mem.2 hp)
  have I := pick_iso hO (fun q hq p hp ho => hall p ho) more
  have h := iso_can (rs := rs) I rfl fun r hr => by
    by_cases ho : okNo ns.length r.to
    · exact .inl (hall _ ho)
    · refine .inr ⟨ho, ?_⟩
      rw [noV_out fun hm => ho (hO.ok _ hm)]
      unfold okNo
      omega
  rwa [← hb, (can_bare ns' _).1, (can_bare ns' _).2] at h
end Go.Proofs.YthhcmoknppljpaaDoor
end
section
set_option linter.unusedVariables false
set_option linter.unusedSimpArgs false
set_option maxHeartbeats 4000000
namespace Go.Proofs.YthhcmoknppljpaaDoor
open Go.Sh Go.RowKit

abbrev rsToG_0 := (And.intro @xu8_add (And.intro @xu8_lss (And.intro @xu16_add (And.intro @xu16_lss (And.intro @xu32_add (And.intro @xu32_lss (And.intro @xu64_add (And.intro @xu64_lss (And.intro @xi64_lss (And.intro @ld_3 (And.intro @ld_9 (And.intro @ld_22 (And.intro @ld_23 (And.intro @ld_25 (And.intro @ld_29 (And.intro @ld_30 (And.intro @ld_40 (And.intro @ld_45 
  (And.intro @lr_25 (And.intro @fa_25_0 (And.intro @fa_25_1 (And.intro @fa_32_0 (And.intro @fa_32_1 (And.intro @fa_49_0 (And.intro @fa_49_1 (And.intro @fa_56_0 (And.intro @fa_56_1 (And.intro @al_25 (And.intro @st_22 (And.intro @st_23 (And.intro @st_25 (And.intro @bd_25_0_1 (And.intro @bd_25 (And.intro @bd_52_0 (And.intro @bd_52_0_1 (And.intro @bd_52_1 
  (And.intro @bd_52 (And.intro @bd_55_0_1 (And.intro @ia_29 (And.intro @ia_30 (And.intro @ln_29 (And.intro @ln_30 (And.intro @bs_22_1 (And.intro @bs_22_2 (And.intro @bs_22_3 (And.intro @bs_23_0 @bs_23_1))))))))))))))))))))))))))))))))))))))))))))))
theorem To_spec17 {w : World} {na ra : Option Addr} {nc rc : Nat} {ns : List GN} {rs : List GR} (h : GIs w na nc ra rc ns rs) (hn : ns.length ≤ 100000) (hr : rs.length ≤ 100000) :
    Yld Tryd.prog n_loamlaw17_To #[gV na nc ra rc ns rs] w fun u w' => Ext [] w w' ∧ ∃ na' nc' ra' rc', u = gV na' nc' ra' rc' ns rs ∧ GIs w' na' nc' ra' rc' ns rs := by
  refine loamlaw17_To_of ?_
  unfold loamlaw17_To
  simp (disch := (first | omega | decide | (simp only [rsD] <;> omega) | fail)) only [↓rsC, rsK, rsL, ↓rsToG_0, tick_eq, tickV_eq, ne_eq, Int.reduceAdd, Int.reduceSub, Int.reduceMul, Int.reduceEq, Int.reduceLT, Int.reduceLE, Int.reduceToNat, Nat.reduceMul, Nat.reduceAdd, Nat.reduceSub, ←decide_not, eq_self]
  simp only [World.size_alloc]
  have Bg0 : Blk (w.alloc (.cells #[.slice na ns.length nc, .slice ra rs.length rc] 32)) w.heap.size 32 [.slice na ns.length nc, .slice ra rs.length rc] := Blk.at rfl
  have X0 : Ext [] w (w.alloc (.cells #[.slice na ns.length nc, .slice ra rs.length rc] 32)) := Ext.alloc _ _ _
  have zs1 : (w.alloc (.cells #[.slice na ns.length nc, .slice ra rs.length rc] 32)).heap.size = w.heap.size + 1 := World.size_alloc _ _
  generalize w.alloc (.cells #[.slice na ns.length nc, .slice ra rs.length rc] 32) = y1 at *
  have Bt0 : Blk (y1.alloc (.cells #[.slice none 0 0, .slice none 0 0] 25)) (w.heap.size + 1) 25 [.slice none 0 0, .slice none 0 0] := by
    have := Blk.at (w := y1) (e := 25) (cs := [.slice none 0 0, .slice none 0 0]) rfl
    rw [zs1] at this
    exact this
  have X1 : Ext [] y1 (y1.alloc (.cells #[.slice none 0 0, .slice none 0 0] 25)) := Ext.alloc _ _ _
  have zs2 : (y1.alloc (.cells #[.slice none 0 0, .slice none 0 0] 25)).heap.size = w.heap.size + 1 + 1 := by rw [World.size_alloc, zs1]
  generalize y1.alloc (.cells #[.slice none 0 0, .slice none 0 0] 25) = y2 at *
  have Bx0 : Blk (y2.alloc (.cells #[.slice none 0 0, .slice none 0 0] 25)) (w.heap.size + 1 + 1) 25 [.slice none 0 0, .slice none 0 0] := by
    have := Blk.at (w := y2) (e := 25) (cs := [.slice none 0 0, .slice none 0 0]) rfl
    rw [zs2] at this
    exact this
  have X2 : Ext [] y2 (y2.alloc (.cells #[.slice none 0 0, .slice none 0 0] 25)) := Ext.alloc _ _ _
  have zs3 : (y2.alloc (.cells #[.slice none 0 0, .slice none 0 0] 25)).heap.size = w.heap.size + 1 + 1 + 1 := by rw [World.size_alloc, zs2]
  generalize y2.alloc (.cells #[.slice none 0 0, .slice none 0 0] 25) = y at *
  have Xy : Ext [] w y := X0.trans (X1.trans X2)
  have Bg := (Bg0.ext X1 (by simp)).ext X2 (by simp)
  have Bt := Bt0.ext X2 (by simp)
  generalize hhx : w.heap.size + 1 + 1 = hx at *
  generalize hht : w.heap.size + 1 = ht at *
  have hg := h.ext0 Xy
  have fresh : ∀ {w' : World}, Ext [hx] y w' → Ext [] w w' := fun F => Xy.new F (fun z hz => by simp only [List.mem_singleton] at hz; omega)
  have nilb : ∀ z, z ∉ blk (.slice none 0 0) := by simp [blk, Value.ownBlock]
  refine xLoop_n ns.length (fun j => [i64 (j : Int)]) (fun j w' => Ext [hx] y w' ∧ ∃ v, OwnGN w' v (ns.take j) ∧ Blk w' hx 25 [v, .slice none 0 0] ∧ ∀ z ∈ blk v, y.heap.size ≤ z) rfl ⟨Ext.refl _ _, _, Own.nil, Bx0, fun z hz => absurd hz (nilb z)⟩ ?_ ?_
  · rintro j hj u v1 hu ⟨F, v, O, B, U⟩ nxt hnx
    simp only [List.map_cons, List.map_nil, List.cons.injEq, and_true] at hu
    rw [hu]
    have kg := fun i => (Bg.ext F (by simp; omega)).cell (i := i)
    have kgd := fun i => ((Bg.ext F (by simp; omega)).ext (Ext.drew [] v1) (by simp)).cell (i := i)
    have kbd := fun i => (B.ext (Ext.drew [] v1) (by simp)).cell (i := i)
    have hgn := (h.ext0 ((fresh F).trans (Ext.drew [] v1))).nr
    obtain ⟨b1, o1, rfl, z1, c1, c2⟩ := gn_at hgn hj
    have hlen : (ns.take j).length = j := by rw [List.length_take]; omega
    have hsu : ns.take (j + 1) = ns.take j ++ [ns[j]] := by rw [List.take_add_one, List.getElem?_eq_getElem hj]; rfl
    obtain ⟨a0, c0, hv0, _⟩ := O.slice
    unfold loamlaw17_To_l1
    subst hv0
    have Oa := O.ext0 (Ext.drew [] v1)
    have Ba := B.ext (Ext.drew [] v1) (by simp)
    have kba := fun i => (Ba.ext (Ext.alloc [] _ (.cells (gnC ns[j]).toArray 52)) (by simp)).cell (i := i)
    simp (disch := (first | omega | decide | (simp only [rsD] <;> omega) | fail)) only [↓rsC, rsK, rsL, ↓rsToG_0, tick_eq, tickV_eq, ne_eq, Int.reduceAdd, Int.reduceSub, Int.reduceMul, Int.reduceEq, Int.reduceLT, Int.reduceLE, Int.reduceToNat, Nat.reduceMul, Nat.reduceAdd, Nat.reduceSub, ←decide_not, kg, kgd, kbd, c1, c2, kba]
    refine appGN Oa rfl (by omega) fun v' w2 O2 T2 => ?_
    have hv := fun hm => U hx hm
    have B2 := Ba.ext T2.ext (fun hm => by have := hv hm; omega)
    obtain ⟨a3, c3, hv3, _⟩ := O2.slice
    have k2 := fun i => B2.cell (i := i)
    have f2 := fun i => B2.frozen (i := i)
    have hxv : hx ∉ blk v' := fun hm => by
      rcases T2.at' hx hm with h1 | h1
      · have := hv h1; omega
      · have := F.size
        simp only [World.size_alloc, World.size_drew] at h1
        omega
    have up2 : ∀ z ∈ blk v', y.heap.size ≤ z := fun z hz => by
      rcases T2.at' z hz with h1 | h1
      · exact U z h1
      · have := F.size
        simp only [World.size_alloc, World.size_drew] at h1
        omega
    have F2 : Ext [hx] y w2 := ((F.trans (Ext.drew _ v1))).cut T2.ext (fun z hz => .inr (U z hz))
    subst hv3
    simp (disch := (first | omega | decide | (simp only [rsD] <;> omega) | fail)) only [↓rsC, rsK, rsL, ↓rsToG_0, tick_eq, tickV_eq, ne_eq, Int.reduceAdd, Int.reduceSub, Int.reduceMul, Int.reduceEq, Int.reduceLT, Int.reduceLE, Int.reduceToNat, Nat.reduceMul, Nat.reduceAdd, Nat.reduceSub, ←decide_not, kg, kgd, kbd, c1, c2, kba, k2, f2]
    have B3 := B2.set (i := 0) (v := .slice a3 (ns.take j ++ [ns[j]]).length c3)
    have O3 := O2.ext (Ext.set (w := w2) (b := hx) (o := 0) (v := .slice a3 (ns.take j ++ [ns[j]]).length c3)) (fun z hz hm => by simp only [List.mem_singleton] at hm; subst hm; exact hxv hz)
    rw [← hsu] at O3 B3 up2 ⊢
    exact hnx _ ⟨F2.set' (.inl (by simp)), _, O3, B3, up2⟩
  rintro u v1 hu ⟨F, v, O, B, U⟩ nxt
  simp only [List.map_cons, List.map_nil, List.cons.injEq, and_true] at hu
  rw [hu]
  rw [List.take_length] at O
  have kg := fun i => (Bg.ext F (by simp; omega)).cell (i := i)
  unfold loamlaw17_To_l1
  simp (disch := (first | omega | decide | (simp only [rsD] <;> omega) | fail)) only [↓rsC, rsK, rsL, ↓rsToG_0, tick_eq, tickV_eq, ne_eq, Int.reduceAdd, Int.reduceSub, Int.reduceMul, Int.reduceEq, Int.reduceLT, Int.reduceLE, Int.reduceToNat, Nat.reduceMul, Nat.reduceAdd, Nat.reduceSub, ←decide_not, kg]
  refine xLoop_n rs.length (fun j => [i64 (j : Int)]) (fun j w' => Ext [hx] y w' ∧ OwnGN w' v ns ∧ ∃ v2, OwnGR w' v2 (rs.take j) ∧ Blk w' hx 25 [v, v2] ∧ (∀ z ∈ blk v2, y.heap.size ≤ z) ∧ ∀ z ∈ blk v2, z ∉ blk v) rfl ⟨F, O, _, Own.nil, B, fun z hz => absurd hz (nilb z), fun z hz => absurd hz (nilb z)⟩ ?_ ?_
  · rintro j hj u v3 hu ⟨F3, O3, v2, R3, B3, U3, D3⟩ nxt hnx
    simp only [List.map_cons, List.map_nil, List.cons.injEq, and_true] at hu
    rw [hu]
    have kg3 := fun i => (Bg.ext F3 (by simp; omega)).cell (i := i)
    have kgd := fun i => ((Bg.ext F3 (by simp; omega)).ext (Ext.drew [] v3) (by simp)).cell (i := i)
    have hgr := (h.ext0 ((fresh F3).trans (Ext.drew [] v3))).rr
    obtain ⟨b1, o1, rfl, z1, c1, c2⟩ := gr_at hgr hj
    have hlen : (rs.take j).length = j := by rw [List.length_take]; omega
    have hsu : rs.take (j + 1) = rs.take j ++ [rs[j]] := by rw [List.take_add_one, List.getElem?_eq_getElem hj]; rfl
    obtain ⟨a0, c0, hv0, _⟩ := R3.slice
    unfold loamlaw17_To_l2
    subst hv0
    have Ra := R3.ext0 (Ext.drew [] v3)
    have Ba := B3.ext (Ext.drew [] v3) (by simp)
    have kbd := fun i => Ba.cell (i := i)
    have kba := fun i => (Ba.ext (Ext.alloc [] _ (.cells (grC rs[j]).toArray 55)) (by simp)).cell (i := i)
    simp (disch := (first | omega | decide | (simp only [rsD] <;> omega) | fail)) only [↓rsC, rsK, rsL, ↓rsToG_0, tick_eq, tickV_eq, ne_eq, Int.reduceAdd, Int.reduceSub, Int.reduceMul, Int.reduceEq, Int.reduceLT, Int.reduceLE, Int.reduceToNat, Nat.reduceMul, Nat.reduceAdd, Nat.reduceSub, ←decide_not, kg, kg3, kgd, kbd, c1, c2, kba]
    refine appGR Ra rfl (by omega) fun v' w2 O2 T2 => ?_
    have hv := fun hm => U3 hx hm
    have B2 := Ba.ext T2.ext (fun hm => by have := hv hm; omega)
    have N2 := (O3.ext0 (Ext.drew [] v3)).ext T2.ext (fun z hz hm => D3 z hm hz)
    obtain ⟨a3, c3, hv3, _⟩ := O2.slice
    have k2 := fun i => B2.cell (i := i)
    have f2 := fun i => B2.frozen (i := i)
    have zF := F3.size
    have hxv : hx ∉ blk v' := fun hm => by
      rcases T2.at' hx hm with h1 | h1
      · have := hv h1; omega
      · simp only [World.size_alloc, World.size_drew] at h1
        omega
    have up2 : ∀ z ∈ blk v', y.heap.size ≤ z := fun z hz => by
      rcases T2.at' z hz with h1 | h1
      · exact U3 z h1
      · simp only [World.size_alloc, World.size_drew] at h1
        omega
    have dd : ∀ z ∈ blk v', z ∉ blk v := fun z hz hm => by
      rcases T2.at' z hz with h1 | h1
      · exact D3 z h1 hm
      · have := O3.lt z hm
        simp only [World.size_alloc, World.size_drew] at h1
        omega
    have hxn : hx ∉ blk v := fun hm => by have := U hx hm; omega
    have F2 : Ext [hx] y w2 := ((F3.trans (Ext.drew _ v3))).cut T2.ext (fun z hz => .inr (U3 z hz))
    subst hv3
    simp (disch := (first | omega | decide | (simp only [rsD] <;> omega) | fail)) only [↓rsC, rsK, rsL, ↓rsToG_0, tick_eq, tickV_eq, ne_eq, Int.reduceAdd, Int.reduceSub, Int.reduceMul, Int.reduceEq, Int.reduceLT, Int.reduceLE, Int.reduceToNat, Nat.reduceMul, Nat.reduceAdd, Nat.reduceSub, ←decide_not, kg, kg3, kgd, kbd, c1, c2, kba, k2, f2]
    have B4 := B2.set (i := 1) (v := .slice a3 (rs.take j ++ [rs[j]]).length c3)
    have Xs : Ext [hx] w2 (w2.setCell ⟨hx, 1, none⟩ (.slice a3 (rs.take j ++ [rs[j]]).length c3)) := Ext.set (w := w2) (b := hx)
    have O4 := O2.ext Xs (fun z hz hm => by simp only [List.mem_singleton] at hm; subst hm; exact hxv hz)
    have N4 := N2.ext Xs (fun z hz hm => by simp only [List.mem_singleton] at hm; subst hm; exact hxn hz)
    rw [← hsu] at O4 B4 N4 up2 dd ⊢
    exact hnx _ ⟨F2.set' (.inl (by simp)), N4, _, O4, B4, up2, dd⟩
  · rintro u v3 hu ⟨F3, O3, v2, R3, B3, U3, D3⟩ nxt
    simp only [List.map_cons, List.map_nil, List.cons.injEq, and_true] at hu
    rw [hu]
    rw [List.take_length] at R3
    have kg3 := fun i => (Bg.ext F3 (by simp; omega)).cell (i := i)
    have kb3 := fun i => B3.cell (i := i)
    have Bt3 := Bt.ext F3 (by simp; omega)
    have kt3 := fun i => Bt3.cell (i := i)
    have ft3 := fun i => Bt3.frozen (i := i)
    obtain ⟨a4, c4, rfl, hc4, _, hn4, hr4, _⟩ := O3.slice
    obtain ⟨a5, c5, rfl, hc5, _, hn5, hr5, _⟩ := R3.slice
    have X4 := fresh F3
    have hok := fun x hx => (h.ok x hx).ext0 X4
    have blt := fun (z : Nat) (hz : z ∈ blk (.slice a4 ns.length c4)) => U z hz
    have blt2 := fun (z : Nat) (hz : z ∈ blk (.slice a5 rs.length c5)) => U3 z hz
    unfold loamlaw17_To_l2
    simp (disch := (first | omega | decide | (simp only [rsD] <;> omega) | fail)) only [↓rsC, rsK, rsL, ↓rsToG_0, tick_eq, tickV_eq, ne_eq, Int.reduceAdd, Int.reduceSub, Int.reduceMul, Int.reduceEq, Int.reduceLT, Int.reduceLE, Int.reduceToNat, Nat.reduceMul, Nat.reduceAdd, Nat.reduceSub, ←decide_not, kg, kg3, kb3, kt3, ft3]
    have Xs : Ext [ht] v3 ((v3.setCell ⟨ht, 0, none⟩ (.slice a4 ns.length c4)).setCell ⟨ht, 1, none⟩ (.slice a5 rs.length c5)) := (Ext.set (w := v3) (b := ht)).trans Ext.set
    have hX : Ext [] w ((v3.setCell ⟨ht, 0, none⟩ (.slice a4 ns.length c4)).setCell ⟨ht, 1, none⟩ (.slice a5 rs.length c5)) := X4.new Xs (fun z hz => by simp only [List.mem_singleton] at hz; omega)
    refine ⟨hX, a4, c4, a5, c5, by trivial, ⟨hr4.ext Xs (fun z o hz hm => ?_), hc4, hn4, hr5.ext Xs (fun z o hz hm => ?_), hc5, hn5, fun x hx => (h.ok x hx).ext0 hX⟩⟩
    · have := blt z (by subst hz; simp [blk, Value.ownBlock])
      simp only [List.mem_singleton] at hm
      omega
    · have := blt2 z (by subst hz; simp [blk, Value.ownBlock])
      simp only [List.mem_singleton] at hm
      omega
end Go.Proofs.YthhcmoknppljpaaDoor
end
section
set_option linter.unusedVariables false
set_option linter.unusedSimpArgs false
set_option maxHeartbeats 4000000
namespace Go.Proofs.YthhcmoknppljpaaDoor
open Go.Sh Go.RowKit

theorem its_one (l : List Int) : ∀ u ∈ its l, u.oneCell' = true := by simp [Value.oneCell']
structure DrS (y w : World) (n j : Nat) (vl vp : Value) (L P : List Int) : Prop where
  F : Ext [] y w
  l : OwnIt w vl L
  p : OwnIt w vp P
  ul : ∀ z ∈ blk vl, y.heap.size ≤ z
  up : ∀ z ∈ blk vp, y.heap.size ≤ z
  d : ∀ z ∈ blk vl, z ∉ blk vp
  pl : P.length = j
  q : (P ++ L).Perm (oneTo n)
theorem DrS.len {y w : World} {n j : Nat} {vl vp : Value} {L P : List Int} (S : DrS y w n j vl vp L P) : L.length = n - j := by
  have := S.q.length_eq
  rw [List.length_append, S.pl, oneTo_len] at this
  omega
def moreL (n m : Nat) : List GN := (List.range m).map fun (i : Nat) => ⟨[1 + (i : Int) % ((n : Int) + 1)], none, 0, [], none, 0⟩
theorem moreL_succ (n m : Nat) : moreL n (m + 1) = moreL n m ++ [⟨[1 + (m : Int) % ((n : Int) + 1)], none, 0, [], none, 0⟩] := by
  unfold moreL
  rw [List.range_succ, List.map_append]
  rfl
abbrev rsCn3_0 := (And.intro @xu8_add (And.intro @xu8_rem (And.intro @xu8_com (And.intro @xu8_eql (And.intro @xu8_neq (And.intro @xu8_lss (And.intro @xu8_leq (And.intro @xu8_gtr (And.intro @xu16_add (And.intro @xu16_rem (And.intro @xu16_com (And.intro @xu16_eql (And.intro @xu16_neq (And.intro @xu16_lss (And.intro @xu16_leq (And.intro @xu16_gtr 
  (And.intro @xu32_add (And.intro @xu32_rem (And.intro @xu32_com (And.intro @xu32_eql (And.intro @xu32_neq (And.intro @xu32_lss (And.intro @xu32_leq (And.intro @xu32_gtr (And.intro @xu64_add (And.intro @xu64_rem (And.intro @xu64_com (And.intro @xu64_eql (And.intro @xu64_neq (And.intro @xu64_lss (And.intro @xu64_leq (And.intro @xu64_gtr (And.intro @xi64_lss 
  (And.intro @xi64_leq (And.intro @xi64_gtr (And.intro @xi64_eql (And.intro @xi64_neq (And.intro @xi64_neg (And.intro @ld_3 (And.intro @ld_5 (And.intro @ld_22 (And.intro @ld_25 (And.intro @ld_29 (And.intro @ld_32 (And.intro @fa_25_0 (And.intro @fa_32_0 (And.intro @al_25 (And.intro @al_32 (And.intro @st_25 (And.intro @st_29 (And.intro @st_32 (And.intro @bd_49_0 (And.intro @bd_49_0_1 
  (And.intro @bd_49_1 (And.intro @cv_5_3 (And.intro @ia_40 (And.intro @ia_45 (And.intro @ln_22 (And.intro @ln_40 (And.intro @ln_45 (And.intro @bs_29_1 (And.intro @bs_40_0 (And.intro @bs_40_1 (And.intro @sh_40 (And.intro @sl_40 @sm_40)))))))))))))))))))))))))))))))))))))))))))))))))))))))))))))))))
theorem CanonTurned_walk (na ra : Option Addr) (nc rc : Nat) (ns : List GN) (rs : List GR) (l : List (BitVec 8)) (al : Option Addr) (cl : Nat) (mb : BitVec 8) (w : World) (h : GIs w na nc ra rc ns rs) (hcl : l.length ≤ cl) (hnl : al = none → cl = 0) (hl0 : RowAt w al (bys l)) : Gives Tryd.prog n_loamlaw18_CanonTurned #[gV na nc ra rc ns rs, .slice al l.length cl, u8 mb] w (.bool true) := by
  refine loamlaw18_CanonTurned_of ?_
  unfold loamlaw18_CanonTurned
  have gbox : ∀ (y : World) (K : K1), xBox Tryd.prog 25 (gV na nc ra rc ns rs) y K = K (ptr y.heap.size) (y.alloc (.cells #[.slice na ns.length nc, .slice ra rs.length rc] 25)) := fun y K => xBox_r
  rw [gbox]
  have B1 : Blk (w.alloc (.cells #[.slice na ns.length nc, .slice ra rs.length rc] 25)) w.heap.size 25 [.slice na ns.length nc, .slice ra rs.length rc] := Blk.at rfl
  have X1 : Ext [] w (w.alloc (.cells #[.slice na ns.length nc, .slice ra rs.length rc] 25)) := Ext.alloc _ _ _
  have G := h.ext0 X1
  have hl1 := hl0.ext0 X1
  generalize w.alloc (.cells #[.slice na ns.length nc, .slice ra rs.length rc] 25) = y1 at *
  generalize w.heap.size = g1 at *
  refine loamlaw18_known_call (Gives.to (known18_spec y1) fun y3 F3 => ?_)
  have k3 := fun i => (B1.ext F3 (by simp)).cell (i := i)
  simp (disch := (first | omega | decide | (simp only [rsD] <;> omega) | fail)) only [↓rsC, rsK, rsL, ↓rsCn3_0, tick_eq, tickV_eq, ne_eq, Int.reduceAdd, Int.reduceSub, Int.reduceMul, Int.reduceEq, Int.reduceLT, Int.reduceLE, Int.reduceToNat, Nat.reduceMul, Nat.reduceAdd, Nat.reduceSub, ←decide_not, k3]
  refine loamlaw17_Few_call (Yld.mono (Few_spec (G.ext0 F3)) ?_)
  rintro u y4 ⟨⟨b, rfl, hb⟩, F4⟩
  have F14 := F3.trans F4
  cases b with
  | false =>
    simp (disch := (first | omega | decide | (simp only [rsD] <;> omega) | fail)) only [↓rsC, rsK, rsL, ↓rsCn3_0, tick_eq, tickV_eq, ne_eq, Int.reduceAdd, Int.reduceSub, Int.reduceMul, Int.reduceEq, Int.reduceLT, Int.reduceLE, Int.reduceToNat, Nat.reduceMul, Nat.reduceAdd, Nat.reduceSub, ←decide_not, k3]
    exact ⟨by trivial, X1.trans F14⟩
  | true =>
  have hf := hb rfl
  have hfn := hf.n
  have hfr := hf.r
  have k4 := fun i => (B1.ext F14 (by simp)).cell (i := i)
  simp (disch := (first | omega | decide | (simp only [rsD] <;> omega) | fail)) only [↓rsC, rsK, rsL, ↓rsCn3_0, tick_eq, tickV_eq, ne_eq, Int.reduceAdd, Int.reduceSub, Int.reduceMul, Int.reduceEq, Int.reduceLT, Int.reduceLE, Int.reduceToNat, Nat.reduceMul, Nat.reduceAdd, Nat.reduceSub, ←decide_not, k3, k4]
  refine loamlaw17_Of_call (Yld.mono (Of_spec17 (G.ext0 F14) (by omega) (by omega)) ?_)
  rintro u y6 ⟨F6, na6, nc6, ra6, rc6, rfl, G6⟩
  simp (disch := (first | omega | decide | (simp only [rsD] <;> omega) | fail)) only [↓rsC, rsK, rsL, ↓rsCn3_0, tick_eq, tickV_eq, ne_eq, Int.reduceAdd, Int.reduceSub, Int.reduceMul, Int.reduceEq, Int.reduceLT, Int.reduceLE, Int.reduceToNat, Nat.reduceMul, Nat.reduceAdd, Nat.reduceSub, ←decide_not, k3, k4]
  refine loamref17_Check_call (Gives.to (GCheckX_spec G6 hf) fun y F7 => ?_)
  have Fy := F14.trans (F6.trans F7)
  by_cases hc : chkV ns rs = 0
  case neg =>
    simp (disch := (first | omega | decide | (simp only [rsD] <;> omega) | fail)) only [↓rsC, rsK, rsL, ↓rsCn3_0, tick_eq, tickV_eq, ne_eq, Int.reduceAdd, Int.reduceSub, Int.reduceMul, Int.reduceEq, Int.reduceLT, Int.reduceLE, Int.reduceToNat, Nat.reduceMul, Nat.reduceAdd, Nat.reduceSub, ←decide_not, k3, k4, hc]
    exact ⟨by trivial, X1.trans Fy⟩
  have hg := chk_zero.1 hc
  have ht := can_txs (ns := ns) (rs := rs) (by omega) hfr hf.s hf.x
  have k7 := fun i => (B1.ext Fy (by simp)).cell (i := i)
  by_cases hl2 : (l.length : Int) < (ns.length : Int)
  · simp (disch := (first | omega | decide | (simp only [rsD] <;> omega) | fail)) only [↓rsC, rsK, rsL, ↓rsCn3_0, tick_eq, tickV_eq, ne_eq, Int.reduceAdd, Int.reduceSub, Int.reduceMul, Int.reduceEq, Int.reduceLT, Int.reduceLE, Int.reduceToNat, Nat.reduceMul, Nat.reduceAdd, Nat.reduceSub, ←decide_not, k3, k4, hc, k7]
    exact ⟨by trivial, X1.trans Fy⟩
  by_cases hl3 : (l.length : Int) > 200
  · simp (disch := (first | omega | decide | (simp only [rsD] <;> omega) | fail)) only [↓rsC, rsK, rsL, ↓rsCn3_0, tick_eq, tickV_eq, ne_eq, Int.reduceAdd, Int.reduceSub, Int.reduceMul, Int.reduceEq, Int.reduceLT, Int.reduceLE, Int.reduceToNat, Nat.reduceMul, Nat.reduceAdd, Nat.reduceSub, ←decide_not, k3, k4, hc, k7]
    exact ⟨by trivial, X1.trans Fy⟩
  simp (disch := (first | omega | decide | (simp only [rsD] <;> omega) | fail)) only [↓rsC, rsK, rsL, ↓rsCn3_0, tick_eq, tickV_eq, ne_eq, Int.reduceAdd, Int.reduceSub, Int.reduceMul, Int.reduceEq, Int.reduceLT, Int.reduceLE, Int.reduceToNat, Nat.reduceMul, Nat.reduceAdd, Nat.reduceSub, ←decide_not, k3, k4, hc, k7]
  have nilb : ∀ z, z ∉ blk (.slice none 0 0) := by simp [blk, Value.ownBlock]
  refine xLoop_r ns.length (fun j vs w' => ∃ v, vs = [v, i64 ((j : Int) + 1)] ∧ NewIt y w' v (oneTo j)) ⟨_, rfl, NewR.nil (Ext.refl _ _)⟩ ?_ ?_
  · rintro j hj u x1 ⟨v, hu, N⟩ nxt hnx
    simp only [List.map_cons, List.map_nil, List.cons.injEq, and_true] at hu
    rw [hu.1, hu.2]
    have hs := oneTo_succ j
    have ej : ((j + 1 : Nat) : Int) + 1 = (j : Int) + 1 + 1 := by omega
    have hjn : (j : Int) + 1 ≤ (ns.length : Int) := by omega
    unfold loamlaw18_CanonTurned_l1
    simp (disch := (first | omega | decide | (simp only [rsD] <;> omega) | fail)) only [↓rsC, rsK, rsL, ↓rsCn3_0, tick_eq, tickV_eq, ne_eq, Int.reduceAdd, Int.reduceSub, Int.reduceMul, Int.reduceEq, Int.reduceLT, Int.reduceLE, Int.reduceToNat, Nat.reduceMul, Nat.reduceAdd, Nat.reduceSub, ←decide_not, k3, k4, hc, k7]
    refine appIt N.2.1 (o := (j : Int) + 1) rfl (by rw [oneTo_len]; omega) fun v' x5 O5 T5 => ?_
    have N5 := N.app O5 T5
    rw [← hs] at N5
    simp (disch := (first | omega | decide | (simp only [rsD] <;> omega) | fail)) only [↓rsC, rsK, rsL, ↓rsCn3_0, tick_eq, tickV_eq, ne_eq, Int.reduceAdd, Int.reduceSub, Int.reduceMul, Int.reduceEq, Int.reduceLT, Int.reduceLE, Int.reduceToNat, Nat.reduceMul, Nat.reduceAdd, Nat.reduceSub, ←decide_not, k3, k4, hc, k7]
    exact hnx _ _ ⟨v', by simp [ej], N5⟩
  rintro u x1 ⟨v, hu, N⟩ nxt
  simp only [List.map_cons, List.map_nil, List.cons.injEq, and_true] at hu
  rw [hu.1, hu.2]
  have hjn : ¬ ((ns.length : Int) + 1 ≤ (ns.length : Int)) := by omega
  unfold loamlaw18_CanonTurned_l1
  simp (disch := (first | omega | decide | (simp only [rsD] <;> omega) | fail)) only [↓rsC, rsK, rsL, ↓rsCn3_0, tick_eq, tickV_eq, ne_eq, Int.reduceAdd, Int.reduceSub, Int.reduceMul, Int.reduceEq, Int.reduceLT, Int.reduceLE, Int.reduceToNat, Nat.reduceMul, Nat.reduceAdd, Nat.reduceSub, ←decide_not, k3, k4, hc, k7]
  refine xLoop_r ns.length (fun j vs w' => ∃ vl vp L P, vs = [vl, vp, i64 (j : Int)] ∧ DrS y w' ns.length j vl vp L P) ⟨_, _, _, [], rfl, N.1, N.2.1, Own.nil, N.2.2, fun z hz => absurd hz (nilb z), fun z hz => nilb z, rfl, by simp⟩ ?_ ?_
  · rintro j hj u x2 ⟨vl, vp, L, P, hu, S⟩ nxt2 hnx
    simp only [List.map_cons, List.map_nil, List.cons.injEq, and_true] at hu
    rw [hu.1, hu.2.1, hu.2.2]
    have hLl := S.len
    have hPl := S.pl
    obtain ⟨bo, oo, rfl, _, co⟩ := (hl1.ext0 (Fy.trans S.F)).at (i := j) (by simp; omega)
    rw [List.getElem_map] at co
    obtain ⟨a2, c2, hv2, hc2, _, hn2, R2, _⟩ := S.l.slice
    generalize hob : l[j]'(by omega) = ob at *
    have hk : ob.toNat % L.length < L.length := Nat.mod_lt _ (by omega)
    obtain ⟨k, hkd⟩ : ∃ k, k = ob.toNat % L.length := ⟨_, rfl⟩
    rw [← hkd] at hk
    have ek : (ob.toNat : Int) % (L.length : Int) = (k : Int) := by rw [hkd]; simp
    have hperm := draw_perm S.q hk
    obtain ⟨b2, o2, ea2, _, cc2⟩ := its_at R2 hk
    have hL0 : (0 : Int) < (L.length : Int) := by omega
    generalize hLk : L[k] = q at *
    subst hv2
    have hl200 : L.length ≤ 60 := by omega
    unfold loamlaw18_CanonTurned_l2
    rw [ea2] at S R2 ⊢
    simp (disch := (first | omega | decide | (simp only [rsD] <;> omega) | fail)) only [↓rsC, rsK, rsL, ↓rsCn3_0, tick_eq, tickV_eq, ne_eq, Int.reduceAdd, Int.reduceSub, Int.reduceMul, Int.reduceEq, Int.reduceLT, Int.reduceLE, Int.reduceToNat, Nat.reduceMul, Nat.reduceAdd, Nat.reduceSub, ←decide_not, k3, k4, hc, k7, co, ek, cc2]
    refine appIt S.p (o := q) rfl (by omega) fun vp' x5 O5 T5 => ?_
    have F5 : Ext [] y x5 := S.F.new T5.ext fun z hz => S.up z hz
    have l5 := S.l.ext T5.ext fun z hz hm => S.d z hz hm
    have R5 := R2.ext T5.ext fun b' o' hb hm => by
      cases hb
      exact S.d b2 (by simp [blk, Value.ownBlock]) hm
    have U5 : ∀ z ∈ blk vp', y.heap.size ≤ z := fun z hz => by
      rcases T5.at' z hz with h1 | h1
      · exact S.up z h1
      · have := S.F.size; omega
    have hkk : (k : Int) + 1 ≤ (L.length : Int) := by omega
    simp (disch := (first | omega | decide | (simp only [rsD] <;> omega) | fail)) only [↓rsC, rsK, rsL, ↓rsCn3_0, tick_eq, tickV_eq, ne_eq, Int.reduceAdd, Int.reduceSub, Int.reduceMul, Int.reduceEq, Int.reduceLT, Int.reduceLE, Int.reduceToNat, Nat.reduceMul, Nat.reduceAdd, Nat.reduceSub, ←decide_not, k3, k4, hc, k7, co, ek, cc2]
    have e1 : ((k : Int) + 1).toNat = k + 1 := by omega
    rw [e1]
    have zd : x5.drew.heap.size = x5.heap.size := World.size_drew _
    rw [← zd]
    have F5d := F5.trans (Ext.drew [] x5)
    have R5d := R5.ext0 (Ext.drew [] x5)
    have O5d := O5.ext0 (Ext.drew [] x5)
    have O5lt := O5d.lt
    generalize x5.drew = xd at *
    have E6 : Blk (xd.alloc (.cells #[] 3)) xd.heap.size 3 [] := Blk.at (cs := []) rfl
    have OE : Own (xd.alloc (.cells #[] 3)) 3 1 (.slice (some ⟨xd.heap.size, 0, none⟩) 0 0) 0 [] := Own.close (rest := []) (by rw [List.append_nil]; exact E6) (Nat.le_refl _) (by decide) (by rfl) (by rfl)
    have X6 : Ext [] xd (xd.alloc (.cells #[] 3)) := Ext.alloc _ _ _
    have UE : ∀ z ∈ blk (.slice (some ⟨xd.heap.size, 0, none⟩) 0 0), xd.heap.size ≤ z := by simp [blk, Value.ownBlock]
    have zs6 : (xd.alloc (.cells #[] 3)).heap.size = xd.heap.size + 1 := World.size_alloc _ _
    generalize xd.alloc (.cells #[] 3) = x6 at *
    have hb2 : b2 < xd.heap.size := by
      obtain ⟨_, _, h1, h2, _⟩ := its_at R5d hk
      cases h1
      exact h2
    have ht : (its L).take k = its (L.take k) := by rw [its, its, List.map_take]
    have hd : (its L).drop (k + 1) = its (L.drop (k + 1)) := by rw [its, its, List.map_drop]
    have R6 := (R5d.ext0 X6).take k
    have R6' := (R5d.ext0 X6).drop (k + 1) c2 (by simpa using hc2)
    rw [ht] at R6
    rw [hd] at R6'
    have htl : (L.take k).length = k := by rw [List.length_take]; omega
    refine xApp (e := 3) (s := 1) (n := 0) (m := k) (xs := []) (news := its (L.take k)) (bytes := 8) (z := .int .i64 0) (by kernel_rfl) (by kernel_rfl) (by rfl) (by decide) OE (by rw [List.length_map, htl]; omega) R6 (fun h => by cases h) (by omega) (its_one _) (by omega) (by omega) fun v7 x7 O7 T7 => ?_
    rw [Nat.zero_add, List.nil_append] at O7
    have U7 : ∀ z ∈ blk v7, xd.heap.size ≤ z := fun z hz => by
      rcases T7.at' z hz with h1 | h1
      · exact UE z h1
      · omega
    have Xd7 : Ext [] xd x7 := X6.new T7.ext fun z hz => UE z hz
    have R7' := R6'.ext T7.ext fun b' o' hb hm => by
      have h1 := UE b' hm
      split at hb
      · cases hb; omega
      · cases hb; simp only [Addr.add] at h1; omega
    refine xApp (e := 3) (s := 1) (n := k) (m := L.length - (k + 1)) (xs := its (L.take k)) (news := its (L.drop (k + 1))) (bytes := 8) (z := .int .i64 0) (by kernel_rfl) (by kernel_rfl) (by rfl) (by decide) O7 (by simp) R7' (fun h => by split at h <;> cases h) (by omega) (its_one _) (by omega) (by omega) fun v8 x8 O8 T8 => ?_
    have U8 : ∀ z ∈ blk v8, xd.heap.size ≤ z := fun z hz => by
      rcases T8.at' z hz with h1 | h1
      · exact U7 z h1
      · have := Xd7.size; omega
    have Xd8 : Ext [] xd x8 := Xd7.new T8.ext fun z hz => U7 z hz
    rw [← List.map_append] at O8
    rw [show k + (L.length - (k + 1)) = (L.take k ++ L.drop (k + 1)).length by rw [List.length_append, htl, List.length_drop]] at O8
    simp (disch := (first | omega | decide | (simp only [rsD] <;> omega) | fail)) only [↓rsC, rsK, rsL, ↓rsCn3_0, tick_eq, tickV_eq, ne_eq, Int.reduceAdd, Int.reduceSub, Int.reduceMul, Int.reduceEq, Int.reduceLT, Int.reduceLE, Int.reduceToNat, Nat.reduceMul, Nat.reduceAdd, Nat.reduceSub, ←decide_not, k3, k4, hc, k7, co, ek, cc2]
    have zy := F5d.size
    refine hnx _ _ ⟨v8, vp', L.take k ++ L.drop (k + 1), P ++ [q], by simp, F5d.trans Xd8, O8, O5d.ext0 Xd8, fun z hz => by have := U8 z hz; omega, U5, fun z hz hm => by have := U8 z hz; have := O5lt z hm; omega, by simp [hPl], hperm⟩
  rintro u x2 ⟨vl, vp, L, P, hu, S⟩ nxt2
  simp only [List.map_cons, List.map_nil, List.cons.injEq, and_true] at hu
  rw [hu.1, hu.2.1, hu.2.2]
  have hLl := S.len
  have hL : L = [] := List.eq_nil_of_length_eq_zero (by omega)
  have hP := S.q
  rw [hL, List.append_nil] at hP
  have hO := perm_ok hP
  obtain ⟨ap, cp, hvp, hcp, _, hnp, Rp, _⟩ := S.p.slice
  subst hvp
  have F2 := Fy.trans S.F
  have k8 := fun i => (B1.ext F2 (by simp)).cell (i := i)
  unfold loamlaw18_CanonTurned_l2
  simp (disch := (first | omega | decide | (simp only [rsD] <;> omega) | fail)) only [↓rsC, rsK, rsL, ↓rsCn3_0, tick_eq, tickV_eq, ne_eq, Int.reduceAdd, Int.reduceSub, Int.reduceMul, Int.reduceEq, Int.reduceLT, Int.reduceLE, Int.reduceToNat, Nat.reduceMul, Nat.reduceAdd, Nat.reduceSub, ←decide_not, k3, k4, hc, k7, k8]
  refine loamlaw17_Of_call (Yld.mono (Of_spec17 (G.ext0 F2) (by omega) (by omega)) ?_)
  rintro u y5 ⟨F5, na5, nc5, ra5, rc5, rfl, G5⟩
  have F15 := F2.trans F5
  simp (disch := (first | omega | decide | (simp only [rsD] <;> omega) | fail)) only [↓rsC, rsK, rsL, ↓rsCn3_0, tick_eq, tickV_eq, ne_eq, Int.reduceAdd, Int.reduceSub, Int.reduceMul, Int.reduceEq, Int.reduceLT, Int.reduceLE, Int.reduceToNat, Nat.reduceMul, Nat.reduceAdd, Nat.reduceSub, ←decide_not, k3, k4, hc, k7, k8]
  refine loamref17_Pick_call (Yld.mono (RPick_spec G5 hf.h (fun x hx => (hg.x x hx).1) (fun r hr => (hg.s r hr).2) hO (Rp.ext0 F5)) ?_)
  rintro u y8 ⟨F8, na', nc', ra', rc', ns', v, hb8, rfl, G8, hn8, hr8, gt, hgt, rfl, _, O8, A8, D8⟩
  obtain ⟨rs', hrs⟩ : ∃ rs' : List GR, rs' = rs.map fun r => ⟨r.s, noV P r.to⟩ := ⟨_, rfl⟩
  rw [← hrs] at G8 ⊢
  have hrl : rs'.length = rs.length := by rw [hrs]; simp
  have hPl : P.length = ns.length := S.pl
  have hnl' : ns'.length = ns.length := by
    have := congrArg List.length hb8
    rw [List.length_map, List.length_map] at this
    omega
  have F18 := F15.trans F8
  have zk := (B1.ext F18 (by simp)).lt
  have zy5 := F15.size
  simp (disch := (first | omega | decide | (simp only [rsD] <;> omega) | fail)) only [↓rsC, rsK, rsL, ↓rsCn3_0, tick_eq, tickV_eq, ne_eq, Int.reduceAdd, Int.reduceSub, Int.reduceMul, Int.reduceEq, Int.reduceLT, Int.reduceLE, Int.reduceToNat, Nat.reduceMul, Nat.reduceAdd, Nat.reduceSub, ←decide_not, k3, k4, hc, k7, k8]
  have Bx0 : Blk (y8.alloc (.cells #[.slice na' ns'.length nc', .slice ra' rs'.length rc'] 32)) y8.heap.size 32 [.slice na' ns'.length nc', .slice ra' rs'.length rc'] := Blk.at rfl
  have X9 : Ext [] y8 (y8.alloc (.cells #[.slice na' ns'.length nc', .slice ra' rs'.length rc'] 32)) := Ext.alloc _ _ _
  have zs9 : (y8.alloc (.cells #[.slice na' ns'.length nc', .slice ra' rs'.length rc'] 32)).heap.size = y8.heap.size + 1 := World.size_alloc _ _
  generalize y8.alloc (.cells #[.slice na' ns'.length nc', .slice ra' rs'.length rc'] 32) = y9 at *
  obtain ⟨gx, hgx⟩ : ∃ g, g = y8.heap.size := ⟨_, rfl⟩
  rw [← hgx] at Bx0 zs9 ⊢
  have z58 := F8.size
  have F59 := F8.trans X9
  have hvlt := O8.lt
  obtain ⟨v0, hv0⟩ : ∃ v0, v0 = Value.slice na' ns'.length nc' := ⟨_, rfl⟩
  rw [← hv0] at O8 A8 D8 Bx0 hvlt
  have U0 : ∀ z ∈ blk v0, y5.heap.size ≤ z := fun z hz => by
    rw [hv0] at hz
    cases na' with
    | none => simp [blk, Value.ownBlock] at hz
    | some a =>
      have := hn8 a rfl
      simp only [blk, Value.ownBlock, Option.toList_some, List.mem_singleton] at hz
      omega
  have hm : (mb % 5#8).toNat ≤ 4 := by rw [BitVec.toNat_umod]; have : mb.toNat % 5 < 5 := Nat.mod_lt _ (by omega); simpa using (by omega : mb.toNat % 5 ≤ 4)
  generalize hmm : (mb % 5#8).toNat = m at *
  refine xLoop_n m (fun j => [i64 (j : Int)]) (fun j w' => Ext [] y5 w' ∧ ∃ v nsj, nsj.map bare = P.map (canN ns P) ++ moreL ns.length j ∧ OwnN w' v nsj ∧ Blk w' gx 32 [v, .slice ra' rs'.length rc'] ∧ (∀ z ∈ blk v, y5.heap.size ≤ z) ∧ gx ∉ blk v ∧ (∀ x ∈ nsj, NOk w' x ∧ Apt (gx :: blk v) x) ∧ (rs' = [] ∨ ∃ b o, ra' = some ⟨b, o, none⟩ ∧ b < w'.heap.size ∧ b ∉ gx :: blk v) ∧ RowAt w' ra' (rs'.flatMap grC)) rfl ⟨F59, v0, ns', by simpa [moreL] using hb8, O8.ext0 X9, Bx0, U0, fun hh => by have := hvlt _ hh; omega, fun x hx => ⟨(G8.ok x hx).ext0 X9, (A8 x hx).more (G8.ok x hx) fun b hb => ?_⟩, ?_, G8.rr.ext0 X9⟩ ?_ ?_
  · rcases List.mem_cons.1 hb with e | e
    · exact .inr (by omega)
    · exact .inl e
  · by_cases he : rs' = []
    · exact .inl he
    · right
      obtain ⟨b, o, e1, e2, _⟩ := G8.rr.get (fun h0 => he (by cases rs' with
        | nil => rfl
        | cons r t => simp [grC] at h0))
      refine ⟨b, o, e1, by omega, fun hh => ?_⟩
      rcases List.mem_cons.1 hh with e | e
      · omega
      · exact D8 _ e1 e
  · rintro j hj u x1 hu ⟨F, v, nsj, hnj, O, B, U, hgv, A, D, R⟩ nxt3 hnx
    simp only [List.map_cons, List.map_nil, List.cons.injEq, and_true] at hu
    rw [hu]
    have hnl : nsj.length = ns.length + j := by
      have := congrArg List.length hnj
      rw [List.length_map, List.length_append, List.length_map] at this
      simp [moreL] at this
      omega
    have hms := moreL_succ ns.length j
    obtain ⟨a0, c0, hva, _⟩ := O.slice
    have Fd := F.trans (Ext.drew [] x1)
    have Bd := B.ext (Ext.drew [] x1) (by simp)
    have kd := fun i => Bd.cell (i := i)
    have zbd := Bd.lt
    have zd : x1.drew.heap.size = x1.heap.size := World.size_drew _
    rw [zd] at zbd
    have hjm : (j : Int) < (m : Int) := by omega
    unfold loamlaw18_CanonTurned_l3
    subst hva
    obtain ⟨pm, hpm⟩ : ∃ pm, pm = (j : Int) % ((ns.length : Int) + 1) := ⟨_, rfl⟩
    have pm0 : 0 ≤ pm := by rw [hpm]; exact Int.emod_nonneg _ (by omega)
    have pm1 : pm < (ns.length : Int) + 1 := by rw [hpm]; exact Int.emod_lt_of_pos _ (by omega)
    rw [← hpm] at hms
    have epm := hpm.symm
    simp (disch := (first | omega | decide | (simp only [rsD] <;> omega) | fail)) only [↓rsC, rsK, rsL, ↓rsCn3_0, tick_eq, tickV_eq, ne_eq, Int.reduceAdd, Int.reduceSub, Int.reduceMul, Int.reduceEq, Int.reduceLT, Int.reduceLE, Int.reduceToNat, Nat.reduceMul, Nat.reduceAdd, Nat.reduceSub, ←decide_not, k3, k4, hc, k7, k8, kd, hmm, epm]
    rw [← zd]
    have Od := O.ext0 (Ext.drew [] x1)
    have Ad : ∀ x ∈ nsj, NOk x1.drew x ∧ Apt (gx :: blk (.slice a0 nsj.length c0)) x := fun x hx => ⟨(A x hx).1.ext0 (Ext.drew [] x1), (A x hx).2⟩
    have Rd := R.ext0 (Ext.drew [] x1)
    rw [← zd] at D
    rw [← zd] at zbd
    generalize x1.drew = xd at *
    have Ba : Blk (xd.alloc (.cells #[i64 (1 + pm)] 3)) xd.heap.size 3 [i64 (1 + pm)] := Blk.at rfl
    have Xa : Ext [] xd (xd.alloc (.cells #[i64 (1 + pm)] 3)) := Ext.alloc _ _ _
    have zsa : (xd.alloc (.cells #[i64 (1 + pm)] 3)).heap.size = xd.heap.size + 1 := World.size_alloc _ _
    have Odlt := Od.lt
    generalize xd.alloc (.cells #[i64 (1 + pm)] 3) = xa at *
    rw [← zsa]
    obtain ⟨gp, hgp⟩ : ∃ g, g = xd.heap.size := ⟨_, rfl⟩
    rw [← hgp] at Ba ⊢
    obtain ⟨X, hX⟩ : ∃ X : GN, X = ⟨[1 + pm], some ⟨gp, 0, none⟩, 1, [], none, 0⟩ := ⟨_, rfl⟩
    have hXb : bare X = ⟨[1 + pm], none, 0, [], none, 0⟩ := by rw [hX]; rfl
    have hXg : gnC X = [.slice (some ⟨gp, 0, none⟩) 1 1, .slice none 0 0] := by rw [hX]; rfl
    have NX : NOk xa X := by
      rw [hX]
      exact ⟨Ba.row, Nat.le_refl _, fun e => (by cases e), .nil, Nat.le_refl _, fun _ => rfl⟩
    have AX : Apt (gx :: blk (.slice a0 nsj.length c0)) X := by
      rw [hX]
      refine ⟨fun y hy _ hm => ?_, fun y hy => by cases hy⟩
      cases hy
      rcases List.mem_cons.1 hm with e | e
      · simp only at e; omega
      · have := Odlt _ e; simp only at this; omega
    have Aa : ∀ x ∈ nsj, NOk xa x ∧ Apt (gx :: blk (.slice a0 nsj.length c0)) x := fun x hx => ⟨(Ad x hx).1.ext0 Xa, (Ad x hx).2⟩
    have Fa := Fd.trans Xa
    have Ra := Rd.ext0 Xa
    have zya := Fa.size
    refine appN (Od.ext0 Xa) (x := X) hXg.symm (by omega) fun v' x9 O9 T9 => ?_
    have F9 : Ext [] y5 x9 := Fa.new T9.ext fun z hz => U z hz
    have B9 := (Bd.ext Xa (by simp)).ext T9.ext hgv
    have A9 := fun {w6 : World} (F6 : Ext [gx] x9 w6) => nodes_app Aa NX AX T9 F6
    have hgv9 : gx ∉ blk v' := fun hh => by
      rcases T9.at' gx hh with e | e
      · exact hgv e
      · omega
    have U9 : ∀ z ∈ blk v', y5.heap.size ≤ z := fun z hz => by
      rcases T9.at' z hz with e | e
      · exact U z e
      · omega
    have z9 := T9.ext.size
    have D9 : rs' = [] ∨ ∃ b o, ra' = some ⟨b, o, none⟩ ∧ b < x9.heap.size ∧ b ∉ gx :: blk v' := by
      rcases D with e | ⟨b, o, e1, e2, e3⟩
      · exact .inl e
      · refine .inr ⟨b, o, e1, by omega, fun hh => ?_⟩
        rcases List.mem_cons.1 hh with e | e
        · exact e3 (by rw [e]; exact List.mem_cons_self ..)
        · rcases T9.at' b e with e | e
          · exact e3 (List.mem_cons_of_mem _ e)
          · omega
    have R9 : RowAt x9 ra' (rs'.flatMap grC) := by
      rcases D with e | ⟨b, o, e1, e2, e3⟩
      · rw [e]; exact .nil
      · exact Ra.ext T9.ext fun b' o' hb hm => by
          rw [e1] at hb
          cases hb
          exact e3 (List.mem_cons_of_mem _ hm)
    obtain ⟨a3, c3, hv3, _⟩ := O9.slice
    have k9 := fun i => B9.cell (i := i)
    have f9 := fun i => B9.frozen (i := i)
    subst hv3
    simp (disch := (first | omega | decide | (simp only [rsD] <;> omega) | fail)) only [↓rsC, rsK, rsL, ↓rsCn3_0, tick_eq, tickV_eq, ne_eq, Int.reduceAdd, Int.reduceSub, Int.reduceMul, Int.reduceEq, Int.reduceLT, Int.reduceLE, Int.reduceToNat, Nat.reduceMul, Nat.reduceAdd, Nat.reduceSub, ←decide_not, k3, k4, hc, k7, k8, kd, hmm, epm, k9, f9]
    have B10 := B9.set (i := 0) (v := .slice a3 (nsj ++ [X]).length c3)
    have O10 := O9.ext (Ext.set (w := x9) (b := gx) (o := 0) (v := .slice a3 (nsj ++ [X]).length c3)) (fun z hz hm => by simp only [List.mem_singleton] at hm; subst hm; exact hgv9 hz)
    have hgy : y5.heap.size ≤ gx := by omega
    refine hnx _ ⟨F9.set' (.inr hgy), _, nsj ++ [X], by rw [List.map_append, hnj, hms, List.map_singleton, hXb, List.append_assoc], O10, B10, U9, hgv9, A9 Ext.set, ?_, ?_⟩
    · simpa only [World.size_setCell] using D9
    · rcases D9 with e | ⟨b, o, e1, e2, e3⟩
      · rw [e]; exact .nil
      · exact R9.ext (Ext.set (w := x9) (b := gx) (o := 0) (v := .slice a3 (nsj ++ [X]).length c3)) fun b' o' hb hm => by
          rw [e1] at hb
          cases hb
          simp only [List.mem_singleton] at hm
          exact e3 (by rw [hm]; exact List.mem_cons_self ..)
  rintro u x1 hu ⟨F, v, nsj, hnj, O, B, U, hgv, A, D, R⟩ nxt3
  simp only [List.map_cons, List.map_nil, List.cons.injEq, and_true] at hu
  rw [hu]
  obtain ⟨a0, c0, hva, hc0, _, hn0, R0, _⟩ := O.slice
  subst hva
  have kb := fun i => B.cell (i := i)
  unfold loamlaw18_CanonTurned_l3
  simp (disch := (first | omega | decide | (simp only [rsD] <;> omega) | fail)) only [↓rsC, rsK, rsL, ↓rsCn3_0, tick_eq, tickV_eq, ne_eq, Int.reduceAdd, Int.reduceSub, Int.reduceMul, Int.reduceEq, Int.reduceLT, Int.reduceLE, Int.reduceToNat, Nat.reduceMul, Nat.reduceAdd, Nat.reduceSub, ←decide_not, k3, k4, hc, k7, k8, kb, hmm]
  have GX : GIs x1 a0 c0 ra' rc' nsj rs' := ⟨R0, hc0, hn0, R, G8.rl, G8.rn, fun x hx => (A x hx).1⟩
  have hnl2 : nsj.length = ns.length + m := by
    have := congrArg List.length hnj
    rw [List.length_map, List.length_append, List.length_map] at this
    simp [moreL] at this
    omega
  have hturn := turned_can hg hP hnj
  rw [← hrs] at hturn
  have hfj : FewH nsj rs' := by
    refine ⟨by omega, by omega, fun x hx => ?_⟩
    have hm1 : bare x ∈ P.map (canN ns P) ++ moreL ns.length m := by rw [← hnj]; exact List.mem_map.2 ⟨x, hx, rfl⟩
    rcases List.mem_append.1 hm1 with h1 | h1
    · obtain ⟨q, hq, e⟩ := List.mem_map.1 h1
      obtain ⟨hj, e1, e2⟩ := ptrs_getd (hO.ok q hq)
      have h3 := hf.x _ (List.getElem_mem hj)
      have e3 : x.p.length = (ptrsOf ns q).length := by
        have := congrArg (fun z => z.p.length) e
        simpa [bare, canN] using this.symm
      have e4 : x.d.length = (dataOf ns q).length := by
        have := congrArg (fun z => z.d.length) e
        simpa [bare, canN] using this.symm
      rw [e3, e4, e1, e2]
      omega
    · obtain ⟨i, _, e⟩ := List.mem_map.1 h1
      have e3 : x.p.length = 1 := by
        have := congrArg (fun z => z.p.length) e
        simpa [bare] using this.symm
      have e4 : x.d.length = 0 := by
        have := congrArg (fun z => z.d.length) e
        simpa [bare] using this.symm
      omega
  refine loamlaw17_To_call (Yld.mono (To_spec17 GX (by omega) (by omega)) ?_)
  rintro u y20 ⟨F20, na20, nc20, ra20, rc20, rfl, G20⟩
  have F1x := F15.trans F
  have F120 := F1x.trans F20
  have zb20 := (B1.ext F120 (by simp)).lt
  have k20 := fun i => (B1.ext F120 (by simp)).cell (i := i)
  simp (disch := (first | omega | decide | (simp only [rsD] <;> omega) | fail)) only [↓rsC, rsK, rsL, ↓rsCn3_0, tick_eq, tickV_eq, ne_eq, Int.reduceAdd, Int.reduceSub, Int.reduceMul, Int.reduceEq, Int.reduceLT, Int.reduceLE, Int.reduceToNat, Nat.reduceMul, Nat.reduceAdd, Nat.reduceSub, ←decide_not, k3, k4, hc, k7, k8, kb, hmm, k20]
  have B21 : Blk (y20.alloc (.cells #[.slice na20 nsj.length nc20, .slice ra20 rs'.length rc20] 25)) y20.heap.size 25 [.slice na20 nsj.length nc20, .slice ra20 rs'.length rc20] := Blk.at rfl
  have X21 : Ext [] y20 (y20.alloc (.cells #[.slice na20 nsj.length nc20, .slice ra20 rs'.length rc20] 25)) := Ext.alloc _ _ _
  have B22 := B21.ext (Ext.drew [] _) (by simp)
  have X22 := X21.trans (Ext.drew [] _)
  generalize (y20.alloc (.cells #[.slice na20 nsj.length nc20, .slice ra20 rs'.length rc20] 25)).drew = y22 at *
  generalize y20.heap.size = g22 at *
  have G22 := G20.ext0 X22
  have F122 := F120.trans X22
  refine canon_Same_call (Yld.mono (CSame_spec (G.ext0 F122) G22 hf.h hfj) ?_)
  rintro u y23 hu
  obtain ⟨rfl, F23⟩ := boolTrue hu ⟨hturn.1.symm, hturn.2.symm⟩
  have F123 := F122.trans F23
  have k23 := fun i => (B1.ext F123 (by simp)).cell (i := i)
  have k23b := fun i => (B22.ext F23 (by simp)).cell (i := i)
  simp (disch := (first | omega | decide | (simp only [rsD] <;> omega) | fail)) only [↓rsC, rsK, rsL, ↓rsCn3_0, tick_eq, tickV_eq, ne_eq, Int.reduceAdd, Int.reduceSub, Int.reduceMul, Int.reduceEq, Int.reduceLT, Int.reduceLE, Int.reduceToNat, Nat.reduceMul, Nat.reduceAdd, Nat.reduceSub, ←decide_not, k3, k4, hc, k7, k8, kb, hmm, k20, k23, k23b]
  refine canon_Text_call (Yld.mono (CText_spec (G.ext0 F123) hf.h ht) ?_)
  rintro u y24 ⟨rfl, F24⟩
  have k24b := fun i => (B22.ext (F23.trans F24) (by simp)).cell (i := i)
  simp (disch := (first | omega | decide | (simp only [rsD] <;> omega) | fail)) only [↓rsC, rsK, rsL, ↓rsCn3_0, tick_eq, tickV_eq, ne_eq, Int.reduceAdd, Int.reduceSub, Int.reduceMul, Int.reduceEq, Int.reduceLT, Int.reduceLE, Int.reduceToNat, Nat.reduceMul, Nat.reduceAdd, Nat.reduceSub, ←decide_not, k3, k4, hc, k7, k8, kb, hmm, k20, k23, k23b, k24b]
  refine canon_Text_call (Yld.mono (CText_spec (G22.ext0 (F23.trans F24)) hfj (by rw [hturn.1, hturn.2]; exact ht)) ?_)
  rintro u y25 ⟨rfl, F25⟩
  rw [hturn.1, hturn.2]
  simp (disch := (first | omega | decide | (simp only [rsD] <;> omega) | fail)) only [↓rsC, rsK, rsL, ↓rsCn3_0, tick_eq, tickV_eq, ne_eq, Int.reduceAdd, Int.reduceSub, Int.reduceMul, Int.reduceEq, Int.reduceLT, Int.reduceLE, Int.reduceToNat, Nat.reduceMul, Nat.reduceAdd, Nat.reduceSub, ←decide_not, k3, k4, hc, k7, k8, kb, hmm, k20, k23, k23b, k24b]
  exact ⟨by trivial, X1.trans (F123.trans (F24.trans F25))⟩
theorem CanonTurned_spec (a : GP) (l : List (BitVec 8)) (al : Option Addr) (n c : Nat) (m : Int) (hm : 0 ≤ m ∧ m ≤ 255) (w : World) (h : GIs w a.na a.nc a.ra a.rc a.ns a.rs) (hl : BytesArg w l al n c) : Gives Tryd.prog n_loamlaw18_CanonTurned #[gPV a, .slice al n c, .int .u8 m] w (.bool true) := by
  obtain ⟨na, nc, ra, rc, ns, rs⟩ := a
  obtain ⟨rfl, h1, -, h2, h3⟩ := hl
  obtain ⟨x, rfl⟩ : ∃ x : BitVec 8, m = (x.toNat : Int) := ⟨BitVec.ofNat 8 m.toNat, by rw [BitVec.toNat_ofNat]; omega⟩
  exact CanonTurned_walk na ra nc rc ns rs l al c x w h h1 h2 h3
end Go.Proofs.YthhcmoknppljpaaDoor
end
